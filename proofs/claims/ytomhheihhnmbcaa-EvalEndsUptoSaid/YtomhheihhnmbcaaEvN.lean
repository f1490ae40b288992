/- Layer 9: nodes; the program's Node. No conditions. -/
import Derived.Test.YtomhheihhnmbcaaEvH
namespace Go.Proofs.Ytomhheihhnmbcaa
open Go.RowKit
set_option linter.unusedVariables false
set_option linter.unusedSimpArgs false

/-- A node in memory. -/
inductive NodeV
  | mk (op kind : Int) (A : Option Addr) (c : Nat) (args : List NodeV) (vk : Int) (vb : Nat) (pos attr : Int)
def NodeV.cells : NodeV → List Value
  | .mk op kind A c args vk vb pos a => [.int .i64 op, .int .i64 kind, .slice A args.length c, .int .i64 vk, .int .u64 vb, .int .i64 pos, .int .i64 a]
def NodeV.val (n : NodeV) : Value := .agg n.cells.toArray
theorem NodeV.len (n : NodeV) : n.cells.length = 7 := by cases n; rfl
/-- It lies in memory, no deeper than d. -/
def okN : Nat → NodeV → World → Nat → Prop
  | 0, _, _, _ => False
  | d + 1, .mk op kind A c args vk vb pos a, w, B => Rd w B A (args.flatMap NodeV.cells) ∧ args.length ≤ 1048576 ∧ vb < 18446744073709551616 ∧ ∀ x ∈ args, okN d x w B
/-- What it is, to the program and to the document. -/
def evalN (kk : LookV) : Nat → NodeV → V
  | 0, _ => none0
  | d + 1, .mk op kind A c args vk vb pos a =>
    if op = 40 then clean ⟨vk, vb⟩ else if op = 41 then attrL kk.es kk.cur a else if op = 25 then intV (hasL kk.bs pos).length
    else if op = 42 ∨ (26 ≤ op ∧ op ≤ 31) then aggV op ((hasL kk.bs pos).map fun at_ => attrL kk.es at_ a) else applyV op (args.map (evalN kk d))
def refN (kk : LookV) : Nat → NodeV → V
  | 0, _ => none0
  | d + 1, .mk op kind A c args vk vb pos a =>
    if op = 40 then clean ⟨vk, vb⟩ else if op = 41 then attrL kk.es kk.cur a
    else if op = 42 ∨ (25 ≤ op ∧ op ≤ 31) then overB op ((hasL kk.bs pos).map fun at_ => attrL kk.es at_ a) else applyV op (args.map (refN kk d))

theorem okN.below {w w' : World} {B : Nat} (hb : Below B w w') : ∀ {d : Nat} {n : NodeV}, okN d n w B → okN d n w' B
  | 0, _, h => h
  | d + 1, .mk .., h => ⟨h.1.below hb, h.2.1, h.2.2.1, fun x hx => okN.below hb (h.2.2.2 x hx)⟩
theorem okN.more {w : World} {B B' : Nat} (hB : B ≤ B') : ∀ {d : Nat} {n : NodeV}, okN d n w B → okN d n w B'
  | 0, _, h => h
  | d + 1, .mk .., h => ⟨h.1.more hB, h.2.1, h.2.2.1, fun x hx => okN.more hB (h.2.2.2 x hx)⟩
theorem okN.old {w w' : World} {d : Nat} {n : NodeV} (h : okN d n w w.heap.size) (hb : Below w.heap.size w w') : okN d n w' w'.heap.size := (h.below hb).more hb.size

theorem eval_ref {kk : LookV} {w : World} {B : Nat} (hk : kk.ok w B) : ∀ {d : Nat} {n : NodeV}, evalN kk d n = refN kk d n
  | 0, _ => rfl
  | d + 1, .mk op kind A c args vk vb pos a => by
    show (if op = 40 then clean ⟨vk, vb⟩ else if op = 41 then attrL kk.es kk.cur a else if op = 25 then intV (hasL kk.bs pos).length
      else if op = 42 ∨ (26 ≤ op ∧ op ≤ 31) then aggV op ((hasL kk.bs pos).map fun at_ => attrL kk.es at_ a) else applyV op (args.map (evalN kk d))) =
      (if op = 40 then clean ⟨vk, vb⟩ else if op = 41 then attrL kk.es kk.cur a
      else if op = 42 ∨ (25 ≤ op ∧ op ≤ 31) then overB op ((hasL kk.bs pos).map fun at_ => attrL kk.es at_ a) else applyV op (args.map (refN kk d)))
    by_cases h0 : op = 40
    · rw [if_pos h0, if_pos h0]
    by_cases h1 : op = 41
    · rw [if_neg h0, if_neg h0, if_pos h1, if_pos h1]
    rw [if_neg h0, if_neg h0, if_neg h1, if_neg h1]
    by_cases h5 : op = 25
    · rw [if_pos h5, if_pos (show op = 42 ∨ (25 ≤ op ∧ op ≤ 31) by omega)]
      unfold overB
      rw [if_pos h5, List.length_map]
    rw [if_neg h5]
    by_cases h6 : op = 42 ∨ (26 ≤ op ∧ op ≤ 31)
    · rw [if_pos h6, if_pos (show op = 42 ∨ (25 ≤ op ∧ op ≤ 31) by omega)]
      unfold overB
      rw [if_neg h5]
      refine agg_over _ _ ?_
      intro y hy
      obtain ⟨q, _, rfl⟩ := List.mem_map.1 hy
      exact ⟨attrL_fits hk.each _ _, attrL_clean _ _ _⟩
    · rw [if_neg h6, if_neg (show ¬ (op = 42 ∨ (25 ≤ op ∧ op ≤ 31)) by omega)]
      congr 1
      exact List.map_congr_left fun x _ => eval_ref hk
theorem foldPick_fits (m : Bool) : ∀ (l : List V) (x : V), x.fits → (∀ y ∈ l, y.fits) → (l.foldl (fun a b => pickV a b m) x).fits
  | [], x, h, _ => h
  | y :: l, x, h, hl => by rw [List.foldl_cons]; exact foldPick_fits m l _ (pickV_fits _ h (hl y (by simp))) (fun z hz => hl z (by simp [hz]))
theorem evalN_fits {kk : LookV} {w : World} {B : Nat} (hk : kk.ok w B) : ∀ {d : Nat} {n : NodeV}, okN d n w B → (evalN kk d n).fits
  | 0, _, h => h.elim
  | d + 1, .mk op kind A c args vk vb pos a, h => by
    show (if op = 40 then clean ⟨vk, vb⟩ else if op = 41 then attrL kk.es kk.cur a else if op = 25 then intV (hasL kk.bs pos).length
      else if op = 42 ∨ (26 ≤ op ∧ op ≤ 31) then aggV op ((hasL kk.bs pos).map fun at_ => attrL kk.es at_ a) else applyV op (args.map (evalN kk d))).fits
    split
    · exact clean_fits _ h.2.2.1
    split
    · exact attrL_fits hk.each _ _
    split
    · exact intV_fits _
    split
    · have hL : ∀ y ∈ (hasL kk.bs pos).map fun at_ => attrL kk.es at_ a, y.fits := by
        intro y hy
        obtain ⟨q, _, rfl⟩ := List.mem_map.1 hy
        exact attrL_fits hk.each _ _
      generalize (hasL kk.bs pos).map (fun at_ => attrL kk.es at_ a) = L at hL
      match L, hL with
      | [], _ => exact (by decide : (0 : Nat) < 18446744073709551616)
      | x :: l, hL =>
        rw [aggV_cons]
        have hx := hL x (by simp)
        have hl : ∀ y ∈ l, y.fits := fun y hy => hL y (by simp [hy])
        split
        · exact hL _ (List.getLast_mem _)
        split
        · exact foldAdd_fits l x hx hl
        split
        · split
          · exact (by decide : (0 : Nat) < 18446744073709551616)
          · exact foldPick_fits _ l x hx hl
        split
        · refine apply_fits _ _ ?_
          intro q hq
          simp only [List.mem_cons, List.not_mem_nil, or_false] at hq
          rcases hq with rfl | rfl
          · exact foldAdd_fits l x hx hl
          · exact apply_fits _ _ (by intro q hq; simp only [List.mem_cons, List.not_mem_nil, or_false] at hq; subst hq; exact intV_fits _)
        · exact hx
    · refine apply_fits _ _ ?_
      intro y hy
      obtain ⟨q, hq, rfl⟩ := List.mem_map.1 hy
      exact evalN_fits hk (h.2.2.2 q hq)

theorem bel3 (w : World) (x1 x2 x3 : Obj) : Below w.heap.size w (((w.alloc x1).alloc x2).alloc x3) := (bel2 _ _ _).alloc (by simp; omega) _
set_option maxRecDepth 100000 in
theorem pnode_const (kk : LookV) (kind : Int) (A : Option Addr) (args : List NodeV) (c : Nat) (vk : Int) (vb : Nat) (pos a : Int) (R : V) (w : World) (hR : clean ⟨vk, vb⟩ = R) (hv : vb < 18446744073709551616) :
    Calls Try.prog 13 #[.agg #[.int .i64 40, .int .i64 kind, .slice A args.length c, .int .i64 vk, .int .u64 vb, .int .i64 pos, .int .i64 a], kk.val] w fun e w' => e = .returned R.v ∧ Below w.heap.size w w' := by
  have HR := Lib.hid hR
  clear hR
  unfold LookV.val
  go_enter Try.func13, Try.ntmps13
  go_wp2_with fail
  refine (pclean_any ⟨vk, vb⟩ hv _).mono ?_
  rintro e w1 ⟨rfl, hb1⟩
  rw [HR.out]
  simp only [V.v]
  have kr := (Bk.newAt (w := (w.alloc (.cells #[.int .i64 40, .int .i64 kind, .slice A args.length c, .int .i64 vk, .int .u64 vb, .int .i64 pos, .int .i64 a] 41)).alloc (.cells #[.slice kk.EA kk.es.length kk.ec, .slice kk.BA kk.bs.length kk.bc, .int .i64 kk.cur] 28)) (g := w.heap.size + 2) (by simp) 31 #[.int .i64 0, .int .u64 0]).old hb1
  have hbe : Below w.heap.size w w1 := (bel3 _ _ _ _).trans (hb1.mono (by simp; omega))
  clear hb1
  obtain ⟨c0, c1, f0, f1⟩ := vcells kr
  obtain ⟨d0, d1, _, _⟩ := vcells (vput kr (.int .i64 R.k) (.int .u64 R.b))
  clear kr
  go_wp2_with fail
  exact bodyPost_ret (v := .agg #[.int .i64 R.k, .int .u64 R.b]) (by simp [results, Try.results13, go_sem, d0, d1]) rfl ⟨rfl, (hbe.setCell (by first | (simp; done) | (simp; omega)) _).setCell (by first | (simp; done) | (simp; omega)) _⟩

set_option maxRecDepth 100000 in
theorem pnode_cur (kk : LookV) (kind : Int) (A : Option Addr) (args : List NodeV) (c : Nat) (vk : Int) (vb : Nat) (pos a : Int) (R : V) (w : World) (hR : attrL kk.es kk.cur a = R) (hk : kk.ok w w.heap.size) :
    Calls Try.prog 13 #[.agg #[.int .i64 41, .int .i64 kind, .slice A args.length c, .int .i64 vk, .int .u64 vb, .int .i64 pos, .int .i64 a], kk.val] w fun e w' => e = .returned R.v ∧ Below w.heap.size w w' := by
  have HR := Lib.hid hR
  have HK := Lib.hid hk
  clear hR hk
  unfold LookV.val
  go_enter Try.func13, Try.ntmps13
  go_wp2_with fail
  refine (attr_any kk kk.cur a _ (HK.out.old (bel3 _ _ _ _))).mono ?_
  rintro e w1 ⟨rfl, hb1⟩
  rw [HR.out]
  simp only [V.v]
  have kr := (Bk.newAt (w := (w.alloc (.cells #[.int .i64 41, .int .i64 kind, .slice A args.length c, .int .i64 vk, .int .u64 vb, .int .i64 pos, .int .i64 a] 41)).alloc (.cells #[.slice kk.EA kk.es.length kk.ec, .slice kk.BA kk.bs.length kk.bc, .int .i64 kk.cur] 28)) (g := w.heap.size + 2) (by simp) 31 #[.int .i64 0, .int .u64 0]).old hb1
  have hbe : Below w.heap.size w w1 := (bel3 _ _ _ _).trans (hb1.mono (by simp; omega))
  clear hb1
  obtain ⟨c0, c1, f0, f1⟩ := vcells kr
  obtain ⟨d0, d1, _, _⟩ := vcells (vput kr (.int .i64 R.k) (.int .u64 R.b))
  clear kr
  go_wp2_with fail
  exact bodyPost_ret (v := .agg #[.int .i64 R.k, .int .u64 R.b]) (by simp [results, Try.results13, go_sem, d0, d1]) rfl ⟨rfl, (hbe.setCell (by first | (simp; done) | (simp; omega)) _).setCell (by first | (simp; done) | (simp; omega)) _⟩

set_option maxRecDepth 100000 in
theorem pnode_count (kk : LookV) (kind : Int) (A : Option Addr) (args : List NodeV) (c : Nat) (vk : Int) (vb : Nat) (pos a : Int) (R : V) (w : World) (hR : intV (hasL kk.bs pos).length = R) (hk : kk.ok w w.heap.size) :
    Calls Try.prog 13 #[.agg #[.int .i64 25, .int .i64 kind, .slice A args.length c, .int .i64 vk, .int .u64 vb, .int .i64 pos, .int .i64 a], kk.val] w fun e w' => e = .returned R.v ∧ Below w.heap.size w w' := by
  have HR := Lib.hid hR
  have HK := Lib.hid hk
  clear hR hk
  unfold LookV.val
  go_enter Try.func13, Try.ntmps13
  go_wp2_with fail
  refine (has_any kk pos _ _ (Nat.le_refl _) (HK.out.old (bel3 _ _ _ _))).mono ?_
  rintro e w1 ⟨A', c', rfl, _, hlen, hb1⟩
  have hR2 := HR.out
  rw [intV_nat hlen] at hR2
  have hRk : R.k = 1 := by rw [← hR2]
  have hRb : R.b = (hasL kk.bs pos).length := by rw [← hR2]
  clear hR2 HR HK
  generalize (hasL kk.bs pos).length = m at *
  subst hRb
  have kr := (Bk.newAt (w := (w.alloc (.cells #[.int .i64 25, .int .i64 kind, .slice A args.length c, .int .i64 vk, .int .u64 vb, .int .i64 pos, .int .i64 a] 41)).alloc (.cells #[.slice kk.EA kk.es.length kk.ec, .slice kk.BA kk.bs.length kk.bc, .int .i64 kk.cur] 28)) (g := w.heap.size + 2) (by simp) 31 #[.int .i64 0, .int .u64 0]).old hb1
  have hbe : Below w.heap.size w w1 := (bel3 _ _ _ _).trans (hb1.mono (by simp; omega))
  clear hb1
  simp only [V.v, hRk]
  obtain ⟨c0, c1, f0, f1⟩ := vcells kr
  obtain ⟨d0, d1, _, _⟩ := vcells (vput kr (.int .i64 1) (.int .u64 R.b))
  clear kr
  go_wp2_with fail
  exact bodyPost_ret (v := .agg #[.int .i64 1, .int .u64 R.b]) (by simp [results, Try.results13, go_sem, d0, d1]) rfl ⟨by rw [← hRk]; rfl, (hbe.setCell (by first | (simp; done) | (simp; omega)) _).setCell (by first | (simp; done) | (simp; omega)) _⟩

set_option maxRecDepth 100000 in
theorem pnode_agg (kk : LookV) (op kind : Int) (hop : op = 42 ∨ (26 ≤ op ∧ op ≤ 31)) (A : Option Addr) (args : List NodeV) (c : Nat) (vk : Int) (vb : Nat) (pos a : Int) (R : V) (w : World) (hR : aggV op ((hasL kk.bs pos).map fun at_ => attrL kk.es at_ a) = R) (hk : kk.ok w w.heap.size) :
    Calls Try.prog 13 #[.agg #[.int .i64 op, .int .i64 kind, .slice A args.length c, .int .i64 vk, .int .u64 vb, .int .i64 pos, .int .i64 a], kk.val] w fun e w' => e = .returned R.v ∧ Below w.heap.size w w' := by
  have HR := Lib.hid hR
  have HK := Lib.hid hk
  have g40 : (op == 40) = false := by rw [beq_eq_false_iff_ne]; omega
  have g41 : (op == 41) = false := by rw [beq_eq_false_iff_ne]; omega
  have g25 : (op == 25) = false := by rw [beq_eq_false_iff_ne]; omega
  clear hR hk
  unfold LookV.val
  by_cases h42 : op = 42
  · as_aux_lemma =>
    subst h42
    clear hop
    go_enter Try.func13, Try.ntmps13
    go_wp2_with fail
    refine (aggregate_any kk 42 kind A args.length c vk vb pos a _ (HK.out.old (bel3 _ _ _ _))).mono ?_
    rintro e w1 ⟨rfl, hb1⟩
    rw [HR.out]
    simp only [V.v]
    have kr := (Bk.newAt (w := (w.alloc (.cells #[.int .i64 42, .int .i64 kind, .slice A args.length c, .int .i64 vk, .int .u64 vb, .int .i64 pos, .int .i64 a] 41)).alloc (.cells #[.slice kk.EA kk.es.length kk.ec, .slice kk.BA kk.bs.length kk.bc, .int .i64 kk.cur] 28)) (g := w.heap.size + 2) (by simp) 31 #[.int .i64 0, .int .u64 0]).old hb1
    have hbe : Below w.heap.size w w1 := (bel3 _ _ _ _).trans (hb1.mono (by simp; omega))
    clear hb1
    obtain ⟨c0, c1, f0, f1⟩ := vcells kr
    obtain ⟨d0, d1, _, _⟩ := vcells (vput kr (.int .i64 R.k) (.int .u64 R.b))
    clear kr
    go_wp2_with fail
    exact bodyPost_ret (v := .agg #[.int .i64 R.k, .int .u64 R.b]) (by simp [results, Try.results13, go_sem, d0, d1]) rfl ⟨rfl, (hbe.setCell (by first | (simp; done) | (simp; omega)) _).setCell (by first | (simp; done) | (simp; omega)) _⟩
  · as_aux_lemma =>
    have g42 : (op == 42) = false := by rw [beq_eq_false_iff_ne]; exact h42
    have h26 : decide (26 ≤ op) = true := decide_eq_true (by omega)
    have h31 : decide (op ≤ 31) = true := decide_eq_true (by omega)
    have h26' : 26 ≤ op := by omega
    have h31' : op ≤ 31 := by omega
    clear hop h42
    go_enter Try.func13, Try.ntmps13
    go_wp2_with fail
    refine (aggregate_any kk op kind A args.length c vk vb pos a _ (HK.out.old (bel3 _ _ _ _))).mono ?_
    rintro e w1 ⟨rfl, hb1⟩
    rw [HR.out]
    simp only [V.v]
    have kr := (Bk.newAt (w := (w.alloc (.cells #[.int .i64 op, .int .i64 kind, .slice A args.length c, .int .i64 vk, .int .u64 vb, .int .i64 pos, .int .i64 a] 41)).alloc (.cells #[.slice kk.EA kk.es.length kk.ec, .slice kk.BA kk.bs.length kk.bc, .int .i64 kk.cur] 28)) (g := w.heap.size + 2) (by simp) 31 #[.int .i64 0, .int .u64 0]).old hb1
    have hbe : Below w.heap.size w w1 := (bel3 _ _ _ _).trans (hb1.mono (by simp; omega))
    clear hb1
    obtain ⟨c0, c1, f0, f1⟩ := vcells kr
    obtain ⟨d0, d1, _, _⟩ := vcells (vput kr (.int .i64 R.k) (.int .u64 R.b))
    clear kr
    go_wp2_with fail
    exact bodyPost_ret (v := .agg #[.int .i64 R.k, .int .u64 R.b]) (by simp [results, Try.results13, go_sem, d0, d1]) rfl ⟨rfl, (hbe.setCell (by first | (simp; done) | (simp; omega)) _).setCell (by first | (simp; done) | (simp; omega)) _⟩

set_option maxRecDepth 100000 in
set_option maxHeartbeats 2000000 in
theorem pnode_op (kk : LookV) (d : Nat) (ih : ∀ (n : NodeV) (w : World), okN d n w w.heap.size → kk.ok w w.heap.size → Calls Try.prog 13 #[n.val, kk.val] w fun e w' => e = .returned (evalN kk d n).v ∧ Below w.heap.size w w')
    (op kind : Int) (h40 : op ≠ 40) (h41 : op ≠ 41) (h25 : op ≠ 25) (hop : ¬ (op = 42 ∨ (26 ≤ op ∧ op ≤ 31))) (A : Option Addr) (args : List NodeV) (c : Nat) (vk : Int) (vb : Nat) (pos a : Int) (R : V) (w : World) (hR : applyV op (args.map (evalN kk d)) = R) (hk : kk.ok w w.heap.size)
    (hr : Rd w w.heap.size A (args.flatMap NodeV.cells)) (hlen : args.length ≤ 1048576) (hall : ∀ x ∈ args, okN d x w w.heap.size) :
    Calls Try.prog 13 #[.agg #[.int .i64 op, .int .i64 kind, .slice A args.length c, .int .i64 vk, .int .u64 vb, .int .i64 pos, .int .i64 a], kk.val] w fun e w' => e = .returned R.v ∧ Below w.heap.size w w' := by
  have HR := Lib.hid hR
  have HK := Lib.hid hk
  have HA := Lib.hid hall
  have HF : Hid (∀ y ∈ args.map (evalN kk d), y.fits) := Lib.hid (by intro y hy; obtain ⟨q, hq, rfl⟩ := List.mem_map.1 hy; exact evalN_fits hk (hall q hq))
  have HI := Lib.hid ih
  have HRD := Lib.hid hr
  obtain ⟨iV, hV, hV0, hV1, hV2⟩ := info_parts infoV
  have g40 : (op == 40) = false := by rw [beq_eq_false_iff_ne]; exact h40
  have g41 : (op == 41) = false := by rw [beq_eq_false_iff_ne]; exact h41
  have g25 : (op == 25) = false := by rw [beq_eq_false_iff_ne]; exact h25
  have g42 : (op == 42) = false := by rw [beq_eq_false_iff_ne]; exact fun h => hop (.inl h)
  clear hR hk hall ih hr h40 h41 h25
  unfold LookV.val
  have rest : ∀ (g26 : op < 26 ∨ ¬ op ≤ 31), Calls Try.prog 13 #[.agg #[.int .i64 op, .int .i64 kind, .slice A args.length c, .int .i64 vk, .int .u64 vb, .int .i64 pos, .int .i64 a], .agg #[.slice kk.EA kk.es.length kk.ec, .slice kk.BA kk.bs.length kk.bc, .int .i64 kk.cur]] w fun e w' => e = .returned R.v ∧ Below w.heap.size w w' := by
    intro g26
    have hg : (if 26 ≤ op then decide (op ≤ 31) else false) = false := by
      split
      · exact decide_eq_false (by omega)
      · rfl
    clear hop
    go_enter Try.func13, Try.ntmps13
    by_cases h26 : 26 ≤ op
    · have h31 : ¬ op ≤ 31 := by omega
      clear g26 hg
      go_wp2_with fail
      go_loopw [5, 54] (fun vs i wr => ∃ (k : Nat) (Av : Option Addr) (cv : Nat), k ≤ args.length ∧ i = .int .i64 k ∧ vs = .slice Av k cv ∧ Below w.heap.size w wr ∧ Bk wr w.heap.size 41 #[.int .i64 op, .int .i64 kind, .slice A args.length c, .int .i64 vk, .int .u64 vb, .int .i64 pos, .int .i64 a] ∧ Bk wr (w.heap.size + 1) 28 #[.slice kk.EA kk.es.length kk.ec, .slice kk.BA kk.bs.length kk.bc, .int .i64 kk.cur] ∧ Bk wr (w.heap.size + 2) 31 #[.int .i64 0, .int .u64 0] ∧
          wr.ownsRow (w.heap.size + 3) 31 2 vs k (((args.take k).map (evalN kk d)).flatMap V.cells)) (fun _ i _ => args.length - (intOf i).toNat)
      case atStart =>
        refine ⟨0, none, 0, Nat.zero_le _, rfl, rfl, bel3 _ _ _ _, ?_, ?_, ?_, World.ownsRow_nil _ _ _ _⟩
        · exact ((Bk.new _ _ _).alloc _).alloc _
        · exact (Bk.newAt (by simp) _ _).alloc _
        · exact Bk.newAt (by simp) _ _
      case round =>
        obtain ⟨k, Av, cv, hk, rfl, rfl, hbel, kn, kl, kr, hown⟩ := hrel
        by_cases hlt : k < args.length
        · as_aux_lemma =>
          obtain ⟨b, o, rfl, hb, hc⟩ := (HRD.out.below hbel).elem (f := NodeV.cells) (n := 7) NodeV.len (by omega) hlt
          have hx := HA.out args[k] (by simp)
          have hfx := HF.out (evalN kk d args[k]) (List.mem_map_of_mem (by simp))
          have hfs := flat_snoc V.cells (args.map (evalN kk d)) k (by simpa using hlt)
          rw [List.getElem_map] at hfs
          generalize args[k] = x at *
          obtain ⟨op2, kind2, A2, c2, args2, vk2, vb2, pos2, a2⟩ := x
          have hc0 : wr.cell? ⟨b, o + k * 7, none⟩ = some (.int .i64 op2) := hc 0 _ rfl
          have hc1 : wr.cell? ⟨b, o + k * 7 + 1, none⟩ = some (.int .i64 kind2) := hc 1 _ rfl
          have hc2 : wr.cell? ⟨b, o + k * 7 + 2, none⟩ = some (.slice A2 args2.length c2) := hc 2 _ rfl
          have hc3 : wr.cell? ⟨b, o + k * 7 + 3, none⟩ = some (.int .i64 vk2) := hc 3 _ rfl
          have hc4 : wr.cell? ⟨b, o + k * 7 + 4, none⟩ = some (.int .u64 vb2) := hc 4 _ rfl
          have hc5 : wr.cell? ⟨b, o + k * 7 + 5, none⟩ = some (.int .i64 pos2) := hc 5 _ rfl
          have hc6 : wr.cell? ⟨b, o + k * 7 + 6, none⟩ = some (.int .i64 a2) := hc 6 _ rfl
          have kl' := kl.alloc (.cells #[.int .i64 op2, .int .i64 kind2, .slice A2 args2.length c2, .int .i64 vk2, .int .u64 vb2, .int .i64 pos2, .int .i64 a2] 41)
          have k0 := kl'.cell 0
          have k1 := kl'.cell 1
          have k2 := kl'.cell 2
          simp at k0 k1 k2
          have hbel' : Below w.heap.size w (wr.alloc (.cells #[.int .i64 op2, .int .i64 kind2, .slice A2 args2.length c2, .int .i64 vk2, .int .u64 vb2, .int .i64 pos2, .int .i64 a2] 41)) := hbel.alloc hbel.size _
          have hrec := HI.out _ _ (hx.old hbel') (HK.out.old hbel')
          generalize evalN kk d (.mk op2 kind2 A2 c2 args2 vk2 vb2 pos2 a2) = X at *
          have HREC := Lib.hid hrec
          have HFS := Lib.hid hfs
          clear hc hrec hfs hx kl'
          go_wp2_with fail
          refine HREC.out.mono ?_
          rintro e w1 ⟨rfl, hb1⟩
          clear HREC k0 k1 k2 hc0 hc1 hc2 hc3 hc4 hc5 hc6
          have kn := (kn.alloc _).old hb1
          have kl := (kl.alloc _).old hb1
          have kr := (kr.alloc _).old hb1
          have hown := own_old (hown.alloc _) hb1
          have hbel : Below w.heap.size w w1 := hbel'.trans (hb1.mono hbel'.size)
          have hz := kr.lt
          clear hb1 hbel'
          simp only [V.v]
          go_wp2_with (at_builtin; refine wpList_append_rd rfl _ _ 34 rfl (w.heap.size + 3) 31 iV _ 2 16 Try.underlying34 hV hV0 hV1 hV2 rfl (by decide) (.slice Av k cv) k _ rfl (hown.alloc _) (w1.heap.size + 1) (some ⟨w1.heap.size, 0, none⟩) 1 1 X.cells rfl (Rd.lit rfl _ _) rfl ?c2 ?c3 ?c4 ?c5 ?_)
          case c2 => intro u hu; simp [V.cells] at hu; rcases hu with rfl | rfl <;> rfl
          case c3 => unfold maxLen; omega
          case c4 => omega
          case c5 => simp; omega
          intro A3 c3 w2 hown2 hg _
          have kn2 := (kn.alloc _).grown hg (own_ne_bk hown kn (by decide))
          have kl2 := (kl.alloc _).grown hg (own_ne_bk hown kl (by decide))
          have kr2 := (kr.alloc _).grown hg (fun e => by have := (hown.lt _ e.symm).1; omega)
          have hbel2 : Below w.heap.size w w2 := below_own (hbel.alloc hbel.size _) (hown.alloc _) (by omega) hg (by simp; omega)
          rw [HFS.out] at hown2
          clear hg hown kn kl kr hbel
          go_wp2
          go_roundw
          case rel => exact ⟨k + 1, A3, c3, by omega, by go_num, rfl, hbel2, kn2, kl2, kr2, by rw [List.map_take]; exact hown2⟩
          case measure => simp [intOf]; omega
        · as_aux_lemma =>
          obtain rfl : k = args.length := by omega
          rw [List.take_length] at hown
          have happ := apply_any op (args.map (evalN kk d)) Av cv wr (own_rd hown) HF.out (by rw [List.length_map]; omega)
          rw [HR.out, List.length_map] at happ
          have HAP := Lib.hid happ
          have n0 : wr.cell? ⟨w.heap.size, 0, none⟩ = some (.int .i64 op) := kn.cell 0
          clear happ hown HF HA HI HRD HK HR
          go_wp2_with fail
          refine HAP.out.mono ?_
          rintro e w1 ⟨rfl, hb1⟩
          simp only [V.v]
          have kr := kr.old hb1
          have hbe : Below w.heap.size w w1 := hbel.trans (hb1.mono hbel.size)
          clear hb1
          obtain ⟨c0, c1, f0, f1⟩ := vcells kr
          obtain ⟨d0, d1, _, _⟩ := vcells (vput kr (.int .i64 R.k) (.int .u64 R.b))
          clear kr
          go_wp2_with fail
          exact bodyPost_ret (v := .agg #[.int .i64 R.k, .int .u64 R.b]) (by simp [results, Try.results13, go_sem, d0, d1]) rfl ⟨rfl, (hbe.setCell (by first | (simp; done) | (simp; omega)) _).setCell (by first | (simp; done) | (simp; omega)) _⟩
    · have h26 : op < 26 := by omega
      clear g26 hg
      go_wp2_with fail
      go_loopw [5, 54] (fun vs i wr => ∃ (k : Nat) (Av : Option Addr) (cv : Nat), k ≤ args.length ∧ i = .int .i64 k ∧ vs = .slice Av k cv ∧ Below w.heap.size w wr ∧ Bk wr w.heap.size 41 #[.int .i64 op, .int .i64 kind, .slice A args.length c, .int .i64 vk, .int .u64 vb, .int .i64 pos, .int .i64 a] ∧ Bk wr (w.heap.size + 1) 28 #[.slice kk.EA kk.es.length kk.ec, .slice kk.BA kk.bs.length kk.bc, .int .i64 kk.cur] ∧ Bk wr (w.heap.size + 2) 31 #[.int .i64 0, .int .u64 0] ∧
          wr.ownsRow (w.heap.size + 3) 31 2 vs k (((args.take k).map (evalN kk d)).flatMap V.cells)) (fun _ i _ => args.length - (intOf i).toNat)
      case atStart =>
        refine ⟨0, none, 0, Nat.zero_le _, rfl, rfl, bel3 _ _ _ _, ?_, ?_, ?_, World.ownsRow_nil _ _ _ _⟩
        · exact ((Bk.new _ _ _).alloc _).alloc _
        · exact (Bk.newAt (by simp) _ _).alloc _
        · exact Bk.newAt (by simp) _ _
      case round =>
        obtain ⟨k, Av, cv, hk, rfl, rfl, hbel, kn, kl, kr, hown⟩ := hrel
        by_cases hlt : k < args.length
        · as_aux_lemma =>
          obtain ⟨b, o, rfl, hb, hc⟩ := (HRD.out.below hbel).elem (f := NodeV.cells) (n := 7) NodeV.len (by omega) hlt
          have hx := HA.out args[k] (by simp)
          have hfx := HF.out (evalN kk d args[k]) (List.mem_map_of_mem (by simp))
          have hfs := flat_snoc V.cells (args.map (evalN kk d)) k (by simpa using hlt)
          rw [List.getElem_map] at hfs
          generalize args[k] = x at *
          obtain ⟨op2, kind2, A2, c2, args2, vk2, vb2, pos2, a2⟩ := x
          have hc0 : wr.cell? ⟨b, o + k * 7, none⟩ = some (.int .i64 op2) := hc 0 _ rfl
          have hc1 : wr.cell? ⟨b, o + k * 7 + 1, none⟩ = some (.int .i64 kind2) := hc 1 _ rfl
          have hc2 : wr.cell? ⟨b, o + k * 7 + 2, none⟩ = some (.slice A2 args2.length c2) := hc 2 _ rfl
          have hc3 : wr.cell? ⟨b, o + k * 7 + 3, none⟩ = some (.int .i64 vk2) := hc 3 _ rfl
          have hc4 : wr.cell? ⟨b, o + k * 7 + 4, none⟩ = some (.int .u64 vb2) := hc 4 _ rfl
          have hc5 : wr.cell? ⟨b, o + k * 7 + 5, none⟩ = some (.int .i64 pos2) := hc 5 _ rfl
          have hc6 : wr.cell? ⟨b, o + k * 7 + 6, none⟩ = some (.int .i64 a2) := hc 6 _ rfl
          have kl' := kl.alloc (.cells #[.int .i64 op2, .int .i64 kind2, .slice A2 args2.length c2, .int .i64 vk2, .int .u64 vb2, .int .i64 pos2, .int .i64 a2] 41)
          have k0 := kl'.cell 0
          have k1 := kl'.cell 1
          have k2 := kl'.cell 2
          simp at k0 k1 k2
          have hbel' : Below w.heap.size w (wr.alloc (.cells #[.int .i64 op2, .int .i64 kind2, .slice A2 args2.length c2, .int .i64 vk2, .int .u64 vb2, .int .i64 pos2, .int .i64 a2] 41)) := hbel.alloc hbel.size _
          have hrec := HI.out _ _ (hx.old hbel') (HK.out.old hbel')
          generalize evalN kk d (.mk op2 kind2 A2 c2 args2 vk2 vb2 pos2 a2) = X at *
          have HREC := Lib.hid hrec
          have HFS := Lib.hid hfs
          clear hc hrec hfs hx kl'
          go_wp2_with fail
          refine HREC.out.mono ?_
          rintro e w1 ⟨rfl, hb1⟩
          clear HREC k0 k1 k2 hc0 hc1 hc2 hc3 hc4 hc5 hc6
          have kn := (kn.alloc _).old hb1
          have kl := (kl.alloc _).old hb1
          have kr := (kr.alloc _).old hb1
          have hown := own_old (hown.alloc _) hb1
          have hbel : Below w.heap.size w w1 := hbel'.trans (hb1.mono hbel'.size)
          have hz := kr.lt
          clear hb1 hbel'
          simp only [V.v]
          go_wp2_with (at_builtin; refine wpList_append_rd rfl _ _ 34 rfl (w.heap.size + 3) 31 iV _ 2 16 Try.underlying34 hV hV0 hV1 hV2 rfl (by decide) (.slice Av k cv) k _ rfl (hown.alloc _) (w1.heap.size + 1) (some ⟨w1.heap.size, 0, none⟩) 1 1 X.cells rfl (Rd.lit rfl _ _) rfl ?c2 ?c3 ?c4 ?c5 ?_)
          case c2 => intro u hu; simp [V.cells] at hu; rcases hu with rfl | rfl <;> rfl
          case c3 => unfold maxLen; omega
          case c4 => omega
          case c5 => simp; omega
          intro A3 c3 w2 hown2 hg _
          have kn2 := (kn.alloc _).grown hg (own_ne_bk hown kn (by decide))
          have kl2 := (kl.alloc _).grown hg (own_ne_bk hown kl (by decide))
          have kr2 := (kr.alloc _).grown hg (fun e => by have := (hown.lt _ e.symm).1; omega)
          have hbel2 : Below w.heap.size w w2 := below_own (hbel.alloc hbel.size _) (hown.alloc _) (by omega) hg (by simp; omega)
          rw [HFS.out] at hown2
          clear hg hown kn kl kr hbel
          go_wp2
          go_roundw
          case rel => exact ⟨k + 1, A3, c3, by omega, by go_num, rfl, hbel2, kn2, kl2, kr2, by rw [List.map_take]; exact hown2⟩
          case measure => simp [intOf]; omega
        · as_aux_lemma =>
          obtain rfl : k = args.length := by omega
          rw [List.take_length] at hown
          have happ := apply_any op (args.map (evalN kk d)) Av cv wr (own_rd hown) HF.out (by rw [List.length_map]; omega)
          rw [HR.out, List.length_map] at happ
          have HAP := Lib.hid happ
          have n0 : wr.cell? ⟨w.heap.size, 0, none⟩ = some (.int .i64 op) := kn.cell 0
          clear happ hown HF HA HI HRD HK HR
          go_wp2_with fail
          refine HAP.out.mono ?_
          rintro e w1 ⟨rfl, hb1⟩
          simp only [V.v]
          have kr := kr.old hb1
          have hbe : Below w.heap.size w w1 := hbel.trans (hb1.mono hbel.size)
          clear hb1
          obtain ⟨c0, c1, f0, f1⟩ := vcells kr
          obtain ⟨d0, d1, _, _⟩ := vcells (vput kr (.int .i64 R.k) (.int .u64 R.b))
          clear kr
          go_wp2_with fail
          exact bodyPost_ret (v := .agg #[.int .i64 R.k, .int .u64 R.b]) (by simp [results, Try.results13, go_sem, d0, d1]) rfl ⟨rfl, (hbe.setCell (by first | (simp; done) | (simp; omega)) _).setCell (by first | (simp; done) | (simp; omega)) _⟩
  exact rest (by omega)
end Go.Proofs.Ytomhheihhnmbcaa
