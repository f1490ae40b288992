/- Layer 12: what a node asks, how many there are. No conditions. -/
import Derived.Test.YtkfpmoilfillmaaFoF
namespace Go.Proofs.Ytkfpmoilfillmaa
open Go.RowKit
set_option linter.unusedVariables false
set_option linter.unusedSimpArgs false

theorem okN.s {w : World} {B : Nat} (hB : B ≤ w.heap.size) : ∀ {d : Nat} {n : NodeV}, okN d n w B → okS (fun b => b < B) d n w
  | 0, _, h => h.elim
  | d + 1, .mk .., h => ⟨by
      rcases h.1 with h | ⟨b, o, h1, h2, h3⟩
      · exact .inl h
      · exact .inr ⟨b, o, h1, h2, by omega, h3⟩, h.2.1, h.2.2.1, fun x hx => okN.s hB (h.2.2.2 x hx)⟩
theorem fold_okN (d : Nat) (n : NodeV) (w : World) (h : okN d n w w.heap.size) : Calls Try.prog 8 #[n.val] w fun e w' => ∃ r : NodeV, e = .returned r.val ∧ treeN d r = foldT d (treeN d n) ∧ okN d r w' w'.heap.size ∧ Below w.heap.size w w' := by
  refine (fold_any d n w w.heap.size (Nat.le_refl _) (h.s (Nat.le_refl _))).mono ?_
  rintro e w' ⟨r, h1, h2, h3, h4⟩
  exact ⟨r, h1, h2, h3.n, h4⟩
def asksN : Nat → NodeV → Bool
  | 0, _ => false
  | d + 1, .mk op _ _ _ args _ _ _ _ => decide (op = 41) || args.any (asksN d)
def nodesN : Nat → NodeV → Nat
  | 0, _ => 0
  | d + 1, .mk _ _ _ _ args _ _ _ _ => 1 + (args.map (nodesN d)).sum
def looksB (op : Int) : Bool := decide (op = 42) || (decide (25 ≤ op) && decide (op ≤ 31))
/-- No node looks at a position. -/
def quietN : Nat → NodeV → Bool
  | 0, _ => false
  | d + 1, .mk op _ _ _ args _ _ _ _ => (decide (op < 25) || (decide (31 < op) && decide (op ≠ 42))) && args.all (quietN d)
def lastN : Nat → NodeV → Int
  | 0, _ => -1
  | d + 1, .mk op _ _ _ args _ _ pos _ => args.foldl (fun m x => max m (lastN d x)) (if looksB op = true then max (-1) pos else -1)
theorem foldl_take {α β : Type} (f : β → α → β) (b : β) (l : List α) (k : Nat) (h : k < l.length) : (l.take (k + 1)).foldl f b = f ((l.take k).foldl f b) l[k] := by
  rw [List.take_succ_eq_append_getElem h, List.foldl_append]; rfl
theorem sum_take (l : List Nat) (k : Nat) (h : k < l.length) : (l.take (k + 1)).sum = (l.take k).sum + l[k] := by
  rw [List.take_succ_eq_append_getElem h, List.sum_append]; simp
theorem sum_take_le (l : List Nat) (k : Nat) : (l.take k).sum ≤ l.sum := by
  have h : (l.take k).sum + (l.drop k).sum = l.sum := by rw [← List.sum_append, List.take_append_drop]
  omega

set_option maxRecDepth 100000 in
set_option maxHeartbeats 4000000 in
theorem asks_step (d : Nat) (ih : ∀ (x : NodeV) (w : World), okN d x w w.heap.size → Calls Try.prog 13 #[x.val] w fun e w' => e = .returned (.bool (asksN d x)) ∧ Below w.heap.size w w')
    (op kind : Int) (A : Option Addr) (c : Nat) (args : List NodeV) (vk : Int) (vb : Nat) (pos a : Int) (w : World) (h : okN (d + 1) (.mk op kind A c args vk vb pos a) w w.heap.size) :
    Calls Try.prog 13 #[.agg #[.int .i64 op, .int .i64 kind, .slice A args.length c, .int .i64 vk, .int .u64 vb, .int .i64 pos, .int .i64 a]] w fun e w' => e = .returned (.bool (asksN (d + 1) (.mk op kind A c args vk vb pos a))) ∧ Below w.heap.size w w' := by
  have HIH := Lib.hid ih
  have HRD := Lib.hid h.1
  have hl := h.2.1
  have HARG := Lib.hid h.2.2.2
  generalize hR : asksN (d + 1) (.mk op kind A c args vk vb pos a) = R
  have hR2 : R = (decide (op = 41) || args.any (asksN d)) := hR.symm
  have kn := Bk.new w 27 #[.int .i64 op, .int .i64 kind, .slice A args.length c, .int .i64 vk, .int .u64 vb, .int .i64 pos, .int .i64 a]
  have hbe0 : Below w.heap.size w (w.alloc (.cells #[.int .i64 op, .int .i64 kind, .slice A args.length c, .int .i64 vk, .int .u64 vb, .int .i64 pos, .int .i64 a] 27)) := (Below.refl _ _).alloc (Nat.le_refl _) _
  have n0 : (w.alloc (.cells #[.int .i64 op, .int .i64 kind, .slice A args.length c, .int .i64 vk, .int .u64 vb, .int .i64 pos, .int .i64 a] 27)).cell? ⟨w.heap.size, 0, none⟩ = some (.int .i64 op) := kn.cell 0
  have n2 : (w.alloc (.cells #[.int .i64 op, .int .i64 kind, .slice A args.length c, .int .i64 vk, .int .u64 vb, .int .i64 pos, .int .i64 a] 27)).cell? ⟨w.heap.size, 2, none⟩ = some (.slice A args.length c) := kn.cell 2
  clear h ih hR kn
  by_cases h41 : op = 41
  · as_aux_lemma =>
    subst h41
    have hRt : R = true := hR2
    clear hR2 HIH HRD HARG
    subst hRt
    go_enter Try.func13, Try.ntmps13
    go_wp2_with fail
    go_ret
    exact ⟨rfl, hbe0⟩
  have g41 : (op == 41) = false := by rw [beq_eq_false_iff_ne]; exact h41
  rw [decide_eq_false h41, Bool.false_or] at hR2
  have HR := Lib.hid hR2
  clear hR2 h41
  go_enter Try.func13, Try.ntmps13
  go_wp2_with fail
  go_loopw [11] (fun i wr => ∃ k : Nat, k ≤ args.length ∧ i = .int .i64 k ∧ Below w.heap.size w wr ∧ Hid ((args.take k).any (asksN d) = false)) (fun i _ => args.length - (intOf i).toNat)
  case atStart => exact ⟨0, Nat.zero_le _, rfl, hbe0, Lib.hid (by simp)⟩
  case round =>
    rename World => wl
    clear hbe0 n0 n2
    obtain ⟨k, hk, rfl, hbel, hany⟩ := hrel
    by_cases hlt : k < args.length
    · obtain ⟨b, o, rfl, hb, hc⟩ := (HRD.out.below hbel).elem (f := NodeV.cells) (n := 7) NodeV.len (by omega) hlt
      have hx := HARG.out args[k] (by simp)
      have hnext : (args.take (k + 1)).any (asksN d) = asksN d args[k] := by
        rw [List.take_succ_eq_append_getElem hlt, List.any_append, hany.out]; simp
      have hyes : asksN d args[k] = true → R = true := fun h => by rw [HR.out]; exact List.any_eq_true.2 ⟨args[k], by simp, h⟩
      generalize args[k] = x at *
      have HBX := Lib.hid (HIH.out x)
      generalize hpx : asksN d x = p at *
      obtain ⟨op2, kind2, A2, c2, args2, vk2, vb2, pos2, a2⟩ := x
      have hc' : ∀ (j : Nat) (u : Value), [.int .i64 op2, .int .i64 kind2, .slice A2 args2.length c2, .int .i64 vk2, .int .u64 vb2, .int .i64 pos2, .int .i64 a2][j]? = some u → wl.cell? ⟨b, o + k * 7 + j, none⟩ = some u := hc
      have HC := Lib.hid hc'
      have hbx : Below w.heap.size w (wl.alloc (.cells #[.int .i64 op2, .int .i64 kind2, .slice A2 args2.length c2, .int .i64 vk2, .int .u64 vb2, .int .i64 pos2, .int .i64 a2] 27)) := hbel.alloc hbel.size _
      have hrec := HBX.out (wl.alloc (.cells #[.int .i64 op2, .int .i64 kind2, .slice A2 args2.length c2, .int .i64 vk2, .int .u64 vb2, .int .i64 pos2, .int .i64 a2] 27)) (hx.old hbx)
      have ka := Lib.hid (Bk.new wl 27 #[.int .i64 op2, .int .i64 kind2, .slice A2 args2.length c2, .int .i64 vk2, .int .u64 vb2, .int .i64 pos2, .int .i64 a2]).at7
      have HREC := Lib.hid hrec
      have HN := Lib.hid hnext
      clear hrec hx hc hc' HIH HBX hnext hany hpx
      cases p
      · as_aux_lemma =>
        go_wp2_with (first | (refine wpList_load7 rfl _ rfl rfl HC.out ?_) | (refine wpList_load7 rfl _ rfl rfl ka.out ?_))
        refine HREC.out.mono ?_
        rintro e w1 ⟨rfl, hb1⟩
        have hbe1 := hbx.trans (hb1.mono hbx.size)
        clear HREC HC ka hb1
        go_wp2_with fail
        go_roundw
        case rel => exact ⟨k + 1, by omega, by go_num, hbe1, HN⟩
        case measure => simp [intOf]; omega
      · as_aux_lemma =>
        obtain rfl := hyes rfl
        go_wp2_with (first | (refine wpList_load7 rfl _ rfl rfl HC.out ?_) | (refine wpList_load7 rfl _ rfl rfl ka.out ?_))
        refine HREC.out.mono ?_
        rintro e w1 ⟨rfl, hb1⟩
        have hbe1 := hbx.trans (hb1.mono hbx.size)
        clear HREC HC ka hb1 HR
        go_wp2_with fail
        go_ret
        exact ⟨rfl, hbe1⟩
    · as_aux_lemma =>
      obtain rfl : k = args.length := by omega
      have hRf : R = false := by rw [HR.out, ← hany.out, List.take_length]
      subst hRf
      clear HR HIH hany
      go_wp2_with fail
      go_ret
      exact ⟨rfl, hbel⟩
theorem asks_any : ∀ (d : Nat) (x : NodeV) (w : World), okN d x w w.heap.size → Calls Try.prog 13 #[x.val] w fun e w' => e = .returned (.bool (asksN d x)) ∧ Below w.heap.size w w'
  | 0, _, _, h => h.elim
  | d + 1, .mk op kind A c args vk vb pos a, w, h => asks_step d (asks_any d) op kind A c args vk vb pos a w h

set_option maxRecDepth 100000 in
set_option maxHeartbeats 4000000 in
theorem nodes_step (d : Nat) (ih : ∀ (x : NodeV) (w : World), okN d x w w.heap.size → nodesN d x ≤ 1000000 → Calls Try.prog 15 #[x.val] w fun e w' => e = .returned (.int .i64 (nodesN d x : Nat)) ∧ Below w.heap.size w w')
    (op kind : Int) (A : Option Addr) (c : Nat) (args : List NodeV) (vk : Int) (vb : Nat) (pos a : Int) (w : World) (h : okN (d + 1) (.mk op kind A c args vk vb pos a) w w.heap.size) (hR1 : nodesN (d + 1) (.mk op kind A c args vk vb pos a) ≤ 1000000) :
    Calls Try.prog 15 #[.agg #[.int .i64 op, .int .i64 kind, .slice A args.length c, .int .i64 vk, .int .u64 vb, .int .i64 pos, .int .i64 a]] w fun e w' => e = .returned (.int .i64 (nodesN (d + 1) (.mk op kind A c args vk vb pos a) : Nat)) ∧ Below w.heap.size w w' := by
  have HIH := Lib.hid ih
  have HRD := Lib.hid h.1
  have hl := h.2.1
  have HARG := Lib.hid h.2.2.2
  generalize hR : nodesN (d + 1) (.mk op kind A c args vk vb pos a) = R at *
  have hR2 : R = 1 + (args.map (nodesN d)).sum := hR.symm
  have kn := Bk.new w 27 #[.int .i64 op, .int .i64 kind, .slice A args.length c, .int .i64 vk, .int .u64 vb, .int .i64 pos, .int .i64 a]
  have hbe0 : Below w.heap.size w (w.alloc (.cells #[.int .i64 op, .int .i64 kind, .slice A args.length c, .int .i64 vk, .int .u64 vb, .int .i64 pos, .int .i64 a] 27)) := (Below.refl _ _).alloc (Nat.le_refl _) _
  have n2 : (w.alloc (.cells #[.int .i64 op, .int .i64 kind, .slice A args.length c, .int .i64 vk, .int .u64 vb, .int .i64 pos, .int .i64 a] 27)).cell? ⟨w.heap.size, 2, none⟩ = some (.slice A args.length c) := kn.cell 2
  have HR := Lib.hid hR2
  clear h ih hR kn hR2
  go_enter Try.func15, Try.ntmps15
  go_wp2_with fail
  go_loopw [3, 9] (fun s i wr => ∃ (k z : Nat), k ≤ args.length ∧ i = .int .i64 k ∧ s = .int .i64 z ∧ Below w.heap.size w wr ∧ Hid (z = 1 + ((args.map (nodesN d)).take k).sum)) (fun _ i _ => args.length - (intOf i).toNat)
  case atStart => exact ⟨0, 1, Nat.zero_le _, rfl, rfl, hbe0, Lib.hid (by simp)⟩
  case round =>
    rename World => wl
    clear hbe0 n2
    obtain ⟨k, z, hk, rfl, rfl, hbel, hz⟩ := hrel
    by_cases hlt : k < args.length
    · as_aux_lemma =>
      obtain ⟨b, o, rfl, hb, hc⟩ := (HRD.out.below hbel).elem (f := NodeV.cells) (n := 7) NodeV.len (by omega) hlt
      have hx := HARG.out args[k] (by simp)
      have hnext : z + nodesN d args[k] = 1 + ((args.map (nodesN d)).take (k + 1)).sum := by
        rw [sum_take _ _ (by simpa using hlt), List.getElem_map, hz.out]; omega
      have hle : z + nodesN d args[k] ≤ R := by
        rw [hnext, HR.out]
        have := sum_take_le (args.map (nodesN d)) (k + 1)
        omega
      generalize args[k] = x at *
      have HBX := Lib.hid (HIH.out x)
      generalize nodesN d x = p at *
      obtain ⟨op2, kind2, A2, c2, args2, vk2, vb2, pos2, a2⟩ := x
      have hc' : ∀ (j : Nat) (u : Value), [.int .i64 op2, .int .i64 kind2, .slice A2 args2.length c2, .int .i64 vk2, .int .u64 vb2, .int .i64 pos2, .int .i64 a2][j]? = some u → wl.cell? ⟨b, o + k * 7 + j, none⟩ = some u := hc
      have HC := Lib.hid hc'
      have hbx : Below w.heap.size w (wl.alloc (.cells #[.int .i64 op2, .int .i64 kind2, .slice A2 args2.length c2, .int .i64 vk2, .int .u64 vb2, .int .i64 pos2, .int .i64 a2] 27)) := hbel.alloc hbel.size _
      have hrec := HBX.out (wl.alloc (.cells #[.int .i64 op2, .int .i64 kind2, .slice A2 args2.length c2, .int .i64 vk2, .int .u64 vb2, .int .i64 pos2, .int .i64 a2] 27)) (hx.old hbx) (by omega)
      have ka := Lib.hid (Bk.new wl 27 #[.int .i64 op2, .int .i64 kind2, .slice A2 args2.length c2, .int .i64 vk2, .int .u64 vb2, .int .i64 pos2, .int .i64 a2]).at7
      have HREC := Lib.hid hrec
      have HN := Lib.hid hnext
      have hzb : z ≤ 1000000 := by omega
      have hpb : p ≤ 1000000 := by omega
      clear hrec hx hc hc' HIH HBX hnext hz hle
      go_wp2_with (first | (refine wpList_load7 rfl _ rfl rfl HC.out ?_) | (refine wpList_load7 rfl _ rfl rfl ka.out ?_))
      refine HREC.out.mono ?_
      rintro e w1 ⟨rfl, hb1⟩
      have hbe1 := hbx.trans (hb1.mono hbx.size)
      clear HREC HC ka hb1
      go_wp2_with fail
      go_roundw
      case rel => exact ⟨k + 1, z + p, by omega, by go_num, by go_num, hbe1, HN⟩
      case measure => simp [intOf]; omega
    · as_aux_lemma =>
      obtain rfl : k = args.length := by omega
      have hRf : R = z := by rw [HR.out, hz.out]; congr 2; rw [List.take_of_length_le (by simp)]
      subst hRf
      clear HR HIH hz
      go_wp2_with fail
      go_ret
      exact ⟨rfl, hbel⟩
theorem nodes_any : ∀ (d : Nat) (x : NodeV) (w : World), okN d x w w.heap.size → nodesN d x ≤ 1000000 → Calls Try.prog 15 #[x.val] w fun e w' => e = .returned (.int .i64 (nodesN d x : Nat)) ∧ Below w.heap.size w w'
  | 0, _, _, h => h.elim
  | d + 1, .mk op kind A c args vk vb pos a, w, h => nodes_step d (nodes_any d) op kind A c args vk vb pos a w h

set_option maxRecDepth 100000 in
set_option maxHeartbeats 4000000 in
theorem last_step (d : Nat) (ih : ∀ (x : NodeV) (w : World), okN d x w w.heap.size → quietN d x = true → Calls Try.prog 14 #[x.val] w fun e w' => e = .returned (.int .i64 (lastN d x)) ∧ Below w.heap.size w w')
    (op kind : Int) (hop : looksB op = false) (hg : op < 25 ∨ 31 < op ∧ op ≠ 42) (A : Option Addr) (c : Nat) (args : List NodeV) (vk : Int) (vb : Nat) (pos a : Int) (w : World) (h : okN (d + 1) (.mk op kind A c args vk vb pos a) w w.heap.size) (hqa : ∀ x ∈ args, quietN d x = true) :
    Calls Try.prog 14 #[.agg #[.int .i64 op, .int .i64 kind, .slice A args.length c, .int .i64 vk, .int .u64 vb, .int .i64 pos, .int .i64 a]] w fun e w' => e = .returned (.int .i64 (lastN (d + 1) (.mk op kind A c args vk vb pos a))) ∧ Below w.heap.size w w' := by
  have HIH := Lib.hid ih
  have HRD := Lib.hid h.1
  have hl := h.2.1
  have HARG := Lib.hid h.2.2.2
  have HQ := Lib.hid hqa
  generalize hR : lastN (d + 1) (.mk op kind A c args vk vb pos a) = R at *
  have hR2 : R = args.foldl (fun m x => max m (lastN d x)) (-1) := by rw [← hR]; show args.foldl _ (if looksB op = true then _ else _) = _; rw [hop]; rfl
  have kn := Bk.new w 27 #[.int .i64 op, .int .i64 kind, .slice A args.length c, .int .i64 vk, .int .u64 vb, .int .i64 pos, .int .i64 a]
  have hbe0 : Below w.heap.size w (w.alloc (.cells #[.int .i64 op, .int .i64 kind, .slice A args.length c, .int .i64 vk, .int .u64 vb, .int .i64 pos, .int .i64 a] 27)) := (Below.refl _ _).alloc (Nat.le_refl _) _
  have n0 : (w.alloc (.cells #[.int .i64 op, .int .i64 kind, .slice A args.length c, .int .i64 vk, .int .u64 vb, .int .i64 pos, .int .i64 a] 27)).cell? ⟨w.heap.size, 0, none⟩ = some (.int .i64 op) := kn.cell 0
  have n2 : (w.alloc (.cells #[.int .i64 op, .int .i64 kind, .slice A args.length c, .int .i64 vk, .int .u64 vb, .int .i64 pos, .int .i64 a] 27)).cell? ⟨w.heap.size, 2, none⟩ = some (.slice A args.length c) := kn.cell 2
  have HR := Lib.hid hR2
  have g42 : (op == 42) = false := by rw [beq_eq_false_iff_ne]; omega
  clear h ih hR kn hR2 hop hqa
  have hcase : ∀ (Q : Prop), (op < 25 → Q) → (25 ≤ op → 31 < op → Q) → Q := fun Q h1 h2 => by
    by_cases h : op < 25
    · exact h1 h
    · exact h2 (by omega) (by omega)
  go_enter Try.func14, Try.ntmps14
  refine hcase _ (fun h25 => ?_) (fun h25 h31 => ?_)
  all_goals (
    clear hcase hg
    go_wp2_with fail
    go_loopw [3, 26] (fun s i wr => ∃ (k : Nat) (z : Int), k ≤ args.length ∧ i = .int .i64 k ∧ s = .int .i64 z ∧ Below w.heap.size w wr ∧ Hid (z = (args.take k).foldl (fun m x => max m (lastN d x)) (-1))) (fun _ i _ => args.length - (intOf i).toNat)
    case atStart => exact ⟨0, -1, Nat.zero_le _, rfl, rfl, hbe0, Lib.hid (by simp)⟩
    case round =>
      rename World => wl
      clear hbe0 n2 n0
      obtain ⟨k, z, hk, rfl, rfl, hbel, hz⟩ := hrel
      by_cases hlt : k < args.length
      · as_aux_lemma =>
        obtain ⟨b, o, rfl, hb, hc⟩ := (HRD.out.below hbel).elem (f := NodeV.cells) (n := 7) NodeV.len (by omega) hlt
        have hx := HARG.out args[k] (by simp)
        have hqx := HQ.out args[k] (by simp)
        have hnext : max z (lastN d args[k]) = (args.take (k + 1)).foldl (fun m x => max m (lastN d x)) (-1) := by
          rw [foldl_take _ _ _ _ hlt, hz.out]
        generalize args[k] = x at *
        have HBX := Lib.hid (HIH.out x)
        generalize lastN d x = p at *
        obtain ⟨op2, kind2, A2, c2, args2, vk2, vb2, pos2, a2⟩ := x
        have hc' : ∀ (j : Nat) (u : Value), [.int .i64 op2, .int .i64 kind2, .slice A2 args2.length c2, .int .i64 vk2, .int .u64 vb2, .int .i64 pos2, .int .i64 a2][j]? = some u → wl.cell? ⟨b, o + k * 7 + j, none⟩ = some u := hc
        have HC := Lib.hid hc'
        have hbx : Below w.heap.size w (wl.alloc (.cells #[.int .i64 op2, .int .i64 kind2, .slice A2 args2.length c2, .int .i64 vk2, .int .u64 vb2, .int .i64 pos2, .int .i64 a2] 27)) := hbel.alloc hbel.size _
        have hrec := HBX.out (wl.alloc (.cells #[.int .i64 op2, .int .i64 kind2, .slice A2 args2.length c2, .int .i64 vk2, .int .u64 vb2, .int .i64 pos2, .int .i64 a2] 27)) (hx.old hbx) hqx
        have ka := Lib.hid (Bk.new wl 27 #[.int .i64 op2, .int .i64 kind2, .slice A2 args2.length c2, .int .i64 vk2, .int .u64 vb2, .int .i64 pos2, .int .i64 a2]).at7
        have HREC := Lib.hid hrec
        have HN := Lib.hid hnext
        clear hrec hx hc hc' HIH HBX hnext hz hqx
        go_wp2_with (first | (refine wpList_load7 rfl _ rfl rfl HC.out ?_) | (refine wpList_load7 rfl _ rfl rfl ka.out ?_))
        refine HREC.out.mono ?_
        rintro e w1 ⟨rfl, hb1⟩
        have hbe1 := hbx.trans (hb1.mono hbx.size)
        clear HREC HC ka hb1
        go_wp2_with fail
        go_roundw
        case rel => exact ⟨k + 1, max z p, by omega, by go_num, by congr 1; rw [Int.max_def]; split <;> split <;> omega, hbe1, HN⟩
        case measure => simp [intOf]; omega
      · as_aux_lemma =>
        obtain rfl : k = args.length := by omega
        have hRf : R = z := by rw [HR.out, hz.out, List.take_length]
        subst hRf
        clear HR HIH hz
        go_wp2_with fail
        go_ret
        exact ⟨rfl, hbel⟩)
theorem last_any : ∀ (d : Nat) (x : NodeV) (w : World), okN d x w w.heap.size → quietN d x = true → Calls Try.prog 14 #[x.val] w fun e w' => e = .returned (.int .i64 (lastN d x)) ∧ Below w.heap.size w w'
  | 0, _, _, h, _ => h.elim
  | d + 1, .mk op kind A c args vk vb pos a, w, h, hq => by
    have hq : ((decide (op < 25) || (decide (31 < op) && decide (op ≠ 42))) && args.all (quietN d)) = true := hq
    simp only [Bool.and_eq_true, Bool.or_eq_true, decide_eq_true_eq, List.all_eq_true] at hq
    exact last_step d (last_any d) op kind (by unfold looksB; simp; omega) (by omega) A c args vk vb pos a w h hq.2
def asksT : Nat → T → Bool
  | 0, _ => false
  | d + 1, .mk op _ args _ _ _ _ => decide (op = 41) || args.any (asksT d)
def nodesT : Nat → T → Nat
  | 0, _ => 0
  | d + 1, .mk _ _ args _ _ _ _ => 1 + (args.map (nodesT d)).sum
def lastT : Nat → T → Int
  | 0, _ => -1
  | d + 1, .mk op _ args _ _ pos _ => args.foldl (fun m x => max m (lastT d x)) (if looksB op = true then max (-1) pos else -1)
def quietT : Nat → T → Bool
  | 0, _ => false
  | d + 1, .mk op _ args _ _ _ _ => (decide (op < 25) || (decide (31 < op) && decide (op ≠ 42))) && args.all (quietT d)
theorem asks_tree : ∀ (d : Nat) (n : NodeV), asksN d n = asksT d (treeN d n)
  | 0, _ => rfl
  | d + 1, .mk op kind A c args vk vb pos a => by
    show (decide (op = 41) || args.any (asksN d)) = (decide (op = 41) || (args.map (treeN d)).any (asksT d))
    rw [List.any_map, show asksN d = asksT d ∘ treeN d from funext (asks_tree d)]
theorem nodes_tree : ∀ (d : Nat) (n : NodeV), nodesN d n = nodesT d (treeN d n)
  | 0, _ => rfl
  | d + 1, .mk op kind A c args vk vb pos a => by
    show 1 + (args.map (nodesN d)).sum = 1 + ((args.map (treeN d)).map (nodesT d)).sum
    rw [List.map_map, show nodesN d = nodesT d ∘ treeN d from funext (nodes_tree d)]
theorem last_tree : ∀ (d : Nat) (n : NodeV), lastN d n = lastT d (treeN d n)
  | 0, _ => rfl
  | d + 1, .mk op kind A c args vk vb pos a => by
    show args.foldl (fun m x => max m (lastN d x)) _ = (args.map (treeN d)).foldl (fun m x => max m (lastT d x)) _
    rw [List.foldl_map, show lastN d = lastT d ∘ treeN d from funext (last_tree d)]
    rfl
theorem quiet_tree : ∀ (d : Nat) (n : NodeV), quietN d n = quietT d (treeN d n)
  | 0, _ => rfl
  | d + 1, .mk op kind A c args vk vb pos a => by
    show (_ && args.all (quietN d)) = (_ && (args.map (treeN d)).all (quietT d))
    rw [List.all_map, show quietN d = quietT d ∘ treeN d from funext (quiet_tree d)]
end Go.Proofs.Ytkfpmoilfillmaa
