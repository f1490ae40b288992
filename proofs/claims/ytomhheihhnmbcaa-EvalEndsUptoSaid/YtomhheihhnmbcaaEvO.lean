/- Layer 9: the document's aggregate. No conditions. -/
import Derived.Test.YtomhheihhnmbcaaEvP
namespace Go.Proofs.Ytomhheihhnmbcaa
open Go.RowKit
set_option linter.unusedVariables false
set_option linter.unusedSimpArgs false

def evMean (S C R : V) (b o m c : Nat) (w0 : World) : List Spec := [.is (.slice (some ⟨b, o, none⟩) m c),
  .is (.agg #[.int .i64 S.k, .int .u64 S.b]),
  .is (.agg #[.int .i64 1, .int .u64 m]),
  .st (fun v w => ∃ g, v = .slice (some ⟨g, 0, none⟩) 1 1 ∧ Bk w g 46 #[.int .i64 1, .int .u64 m]) (fun _ _ _ hb ⟨g, h1, h2⟩ => ⟨g, h1, h2.old hb⟩),
  .is (.agg #[.int .i64 C.k, .int .u64 C.b]),
  .st (fun v w => ∃ g, v = .slice (some ⟨g, 0, none⟩) 2 2 ∧ Bk w g 46 #[.int .i64 S.k, .int .u64 S.b, .int .i64 C.k, .int .u64 C.b]) (fun _ _ _ hb ⟨g, h1, h2⟩ => ⟨g, h1, h2.old hb⟩),
  .is (.agg #[.int .i64 R.k, .int .u64 R.b])]

def overB (op : Int) (l : List V) : V := if op = 25 then intV l.length else overV op l
theorem intV_nat {m : Nat} (h : m ≤ 1048577) : intV m = ⟨1, m⟩ := by unfold intV un; congr 1; omega

theorem rover_count (A : Option Addr) (m c : Nat) (w : World) :
    Calls Try.prog 31 #[.int .i64 25, .slice A m c] w fun e w' => e = .returned (intV m).v ∧ Below w.heap.size w w' := by
  go_enter Try.func31, Try.ntmps31
  go_wp2
  exact bodyPost_ret (v := .agg #[.int .i64 1, .int .u64 (un m)]) (by simp [results, Try.results31, go_sem, un_wrap]) rfl ⟨rfl, by repeat (first | exact Below.refl _ _ | refine Below.setCell ?_ (by first | (simp; done) | (simp; omega)) _ | refine Below.alloc ?_ (by first | (simp; done) | (simp; omega)) _)⟩
theorem rover_nil (op : Int) (h25 : op ≠ 25) (A : Option Addr) (c : Nat) (w : World) :
    Calls Try.prog 31 #[.int .i64 op, .slice A 0 c] w fun e w' => e = .returned none0.v ∧ Below w.heap.size w w' := by
  have g25 : (op == 25) = false := by rw [beq_eq_false_iff_ne]; exact h25
  go_enter Try.func31, Try.ntmps31
  go_wp2
  exact bodyPost_ret (v := .agg #[.int .i64 0, .int .u64 0]) (by simp [results, Try.results31, go_sem]) rfl ⟨rfl, by repeat (first | exact Below.refl _ _ | refine Below.setCell ?_ (by first | (simp; done) | (simp; omega)) _ | refine Below.alloc ?_ (by first | (simp; done) | (simp; omega)) _)⟩
theorem bel2 (w : World) (x1 x2 : Obj) : Below w.heap.size w ((w.alloc x1).alloc x2) := ((Below.refl _ _).alloc (Nat.le_refl _) _).alloc (by simp) _
theorem rover_last (b o n c : Nat) (hn : n < 1048577) (x : V) (w : World) (hb : b < w.heap.size) (h0 : w.cell? ⟨b, o + n * 2, none⟩ = some (.int .i64 x.k)) (h1 : w.cell? ⟨b, o + n * 2 + 1, none⟩ = some (.int .u64 x.b)) :
    Calls Try.prog 31 #[.int .i64 27, .slice (some ⟨b, o, none⟩) (n + 1) c] w fun e w' => e = .returned x.v ∧ Below w.heap.size w w' := by
  have q0 : ∀ x1 x2 : Obj, ((w.alloc x1).alloc x2).cell? ⟨b, o + n * 2, none⟩ = some (.int .i64 x.k) := fun _ _ => (bcell (bel2 _ _ _) _ _ hb).trans h0
  have q1 : ∀ x1 x2 : Obj, ((w.alloc x1).alloc x2).cell? ⟨b, o + n * 2 + 1, none⟩ = some (.int .u64 x.b) := fun _ _ => (bcell (bel2 _ _ _) _ _ hb).trans h1
  have hws : IntKind.i64.wrap ((n : Int) + 1 - 1) = (n : Int) := by rw [IntKind.wrap_i64]; omega
  clear h0 h1
  go_enter Try.func31, Try.ntmps31
  go_wp2
  exact bodyPost_ret (v := .agg #[.int .i64 x.k, .int .u64 x.b]) (by simp [results, Try.results31, go_sem]) rfl ⟨rfl, by repeat (first | exact Below.refl _ _ | refine Below.setCell ?_ (by first | (simp; done) | (simp; omega)) _ | refine Below.alloc ?_ (by first | (simp; done) | (simp; omega)) _)⟩
theorem rover_first (op : Int) (h25 : op ≠ 25) (h27 : op ≠ 27) (h28 : op ≠ 28) (h29 : op ≠ 29) (h30 : op ≠ 30) (h31 : op ≠ 31) (b o n c : Nat) (hn : n < 1048577) (x : V) (w : World) (hb : b < w.heap.size) (h0 : w.cell? ⟨b, o, none⟩ = some (.int .i64 x.k)) (h1 : w.cell? ⟨b, o + 1, none⟩ = some (.int .u64 x.b)) :
    Calls Try.prog 31 #[.int .i64 op, .slice (some ⟨b, o, none⟩) (n + 1) c] w fun e w' => e = .returned x.v ∧ Below w.heap.size w w' := by
  have q0 : ∀ x1 x2 : Obj, ((w.alloc x1).alloc x2).cell? ⟨b, o, none⟩ = some (.int .i64 x.k) := fun _ _ => (bcell (bel2 _ _ _) _ _ hb).trans h0
  have q1 : ∀ x1 x2 : Obj, ((w.alloc x1).alloc x2).cell? ⟨b, o + 1, none⟩ = some (.int .u64 x.b) := fun _ _ => (bcell (bel2 _ _ _) _ _ hb).trans h1
  have g25 : (op == 25) = false := by rw [beq_eq_false_iff_ne]; exact h25
  have g27 : (op == 27) = false := by rw [beq_eq_false_iff_ne]; exact h27
  have g28 : (op == 28) = false := by rw [beq_eq_false_iff_ne]; exact h28
  have g29 : (op == 29) = false := by rw [beq_eq_false_iff_ne]; exact h29
  have g30 : (op == 30) = false := by rw [beq_eq_false_iff_ne]; exact h30
  have g31 : (op == 31) = false := by rw [beq_eq_false_iff_ne]; exact h31
  clear h0 h1 h25 h27 h28 h29 h30 h31
  go_enter Try.func31, Try.ntmps31
  go_wp2
  exact bodyPost_ret (v := .agg #[.int .i64 x.k, .int .u64 x.b]) (by simp [results, Try.results31, go_sem]) rfl ⟨rfl, by repeat (first | exact Below.refl _ _ | refine Below.setCell ?_ (by first | (simp; done) | (simp; omega)) _ | refine Below.alloc ?_ (by first | (simp; done) | (simp; omega)) _)⟩
theorem rover_sum (b o n c : Nat) (hn : n < 1048577) (S : V) (w : World)
    (ih : ∀ w2 : World, Below w.heap.size w w2 → Calls Try.prog 55 #[.slice (some ⟨b, o, none⟩) (n + 1) c] w2 fun e w' => e = .returned S.v ∧ Below w2.heap.size w2 w') :
    Calls Try.prog 31 #[.int .i64 28, .slice (some ⟨b, o, none⟩) (n + 1) c] w fun e w' => e = .returned S.v ∧ Below w.heap.size w w' := by
  have IH := Lib.hid ih
  clear ih
  go_enter Try.func31, Try.ntmps31
  go_wp2_with fail
  refine (IH.out _ (bel2 _ _ _)).mono ?_
  rintro e w1 ⟨rfl, hb1⟩
  simp only [V.v]
  have hbe : Below w.heap.size w w1 := (bel2 _ _ _).trans (hb1.mono (by simp; omega))
  have kr := ((Bk.new w 46 #[.int .i64 0, .int .u64 0]).alloc _).old hb1
  obtain ⟨c0, c1, f0, f1⟩ := vcells kr
  obtain ⟨d0, d1, _, _⟩ := vcells (vput kr (.int .i64 S.k) (.int .u64 S.b))
  clear kr hb1
  go_wp2_with fail
  exact bodyPost_ret (v := .agg #[.int .i64 S.k, .int .u64 S.b]) (by simp [results, Try.results31, go_sem, d0, d1]) rfl ⟨rfl, (hbe.setCell (Nat.le_refl _) _).setCell (Nat.le_refl _) _⟩

theorem rover_end (op : Int) (hop : op = 29 ∨ op = 30) (b o n c : Nat) (hn : n < 1048577) (S : V) (w : World)
    (ih : ∀ w2 : World, Below w.heap.size w w2 → Calls Try.prog 56 #[.slice (some ⟨b, o, none⟩) (n + 1) c, .bool (decide (op = 30))] w2 fun e w' => e = .returned S.v ∧ Below w2.heap.size w2 w') :
    Calls Try.prog 31 #[.int .i64 op, .slice (some ⟨b, o, none⟩) (n + 1) c] w fun e w' => e = .returned S.v ∧ Below w.heap.size w w' := by
  rcases hop with rfl | rfl
  · have IH := Lib.hid ih
    clear ih
    go_enter Try.func31, Try.ntmps31
    go_wp2_with fail
    refine (IH.out _ (bel2 _ _ _)).mono ?_
    rintro e w1 ⟨rfl, hb1⟩
    simp only [V.v]
    have hbe : Below w.heap.size w w1 := (bel2 _ _ _).trans (hb1.mono (by simp; omega))
    have kr := ((Bk.new w 46 #[.int .i64 0, .int .u64 0]).alloc _).old hb1
    obtain ⟨c0, c1, f0, f1⟩ := vcells kr
    obtain ⟨d0, d1, _, _⟩ := vcells (vput kr (.int .i64 S.k) (.int .u64 S.b))
    clear kr hb1
    go_wp2_with fail
    exact bodyPost_ret (v := .agg #[.int .i64 S.k, .int .u64 S.b]) (by simp [results, Try.results31, go_sem, d0, d1]) rfl ⟨rfl, (hbe.setCell (Nat.le_refl _) _).setCell (Nat.le_refl _) _⟩
  · have IH := Lib.hid ih
    clear ih
    go_enter Try.func31, Try.ntmps31
    go_wp2_with fail
    refine (IH.out _ (bel2 _ _ _)).mono ?_
    rintro e w1 ⟨rfl, hb1⟩
    simp only [V.v]
    have hbe : Below w.heap.size w w1 := (bel2 _ _ _).trans (hb1.mono (by simp; omega))
    have kr := ((Bk.new w 46 #[.int .i64 0, .int .u64 0]).alloc _).old hb1
    obtain ⟨c0, c1, f0, f1⟩ := vcells kr
    obtain ⟨d0, d1, _, _⟩ := vcells (vput kr (.int .i64 S.k) (.int .u64 S.b))
    clear kr hb1
    go_wp2_with fail
    exact bodyPost_ret (v := .agg #[.int .i64 S.k, .int .u64 S.b]) (by simp [results, Try.results31, go_sem, d0, d1]) rfl ⟨rfl, (hbe.setCell (Nat.le_refl _) _).setCell (Nat.le_refl _) _⟩

set_option maxRecDepth 100000 in
set_option maxHeartbeats 4000000 in
theorem rover_mean (b o m c : Nat) (hm0 : 0 < m) (hm : m ≤ 1048577) (S C R : V) (hS : S.fits) (hCf : C.fits) (hC : applyV 16 [intV m] = C) (hR : applyV 4 [S, C] = R) (w0 : World)
    (ih : ∀ w2 : World, Below w0.heap.size w0 w2 → Calls Try.prog 55 #[.slice (some ⟨b, o, none⟩) m c] w2 fun e w' => e = .returned S.v ∧ Below w2.heap.size w2 w') :
    Calls Try.prog 31 #[.int .i64 31, .slice (some ⟨b, o, none⟩) m c] w0 fun e w' => e = .returned R.v ∧ Below w0.heap.size w0 w' := by
  have IH := Lib.hid ih
  rw [intV_nat hm] at hC
  have HC := Lib.hid hC
  have HR := Lib.hid hR
  have hN : V.fits ⟨1, m⟩ := show m < 18446744073709551616 by omega
  have hm1 : ((m : Int) == 0) = false := by rw [beq_eq_false_iff_ne]; omega
  clear ih hC hR
  go_enter Try.func31, Try.ntmps31
  go_wp2_with fail
  have HW := Lib.hid (bel2 w0 (.cells #[.int .i64 0, .int .u64 0] 46) (.cells #[.int .i64 1, .int .u64 m] 46))
  have hkn := Bk.newAt (w := w0.alloc (.cells #[.int .i64 0, .int .u64 0] 46)) (g := w0.heap.size + 1) (by simp) 46 #[.int .i64 1, .int .u64 m]
  obtain ⟨cx0, cx1, _, _⟩ := vcells hkn
  clear hkn
  refine wp_region_t 7 (fun k => false) (by kernel_rfl) (fun qk => (evMean S C R b o m c w0).getD qk .any) (by kernel_rfl) ?_ ?_
  · refine BOk.cons rfl [] [1] rfl rfl (by kernel_rfl) (by kernel_rfl) (fun qK qa wr hB qO qF hK => ?_) ?_
    · have e1 : qa.tmps[1]? = some (.slice (some ⟨b, o, none⟩) m c) := qO.1.trans rfl
      clear qO qF
      go_simp
      exact hK _ _ (Below.refl _ _) rfl
    refine BOk.cons rfl [0] [] rfl rfl (by kernel_rfl) (by kernel_rfl) (fun qK qa wr hB qO qF hK => ?_) ?_
    · obtain ⟨u39, e39, r0⟩ := qF.1
      have e39 : qa.tmps[39]? = some (.slice (some ⟨b, o, none⟩) m c) := (show u39 = .slice (some ⟨b, o, none⟩) m c from r0) ▸ e39
      clear r0
      clear qO qF
      go_simp
      go_at_call 55
      refine (IH.out _ (HW.out.trans (hB.mono HW.out.size))).mono ?_
      rintro e w2 ⟨rfl, hb2⟩
      exact hK _ _ hb2 rfl
    refine BOk.cons rfl [] [5] rfl rfl (by kernel_rfl) (by kernel_rfl) (fun qK qa wr hB qO qF hK => ?_) ?_
    · have e5 : qa.tmps[5]? = some (.pointer (some ⟨w0.heap.size + 1, 0, none⟩)) := qO.1.trans rfl
      clear qO qF
      have hcx0 := (bcell hB _ _ (World.block_lt_of_cell? _ _ cx0)).trans cx0
      have hcx1 := (bcell hB _ _ (World.block_lt_of_cell? _ _ cx1)).trans cx1
      go_simp
      exact hK _ _ (Below.refl _ _) rfl
    refine BOk.cons rfl [2] [] rfl rfl (by kernel_rfl) (by kernel_rfl) (fun qK qa wr hB qO qF hK => ?_) ?_
    · obtain ⟨u41, e41, r2⟩ := qF.1
      have e41 : qa.tmps[41]? = some (.agg #[.int .i64 1, .int .u64 m]) := (show u41 = .agg #[.int .i64 1, .int .u64 m] from r2) ▸ e41
      clear r2
      clear qO qF
      go_simp
      exact hK _ _ ((Below.refl _ _).alloc (Nat.le_refl _) _) ⟨_, rfl, Bk.new _ _ _⟩
    refine BOk.cons rfl [3] [] rfl rfl (by kernel_rfl) (by kernel_rfl) (fun qK qa wr hB qO qF hK => ?_) ?_
    · obtain ⟨u42, e42, r3⟩ := qF.1
      obtain ⟨g42, h42, k42⟩ := (show ∃ g, u42 = .slice (some ⟨g, 0, none⟩) 1 1 ∧ Bk wr g 46 #[.int .i64 1, .int .u64 m] from r3)
      subst h42
      have e42 : qa.tmps[42]? = some (.slice (some ⟨g42, 0, none⟩) 1 1) := e42
      clear qO qF
      go_simp
      go_at_call 32
      refine ((rapply_any 16 [⟨1, m⟩] _ 1 _ (bk_rd k42) (by intro x hx; simp only [List.mem_cons, List.not_mem_nil, or_false] at hx; subst hx; exact hN) (by simp))).mono ?_
      rintro e w2 ⟨rfl, hb2⟩
      rw [HC.out]
      exact hK _ _ hb2 rfl
    refine BOk.cons rfl [1, 4] [] rfl rfl (by kernel_rfl) (by kernel_rfl) (fun qK qa wr hB qO qF hK => ?_) ?_
    · obtain ⟨u40, e40, r1⟩ := qF.1
      have e40 : qa.tmps[40]? = some (.agg #[.int .i64 S.k, .int .u64 S.b]) := (show u40 = .agg #[.int .i64 S.k, .int .u64 S.b] from r1) ▸ e40
      clear r1
      obtain ⟨u43, e43, r4⟩ := qF.2.1
      have e43 : qa.tmps[43]? = some (.agg #[.int .i64 C.k, .int .u64 C.b]) := (show u43 = .agg #[.int .i64 C.k, .int .u64 C.b] from r4) ▸ e43
      clear r4
      clear qO qF
      go_simp
      exact hK _ _ ((Below.refl _ _).alloc (Nat.le_refl _) _) ⟨_, rfl, Bk.new _ _ _⟩
    refine BOk.cons rfl [5] [] rfl rfl (by kernel_rfl) (by kernel_rfl) (fun qK qa wr hB qO qF hK => ?_) ?_
    · obtain ⟨u44, e44, r5⟩ := qF.1
      obtain ⟨g44, h44, k44⟩ := (show ∃ g, u44 = .slice (some ⟨g, 0, none⟩) 2 2 ∧ Bk wr g 46 #[.int .i64 S.k, .int .u64 S.b, .int .i64 C.k, .int .u64 C.b] from r5)
      subst h44
      have e44 : qa.tmps[44]? = some (.slice (some ⟨g44, 0, none⟩) 2 2) := e44
      clear qO qF
      go_simp
      go_at_call 32
      refine ((rapply_any 4 [S, C] _ 2 _ (bk_rd k44) (by intro x hx; simp only [List.mem_cons, List.not_mem_nil, or_false] at hx; rcases hx with rfl | rfl <;> assumption) (by simp))).mono ?_
      rintro e w2 ⟨rfl, hb2⟩
      rw [HR.out]
      exact hK _ _ hb2 rfl
    exact BOk.nil
  intro vals wr hl hB hR hS
  match vals, hl with
  | [z39, z40, z41, z42, z43, z44, z45], _ =>
  have r6 : z45 = .agg #[.int .i64 R.k, .int .u64 R.b] := hR 6 _ rfl
  subst r6
  clear hS
  clear hR
  simp only [List.take_succ_cons, List.take_zero, List.drop_succ_cons, List.drop_zero, List.toList_toArray, List.cons_append, List.nil_append, putAll, Act.put, List.setIfInBounds_toArray, List.set_cons_zero, List.set_cons_succ]
  have kr := ((Bk.new w0 46 #[.int .i64 0, .int .u64 0]).alloc _).old hB
  have hbel := HW.out.trans (hB.mono HW.out.size)
  obtain ⟨c0, c1, f0, f1⟩ := vcells kr
  obtain ⟨d0, d1, _, _⟩ := vcells (vput kr (.int .i64 R.k) (.int .u64 R.b))
  clear kr hB
  go_wp2_with fail
  exact bodyPost_ret (v := .agg #[.int .i64 R.k, .int .u64 R.b]) (by simp [results, Try.results31, go_sem, d0, d1]) rfl ⟨rfl, (hbel.setCell (Nat.le_refl _) _).setCell (Nat.le_refl _) _⟩

theorem rover_any (op : Int) (l : List V) (A : Option Addr) (c : Nat) (w : World) (hr : Rd w w.heap.size A (l.flatMap V.cells)) (hf : ∀ x ∈ l, x.fits) (hl : l.length ≤ 1048577) (hlc : l.length ≤ c) :
    Calls Try.prog 31 #[.int .i64 op, .slice A l.length c] w fun e w' => e = .returned (overB op l).v ∧ Below w.heap.size w w' := by
  by_cases h25 : op = 25
  · subst h25
    rw [show overB 25 l = intV l.length from if_pos rfl]
    exact rover_count _ _ _ _
  rw [show overB op l = overV op l from if_neg h25]
  match l, hr, hf, hl, hlc with
  | [], _, _, _, _ => exact rover_nil op h25 _ _ _
  | x :: l0, hr, hf, hl, hlc =>
    obtain ⟨b, o, rfl, hb, hc⟩ : ∃ b o, A = some ⟨b, o, none⟩ ∧ b < w.heap.size ∧ ∀ (j : Nat) (u : Value), ((x :: l0).flatMap V.cells)[j]? = some u → w.cell? ⟨b, o + j, none⟩ = some u := by
      rcases hr with h | ⟨b, o, h1, h2, h3⟩
      · simp [V.cells] at h
      · exact ⟨b, o, h1, h2, h3⟩
    have hlen : (x :: l0).length = l0.length + 1 := rfl
    have hsum := rsum_any (x :: l0) b o c w hb hc hf hl hlc l0.length (by simp)
    rw [show (x :: l0).take (l0.length + 1) = x :: l0 from List.take_of_length_le (by simp)] at hsum
    have hx0 : w.cell? ⟨b, o, none⟩ = some (.int .i64 x.k) := hc 0 _ rfl
    have hx1 : w.cell? ⟨b, o + 1, none⟩ = some (.int .u64 x.b) := hc 1 _ rfl
    rw [hlen]
    rw [hlen] at hl hlc
    rw [overV_cons]
    by_cases h27 : op = 27
    · subst h27
      rw [if_pos rfl]
      have e0 := flat_at (n := 2) V.cells (fun _ => rfl) (x :: l0) l0.length 0 (by simp) (by omega)
      have e1 := flat_at (n := 2) V.cells (fun _ => rfl) (x :: l0) l0.length 1 (by simp) (by omega)
      have el : (x :: l0).getLast (by simp) = (x :: l0)[l0.length]'(by simp) := by rw [List.getLast_eq_getElem]; simp
      rw [el]
      exact rover_last b o l0.length c (by omega) _ w hb (hc _ _ e0) (by have := hc _ _ e1; rwa [← Nat.add_assoc] at this)
    rw [if_neg h27]
    by_cases h28 : op = 28
    · subst h28
      rw [if_pos rfl]
      exact rover_sum b o l0.length c (by omega) _ w hsum.2
    rw [if_neg h28]
    by_cases h29 : op = 29 ∨ op = 30
    · rw [if_pos h29]
      exact rover_end op h29 b o l0.length c (by omega) _ w (fun w2 h2 => rend_any x l0 _ rfl (decide (op = 30)) b o c w2 (Nat.lt_of_lt_of_le hb h2.size) (fun j u hu => (bcell h2 _ _ hb).trans (hc j u hu)) hf (by simpa using hl) (by simpa using hlc))
    rw [if_neg h29]
    by_cases h31 : op = 31
    · subst h31
      rw [if_pos rfl, hlen]
      exact rover_mean b o (l0.length + 1) c (by omega) hl _ _ _ hsum.1 (apply_fits _ _ (by intro q hq; simp only [List.mem_cons, List.not_mem_nil, or_false] at hq; subst hq; exact intV_fits _)) rfl rfl w hsum.2
    rw [if_neg h31]
    exact rover_first op h25 h27 h28 (fun h => h29 (.inl h)) (fun h => h29 (.inr h)) h31 b o l0.length c (by omega) x w hb hx0 hx1
end Go.Proofs.Ytomhheihhnmbcaa
