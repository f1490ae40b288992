/- Contracts of the orders of layers 1 and 2, the document's and the program's; of Same. No conditions. -/
import Derived.Test.YtkfpmoilfillmaaValN
import Derived.Deep.QuietTactic
import Derived.BigQuiet
namespace Go.Proofs.Ytkfpmoilfillmaa
open Go.RowKit
set_option linter.unusedSimpArgs false
set_option linter.unusedVariables false

def cmpI (a b : Int) : Int := if a < b then -1 else if b < a then 1 else 0
def rankN (a : Nat) : Int := if 9223372036854775808 ≤ a then 18446744073709551615 - a else a + 9223372036854775808
def ordN (a b : Nat) : Int := cmpI (rankN (canonN a)) (rankN (canonN b))
def orderV (x y : V) : Int :=
  if (clean x).k ≠ (clean y).k then cmpI (clean x).k (clean y).k
  else if (clean x).k = 4 then ordN (clean x).b (clean y).b else cmpI (wrap64 (clean x).b) (wrap64 (clean y).b)

set_option maxRecDepth 100000 in
theorem rordN_eq (a b : Nat) (ha : a < 18446744073709551616) (hb : b < 18446744073709551616) (w : World) (h0 : canonN a = canonN b) :
    Calls Try.prog 55 #[.int .u64 a, .int .u64 b] w fun e w' => e = .returned (.int .i64 (0)) ∧ w = w' := by
  have g0 : ((canonN a : Int) == (canonN b : Int)) = true := by rw [beq_iff_eq]; omega
  clear h0
  go_enter Try.func55, Try.ntmps55
  go_wp2_with fail
  refine (rcanon_any a ha _).mono ?_
  rintro e w' ⟨rfl, rfl⟩
  go_wp2_with fail
  refine (rcanon_any b hb _).mono ?_
  rintro e w' ⟨rfl, rfl⟩
  go_wp2_with fail
  go_ret
  exact ⟨rfl, rfl⟩
set_option maxRecDepth 100000 in
theorem rordN_nn (a b : Nat) (ha : a < 18446744073709551616) (hb : b < 18446744073709551616) (w : World) (hx : 9223372036854775808 ≤ canonN a) (hy : 9223372036854775808 ≤ canonN b) (hl : canonN b < canonN a) :
    Calls Try.prog 55 #[.int .u64 a, .int .u64 b] w fun e w' => e = .returned (.int .i64 (-1)) ∧ w = w' := by
  have ca := canonN_lt a ha
  have cb := canonN_lt b hb
  have g0 : ((canonN a : Int) == (canonN b : Int)) = false := by rw [beq_eq_false_iff_ne]; omega
  have gx : decide ((9223372036854775808 : Int) ≤ (canonN a : Int)) = true := by rw [decide_eq_true_eq]; omega
  have gy : decide ((9223372036854775808 : Int) ≤ (canonN b : Int)) = true := by rw [decide_eq_true_eq]; omega
  have gl : decide (canonN b < canonN a) = true := by rw [decide_eq_true_eq]; omega
  have gm : decide (canonN a < canonN b) = false := by rw [decide_eq_false_iff_not]; omega
  clear hl
  clear hx hy ca cb
  go_enter Try.func55, Try.ntmps55
  go_wp2_with fail
  refine (rcanon_any a ha _).mono ?_
  rintro e w' ⟨rfl, rfl⟩
  go_wp2_with fail
  refine (rcanon_any b hb _).mono ?_
  rintro e w' ⟨rfl, rfl⟩
  go_wp2_with fail
  go_ret
  exact ⟨rfl, rfl⟩
set_option maxRecDepth 100000 in
theorem rordN_nn2 (a b : Nat) (ha : a < 18446744073709551616) (hb : b < 18446744073709551616) (w : World) (hx : 9223372036854775808 ≤ canonN a) (hy : 9223372036854775808 ≤ canonN b) (hl : canonN a < canonN b) :
    Calls Try.prog 55 #[.int .u64 a, .int .u64 b] w fun e w' => e = .returned (.int .i64 (1)) ∧ w = w' := by
  have ca := canonN_lt a ha
  have cb := canonN_lt b hb
  have g0 : ((canonN a : Int) == (canonN b : Int)) = false := by rw [beq_eq_false_iff_ne]; omega
  have gx : decide ((9223372036854775808 : Int) ≤ (canonN a : Int)) = true := by rw [decide_eq_true_eq]; omega
  have gy : decide ((9223372036854775808 : Int) ≤ (canonN b : Int)) = true := by rw [decide_eq_true_eq]; omega
  have gl : decide (canonN a < canonN b) = true := by rw [decide_eq_true_eq]; omega
  have gm : decide (canonN b < canonN a) = false := by rw [decide_eq_false_iff_not]; omega
  clear hl
  clear hx hy ca cb
  go_enter Try.func55, Try.ntmps55
  go_wp2_with fail
  refine (rcanon_any a ha _).mono ?_
  rintro e w' ⟨rfl, rfl⟩
  go_wp2_with fail
  refine (rcanon_any b hb _).mono ?_
  rintro e w' ⟨rfl, rfl⟩
  go_wp2_with fail
  go_ret
  exact ⟨rfl, rfl⟩
set_option maxRecDepth 100000 in
theorem rordN_np (a b : Nat) (ha : a < 18446744073709551616) (hb : b < 18446744073709551616) (w : World) (hx : 9223372036854775808 ≤ canonN a) (hy : canonN b < 9223372036854775808) :
    Calls Try.prog 55 #[.int .u64 a, .int .u64 b] w fun e w' => e = .returned (.int .i64 (-1)) ∧ w = w' := by
  have ca := canonN_lt a ha
  have cb := canonN_lt b hb
  have g0 : ((canonN a : Int) == (canonN b : Int)) = false := by rw [beq_eq_false_iff_ne]; omega
  have gx : decide ((9223372036854775808 : Int) ≤ (canonN a : Int)) = true := by rw [decide_eq_true_eq]; omega
  have gy : decide ((9223372036854775808 : Int) ≤ (canonN b : Int)) = false := by rw [decide_eq_false_iff_not]; omega
  clear hx hy ca cb
  go_enter Try.func55, Try.ntmps55
  go_wp2_with fail
  refine (rcanon_any a ha _).mono ?_
  rintro e w' ⟨rfl, rfl⟩
  go_wp2_with fail
  refine (rcanon_any b hb _).mono ?_
  rintro e w' ⟨rfl, rfl⟩
  go_wp2_with fail
  go_ret
  exact ⟨rfl, rfl⟩
set_option maxRecDepth 100000 in
theorem rordN_pn (a b : Nat) (ha : a < 18446744073709551616) (hb : b < 18446744073709551616) (w : World) (hx : canonN a < 9223372036854775808) (hy : 9223372036854775808 ≤ canonN b) :
    Calls Try.prog 55 #[.int .u64 a, .int .u64 b] w fun e w' => e = .returned (.int .i64 (1)) ∧ w = w' := by
  have ca := canonN_lt a ha
  have cb := canonN_lt b hb
  have g0 : ((canonN a : Int) == (canonN b : Int)) = false := by rw [beq_eq_false_iff_ne]; omega
  have gx : decide ((9223372036854775808 : Int) ≤ (canonN a : Int)) = false := by rw [decide_eq_false_iff_not]; omega
  have gy : decide ((9223372036854775808 : Int) ≤ (canonN b : Int)) = true := by rw [decide_eq_true_eq]; omega
  clear hx hy ca cb
  go_enter Try.func55, Try.ntmps55
  go_wp2_with fail
  refine (rcanon_any a ha _).mono ?_
  rintro e w' ⟨rfl, rfl⟩
  go_wp2_with fail
  refine (rcanon_any b hb _).mono ?_
  rintro e w' ⟨rfl, rfl⟩
  go_wp2_with fail
  go_ret
  exact ⟨rfl, rfl⟩
set_option maxRecDepth 100000 in
theorem rordN_pp (a b : Nat) (ha : a < 18446744073709551616) (hb : b < 18446744073709551616) (w : World) (hx : canonN a < 9223372036854775808) (hy : canonN b < 9223372036854775808) (hl : canonN a < canonN b) :
    Calls Try.prog 55 #[.int .u64 a, .int .u64 b] w fun e w' => e = .returned (.int .i64 (-1)) ∧ w = w' := by
  have ca := canonN_lt a ha
  have cb := canonN_lt b hb
  have g0 : ((canonN a : Int) == (canonN b : Int)) = false := by rw [beq_eq_false_iff_ne]; omega
  have gx : decide ((9223372036854775808 : Int) ≤ (canonN a : Int)) = false := by rw [decide_eq_false_iff_not]; omega
  have gy : decide ((9223372036854775808 : Int) ≤ (canonN b : Int)) = false := by rw [decide_eq_false_iff_not]; omega
  have gl : decide (canonN a < canonN b) = true := by rw [decide_eq_true_eq]; omega
  have gm : decide (canonN b < canonN a) = false := by rw [decide_eq_false_iff_not]; omega
  clear hl
  clear hx hy ca cb
  go_enter Try.func55, Try.ntmps55
  go_wp2_with fail
  refine (rcanon_any a ha _).mono ?_
  rintro e w' ⟨rfl, rfl⟩
  go_wp2_with fail
  refine (rcanon_any b hb _).mono ?_
  rintro e w' ⟨rfl, rfl⟩
  go_wp2_with fail
  go_ret
  exact ⟨rfl, rfl⟩
set_option maxRecDepth 100000 in
theorem rordN_pp2 (a b : Nat) (ha : a < 18446744073709551616) (hb : b < 18446744073709551616) (w : World) (hx : canonN a < 9223372036854775808) (hy : canonN b < 9223372036854775808) (hl : canonN b < canonN a) :
    Calls Try.prog 55 #[.int .u64 a, .int .u64 b] w fun e w' => e = .returned (.int .i64 (1)) ∧ w = w' := by
  have ca := canonN_lt a ha
  have cb := canonN_lt b hb
  have g0 : ((canonN a : Int) == (canonN b : Int)) = false := by rw [beq_eq_false_iff_ne]; omega
  have gx : decide ((9223372036854775808 : Int) ≤ (canonN a : Int)) = false := by rw [decide_eq_false_iff_not]; omega
  have gy : decide ((9223372036854775808 : Int) ≤ (canonN b : Int)) = false := by rw [decide_eq_false_iff_not]; omega
  have gl : decide (canonN b < canonN a) = true := by rw [decide_eq_true_eq]; omega
  have gm : decide (canonN a < canonN b) = false := by rw [decide_eq_false_iff_not]; omega
  clear hl
  clear hx hy ca cb
  go_enter Try.func55, Try.ntmps55
  go_wp2_with fail
  refine (rcanon_any a ha _).mono ?_
  rintro e w' ⟨rfl, rfl⟩
  go_wp2_with fail
  refine (rcanon_any b hb _).mono ?_
  rintro e w' ⟨rfl, rfl⟩
  go_wp2_with fail
  go_ret
  exact ⟨rfl, rfl⟩
theorem rordN_any (a b : Nat) (ha : a < 18446744073709551616) (hb : b < 18446744073709551616) (w : World) :
    Calls Try.prog 55 #[.int .u64 a, .int .u64 b] w fun e w' => e = .returned (.int .i64 (ordN a b)) ∧ w = w' := by
  have ca := canonN_lt a ha
  have cb := canonN_lt b hb
  unfold ordN cmpI rankN
  by_cases h0 : canonN a = canonN b
  · rw [h0, if_neg (by omega), if_neg (by omega)]; exact rordN_eq a b ha hb w h0
  by_cases hx : 9223372036854775808 ≤ canonN a <;> by_cases hy : 9223372036854775808 ≤ canonN b
  · rw [if_pos hx, if_pos hy]
    by_cases hl : canonN b < canonN a
    · rw [if_pos (by omega)]; exact rordN_nn a b ha hb w hx hy hl
    · rw [if_neg (by omega), if_pos (by omega)]; exact rordN_nn2 a b ha hb w hx hy (by omega)
  · rw [if_pos hx, if_neg hy, if_pos (by omega)]; exact rordN_np a b ha hb w hx (by omega)
  · rw [if_neg hx, if_pos hy, if_neg (by omega), if_pos (by omega)]; exact rordN_pn a b ha hb w (by omega) hy
  · rw [if_neg hx, if_neg hy]
    by_cases hl : canonN a < canonN b
    · rw [if_pos (by omega)]; exact rordN_pp a b ha hb w (by omega) (by omega) hl
    · rw [if_neg (by omega), if_pos (by omega)]; exact rordN_pp2 a b ha hb w (by omega) (by omega) (by omega)
def rorderVR (x y : V) : List Spec := [.is (.agg #[.int .i64 x.k, .int .u64 x.b]),
  .is (.agg #[.int .i64 (clean x).k, .int .u64 (clean x).b]),
  .is (.agg #[.int .i64 y.k, .int .u64 y.b]),
  .is (.agg #[.int .i64 (clean y).k, .int .u64 (clean y).b])]
set_option maxHeartbeats 2000000 in
theorem rorderV_any (x y : V) (hx : x.fits) (hy : y.fits) (w : World) :
    Calls Try.prog 39 #[x.v, y.v] w fun e w' => e = .returned (.int .i64 (orderV x y)) ∧ Below w.heap.size w w' := by
  unfold V.v
  generalize hR : orderV x y = R
  have HRR := Lib.hid hR
  clear hR
  go_enter Try.func39, Try.ntmps39
  go_wp2_with fail
  have k2 : Bk ((w.alloc (.cells #[.int .i64 x.k, .int .u64 x.b] 33)).alloc (.cells #[.int .i64 y.k, .int .u64 y.b] 33)) w.heap.size 33 #[.int .i64 x.k, .int .u64 x.b] := (Bk.new w _ _).alloc _
  have k3 : Bk ((w.alloc (.cells #[.int .i64 x.k, .int .u64 x.b] 33)).alloc (.cells #[.int .i64 y.k, .int .u64 y.b] 33)) (w.heap.size + 1) 33 #[.int .i64 y.k, .int .u64 y.b] := Bk.newAt (by simp) _ _
  have hbW : Below w.heap.size w ((w.alloc (.cells #[.int .i64 x.k, .int .u64 x.b] 33)).alloc (.cells #[.int .i64 y.k, .int .u64 y.b] 33)) := ((Below.refl _ _).alloc (by simp) _).alloc (by simp) _
  generalize (w.alloc (.cells #[.int .i64 x.k, .int .u64 x.b] 33)).alloc (.cells #[.int .i64 y.k, .int .u64 y.b] 33) = W at *
  have ⟨c20, c21, _, _⟩ := vcells k2
  have ⟨c30, c31, _, _⟩ := vcells k3
  refine wp_region_t 4 (fun k => false) (by kernel_rfl) (fun k => (rorderVR x y).getD k .any) (by kernel_rfl) ?_ ?_
  · refine BOk.cons rfl [] [2] rfl rfl (by kernel_rfl) (by kernel_rfl) (fun qK qa wr hB qO qF hK => ?_) ?_
    · have e2 : qa.tmps[2]? = some (.pointer (some ⟨w.heap.size, 0, none⟩)) := qO.1.trans rfl
      clear qO qF
      have hc20 := (bcell hB _ _ (World.block_lt_of_cell? _ _ c20)).trans c20
      have hc21 := (bcell hB _ _ (World.block_lt_of_cell? _ _ c21)).trans c21
      go_simp
      exact hK _ _ (Below.refl _ _) rfl
    refine BOk.cons rfl [0] [] rfl rfl (by kernel_rfl) (by kernel_rfl) (fun qK qa wr hB qO qF hK => ?_) ?_
    · obtain ⟨u7, e7, r0⟩ := qF.1
      have e7 : qa.tmps[7]? = some (.agg #[.int .i64 x.k, .int .u64 x.b]) := (show u7 = .agg #[.int .i64 x.k, .int .u64 x.b] from r0) ▸ e7
      clear r0
      clear qO qF
      go_simp
      go_at_call 21
      refine (rclean_any x hx _).mono ?_
      rintro e w2 ⟨rfl, hb2⟩
      exact hK _ _ hb2 rfl
    refine BOk.cons rfl [] [3] rfl rfl (by kernel_rfl) (by kernel_rfl) (fun qK qa wr hB qO qF hK => ?_) ?_
    · have e3 : qa.tmps[3]? = some (.pointer (some ⟨w.heap.size + 1, 0, none⟩)) := qO.1.trans rfl
      clear qO qF
      have hc30 := (bcell hB _ _ (World.block_lt_of_cell? _ _ c30)).trans c30
      have hc31 := (bcell hB _ _ (World.block_lt_of_cell? _ _ c31)).trans c31
      go_simp
      exact hK _ _ (Below.refl _ _) rfl
    refine BOk.cons rfl [2] [] rfl rfl (by kernel_rfl) (by kernel_rfl) (fun qK qa wr hB qO qF hK => ?_) ?_
    · obtain ⟨u9, e9, r2⟩ := qF.1
      have e9 : qa.tmps[9]? = some (.agg #[.int .i64 y.k, .int .u64 y.b]) := (show u9 = .agg #[.int .i64 y.k, .int .u64 y.b] from r2) ▸ e9
      clear r2
      clear qO qF
      go_simp
      go_at_call 21
      refine (rclean_any y hy _).mono ?_
      rintro e w2 ⟨rfl, hb2⟩
      exact hK _ _ hb2 rfl
    exact BOk.nil
  intro vals wr hl hB hR hS
  match vals, hl with
  | [z7, z8, z9, z10], _ =>
  have r0 : z7 = .agg #[.int .i64 x.k, .int .u64 x.b] := hR 0 _ rfl
  subst r0
  have r1 : z8 = .agg #[.int .i64 (clean x).k, .int .u64 (clean x).b] := hR 1 _ rfl
  subst r1
  have r2 : z9 = .agg #[.int .i64 y.k, .int .u64 y.b] := hR 2 _ rfl
  subst r2
  have r3 : z10 = .agg #[.int .i64 (clean y).k, .int .u64 (clean y).b] := hR 3 _ rfl
  subst r3
  clear hS
  clear hR
  simp only [List.take_succ_cons, List.take_zero, List.drop_succ_cons, List.drop_zero, List.toList_toArray, putAll, Act.put, List.setIfInBounds_toArray, List.set_cons_zero, List.set_cons_succ]
  have k2 := k2.old hB
  have k3 := k3.old hB
  have hbW := hbW.trans (hB.mono hbW.size)
  clear hB c20 c21 c30 c31
  have ⟨c20, c21, f20, f21⟩ := vcells k2
  have ⟨c30, c31, f30, f31⟩ := vcells k3
  refine wpList_plain rfl (fun _ hK => ?_)
  go_simp
  refine hK _ _ ?_
  refine wpList_plain rfl (fun _ hK => ?_)
  go_simp
  refine hK _ _ ?_
  refine wpList_nil ?_
  have h2 : Bk ((((wr.setCell ⟨w.heap.size, 0, none⟩ (.int .i64 (clean x).k)).setCell ⟨w.heap.size, 1, none⟩ (.int .u64 (clean x).b)).setCell ⟨w.heap.size + 1, 0, none⟩ (.int .i64 (clean y).k)).setCell ⟨w.heap.size + 1, 1, none⟩ (.int .u64 (clean y).b)) w.heap.size 33 #[.int .i64 (clean x).k, .int .u64 (clean x).b] := ((vput k2 _ _).far (by simp) _).far (by simp) _
  have h3 : Bk ((((wr.setCell ⟨w.heap.size, 0, none⟩ (.int .i64 (clean x).k)).setCell ⟨w.heap.size, 1, none⟩ (.int .u64 (clean x).b)).setCell ⟨w.heap.size + 1, 0, none⟩ (.int .i64 (clean y).k)).setCell ⟨w.heap.size + 1, 1, none⟩ (.int .u64 (clean y).b)) (w.heap.size + 1) 33 #[.int .i64 (clean y).k, .int .u64 (clean y).b] := vput ((k3.far (by simp) _).far (by simp) _) _ _
  have hbW : Below w.heap.size w ((((wr.setCell ⟨w.heap.size, 0, none⟩ (.int .i64 (clean x).k)).setCell ⟨w.heap.size, 1, none⟩ (.int .u64 (clean x).b)).setCell ⟨w.heap.size + 1, 0, none⟩ (.int .i64 (clean y).k)).setCell ⟨w.heap.size + 1, 1, none⟩ (.int .u64 (clean y).b)) := (((hbW.setCell (by simp) _).setCell (by simp) _).setCell (by simp) _).setCell (by simp) _
  clear c20 c21 c30 c31 f20 f21 f30 f31 k2 k3
  generalize ((((wr.setCell ⟨w.heap.size, 0, none⟩ (.int .i64 (clean x).k)).setCell ⟨w.heap.size, 1, none⟩ (.int .u64 (clean x).b)).setCell ⟨w.heap.size + 1, 0, none⟩ (.int .i64 (clean y).k)).setCell ⟨w.heap.size + 1, 1, none⟩ (.int .u64 (clean y).b)) = W2 at *
  have k2 := h2
  have k3 := h3
  have ⟨c20, c21, f20, f21⟩ := vcells k2
  have ⟨c30, c31, f30, f31⟩ := vcells k3
  have hR := HRR.out
  unfold orderV at hR
  have fx := clean_fits x hx
  have fy := clean_fits y hy
  clear HRR
  generalize clean x = X at *
  generalize clean y = Y at *
  by_cases h4 : X.k = 4 ∧ Y.k = 4
  · rw [if_neg (by omega), if_pos h4.1] at hR
    have g1 : (X.k == 4) = true := by rw [beq_iff_eq]; exact h4.1
    have g2 : (Y.k == 4) = true := by rw [beq_iff_eq]; exact h4.2
    have hh := fun w => rordN_any X.b Y.b fx fy w
    rw [hR] at hh
    clear hR h4
    go_wp2_with (go_at_call 55; refine (hh _).mono ?_; rintro e w' ⟨rfl, rfl⟩)
    go_ret
    exact ⟨rfl, hbW⟩
  by_cases hk : X.k = Y.k
  · rw [if_neg (by omega), if_neg (by omega)] at hR
    have g1 : (X.k != Y.k) = false := by rw [bne_eq_false_iff_eq]; exact hk
    have g2 : (X.k == 4) = false := by rw [beq_eq_false_iff_ne]; omega
    unfold cmpI at hR
    have HR := Lib.hid hR
    clear hR hk h4
    go_wp2_with fail
    go_quiet (fail)
    go_wp2_with fail
    all_goals go_ret
    all_goals (refine ⟨ret_int ?_, by first | exact hbW | exact below_drewN hbW _⟩; rw [← HR.out]; first | (rw [if_pos (by omega)]) | (rw [if_neg (by omega), if_pos (by omega)]) | (rw [if_neg (by omega), if_neg (by omega)]))
  · rw [if_pos hk] at hR
    have g1 : (X.k != Y.k) = true := by rw [bne_iff_ne]; exact hk
    unfold cmpI at hR
    have HR := Lib.hid hR
    clear hR
    by_cases hx4 : X.k = 4
    · have g2 : (X.k == 4) = true := by rw [beq_iff_eq]; exact hx4
      have g3 : (Y.k == 4) = false := by rw [beq_eq_false_iff_ne]; omega
      clear hk h4 hx4
      go_wp2_with fail
      go_quiet (fail)
      go_wp2_with fail
      go_quiet (fail)
      go_wp2_with fail
      all_goals go_ret
      all_goals (refine ⟨ret_int ?_, by first | exact hbW | exact below_drewN hbW _ | exact below_drewN (below_drewN hbW _) _⟩; rw [← HR.out]; first | (rw [if_pos (by omega)]) | (rw [if_neg (by omega), if_pos (by omega)]) | (rw [if_neg (by omega), if_neg (by omega)]))
    · have g2 : (X.k == 4) = false := by rw [beq_eq_false_iff_ne]; exact hx4
      clear hk h4 hx4
      go_wp2_with fail
      go_quiet (fail)
      go_wp2_with fail
      go_quiet (fail)
      go_wp2_with fail
      all_goals go_ret
      all_goals (refine ⟨ret_int ?_, by first | exact hbW | exact below_drewN hbW _ | exact below_drewN (below_drewN hbW _) _⟩; rw [← HR.out]; first | (rw [if_pos (by omega)]) | (rw [if_neg (by omega), if_pos (by omega)]) | (rw [if_neg (by omega), if_neg (by omega)]))
end Go.Proofs.Ytkfpmoilfillmaa
