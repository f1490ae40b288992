/- ValueOrders holds. No conditions. -/
import Derived.Test.YtlejjchaooeabaaValO
namespace Go.Proofs.Ytlejjchaooeabaa.valueOrders
open Go.ChangeShapes Go.WideShapes Go.ChangeAt Go.RowKit
open Go.ChangeMaps (open_string shut_string)
set_option linter.unusedSimpArgs false
set_option linter.unusedVariables false

def sameB (x y : V) : Bool := ((clean x).k == (clean y).k) && ((clean x).b == (clean y).b)
def sameR (x y : V) : List Spec := [.is (.agg #[.int .i64 x.k, .int .u64 x.b]),
  .is (.agg #[.int .i64 (clean x).k, .int .u64 (clean x).b]),
  .is (.agg #[.int .i64 y.k, .int .u64 y.b]),
  .is (.agg #[.int .i64 (clean y).k, .int .u64 (clean y).b]),
  .is (.bool (sameB x y)),
  .is (.bool (sameB x y))]
set_option maxHeartbeats 2000000 in
theorem same_any (x y : V) (hx : x.fits) (hy : y.fits) (w : World) :
    Calls Try.prog 28 #[x.v, y.v] w fun e w' => e = .returned (.bool (sameB x y)) ∧ Below w.heap.size w w' := by
  unfold V.v
  go_enter Try.func28, Try.ntmps28
  go_wp2_with fail
  have k2 : Bk ((w.alloc (.cells #[.int .i64 x.k, .int .u64 x.b] 27)).alloc (.cells #[.int .i64 y.k, .int .u64 y.b] 27)) w.heap.size 27 #[.int .i64 x.k, .int .u64 x.b] := (Bk.new w _ _).alloc _
  have k3 : Bk ((w.alloc (.cells #[.int .i64 x.k, .int .u64 x.b] 27)).alloc (.cells #[.int .i64 y.k, .int .u64 y.b] 27)) (w.heap.size + 1) 27 #[.int .i64 y.k, .int .u64 y.b] := Bk.newAt (by simp) _ _
  have hbW : Below w.heap.size w ((w.alloc (.cells #[.int .i64 x.k, .int .u64 x.b] 27)).alloc (.cells #[.int .i64 y.k, .int .u64 y.b] 27)) := ((Below.refl _ _).alloc (by simp) _).alloc (by simp) _
  generalize (w.alloc (.cells #[.int .i64 x.k, .int .u64 x.b] 27)).alloc (.cells #[.int .i64 y.k, .int .u64 y.b] 27) = W at *
  have ⟨c20, c21, _, _⟩ := vcells k2
  have ⟨c30, c31, _, _⟩ := vcells k3
  refine wp_region_b (by kernel_rfl) (fun k => (sameR x y).getD k .any) (by kernel_rfl) ?_ ?_
  · refine BOk.cons rfl [] [2] rfl rfl (by kernel_rfl) (by kernel_rfl) (fun qK qa wr hB qO qF hK => ?_) ?_
    · have e2 : qa.tmps[2]? = some (.pointer (some ⟨w.heap.size, 0, none⟩)) := qO.1.trans rfl
      clear qO qF
      have hc20 := (bcell hB _ _ (World.block_lt_of_cell? _ _ c20)).trans c20
      have hc21 := (bcell hB _ _ (World.block_lt_of_cell? _ _ c21)).trans c21
      go_simp
      exact hK _ _ (Below.refl _ _) rfl
    refine BOk.cons rfl [0] [] rfl rfl (by kernel_rfl) (by kernel_rfl) (fun qK qa wr hB qO qF hK => ?_) ?_
    · obtain ⟨u5, e5, r0⟩ := qF.1
      have e5 : qa.tmps[5]? = some (.agg #[.int .i64 x.k, .int .u64 x.b]) := (show u5 = .agg #[.int .i64 x.k, .int .u64 x.b] from r0) ▸ e5
      clear r0
      clear qO qF
      go_simp
      go_at_call 15
      refine (pclean_any x hx _).mono ?_
      rintro e w2 ⟨rfl, hb2⟩
      exact hK _ _ hb2 rfl
    refine BOk.cons rfl [] [3] rfl rfl (by kernel_rfl) (by kernel_rfl) (fun qK qa wr hB qO qF hK => ?_) ?_
    · have e3 : qa.tmps[3]? = some (.pointer (some ⟨w.heap.size + 1, 0, none⟩)) := qO.1.trans rfl
      clear qO qF
      have hc30 := (bcell hB _ _ (World.block_lt_of_cell? _ _ c30)).trans c30
      have hc31 := (bcell hB _ _ (World.block_lt_of_cell? _ _ c31)).trans c31
      go_simp
      exact hK _ _ (Below.refl _ _) rfl
    refine BOk.cons rfl [2] [] rfl rfl (by kernel_rfl) (by kernel_rfl) (fun qK qa wr hB qO qF hK => ?_) ?_
    · obtain ⟨u7, e7, r2⟩ := qF.1
      have e7 : qa.tmps[7]? = some (.agg #[.int .i64 y.k, .int .u64 y.b]) := (show u7 = .agg #[.int .i64 y.k, .int .u64 y.b] from r2) ▸ e7
      clear r2
      clear qO qF
      go_simp
      go_at_call 15
      refine (pclean_any y hy _).mono ?_
      rintro e w2 ⟨rfl, hb2⟩
      exact hK _ _ hb2 rfl
    refine BOk.cons rfl [1, 3] [] rfl rfl (by kernel_rfl) (by kernel_rfl) (fun qK qa wr hB qO qF hK => ?_) ?_
    · obtain ⟨u6, e6, r1⟩ := qF.1
      have e6 : qa.tmps[6]? = some (.agg #[.int .i64 (clean x).k, .int .u64 (clean x).b]) := (show u6 = .agg #[.int .i64 (clean x).k, .int .u64 (clean x).b] from r1) ▸ e6
      clear r1
      obtain ⟨u8, e8, r3⟩ := qF.2.1
      have e8 : qa.tmps[8]? = some (.agg #[.int .i64 (clean y).k, .int .u64 (clean y).b]) := (show u8 = .agg #[.int .i64 (clean y).k, .int .u64 (clean y).b] from r3) ▸ e8
      clear r3
      clear qO qF
      go_simp
      repeat' split
      all_goals (refine hK _ _ (Below.refl _ _) ?_; show (_ : Value) = _; simp_all [sameB] <;> omega)
    refine BOk.cons rfl [4] [] rfl rfl (by kernel_rfl) (by kernel_rfl) (fun qK qa wr hB qO qF hK => ?_) ?_
    · obtain ⟨u9, e9, r4⟩ := qF.1
      have e9 : qa.tmps[9]? = some (.bool (sameB x y)) := (show u9 = .bool (sameB x y) from r4) ▸ e9
      clear r4
      clear qO qF
      go_simp
      exact hK _ _ (Below.refl _ _) rfl
    exact BOk.nil
  intro vals wr hl hB hR
  match vals, hl with
  | [z5, z6, z7, z8, z9, z4], _ =>
  have r5 : z4 = .bool (sameB x y) := hR 5 _ rfl
  subst r5
  clear hR
  simp only [putAll, Act.put, List.setIfInBounds_toArray, List.set_cons_zero, List.set_cons_succ]
  go_wp2_with fail
  go_ret
  exact ⟨rfl, hbW.trans (hB.mono hbW.size)⟩
def ordersR (x y : V) : List Spec := [.is (.bool true),
  .is (.bool true),
  .is (.agg #[.int .i64 x.k, .int .u64 x.b]),
  .is (.agg #[.int .i64 x.k, .int .u64 x.b]),
  .is (.agg #[.int .i64 y.k, .int .u64 y.b]),
  .is (.agg #[.int .i64 y.k, .int .u64 y.b]),
  .is (.int .i64 (orderV x y)),
  .is (.agg #[.int .i64 x.k, .int .u64 x.b]),
  .is (.agg #[.int .i64 y.k, .int .u64 y.b]),
  .is (.int .i64 (orderV x y)),
  .is (.bool true),
  .is (.bool true),
  .is (.bool true),
  .is (.agg #[.int .i64 x.k, .int .u64 x.b]),
  .is (.agg #[.int .i64 x.k, .int .u64 x.b]),
  .is (.agg #[.int .i64 y.k, .int .u64 y.b]),
  .is (.agg #[.int .i64 y.k, .int .u64 y.b]),
  .is (.bool (sameB x y)),
  .is (.agg #[.int .i64 x.k, .int .u64 x.b]),
  .is (.agg #[.int .i64 (clean x).k, .int .u64 (clean x).b]),
  .is (.agg #[.int .i64 y.k, .int .u64 y.b]),
  .is (.agg #[.int .i64 (clean y).k, .int .u64 (clean y).b]),
  .is (.bool (sameB x y)),
  .is (.bool true),
  .is (.bool true),
  .is (.bool true)]
set_option maxHeartbeats 2000000 in
theorem walk (x : V) (hx : x.fits) (y : V) (hy : y.fits) (w : World) :
    Calls Try.prog 12 #[x.v, y.v] w fun e w' => e = .returned (.bool true) ∧ Below w.heap.size w w' := by
  unfold V.v
  go_enter Try.func12, Try.ntmps12
  go_wp2_with fail
  have k2 : Bk ((w.alloc (.cells #[.int .i64 x.k, .int .u64 x.b] 24)).alloc (.cells #[.int .i64 y.k, .int .u64 y.b] 24)) w.heap.size 24 #[.int .i64 x.k, .int .u64 x.b] := (Bk.new w _ _).alloc _
  have k3 : Bk ((w.alloc (.cells #[.int .i64 x.k, .int .u64 x.b] 24)).alloc (.cells #[.int .i64 y.k, .int .u64 y.b] 24)) (w.heap.size + 1) 24 #[.int .i64 y.k, .int .u64 y.b] := Bk.newAt (by simp) _ _
  have hbW : Below w.heap.size w ((w.alloc (.cells #[.int .i64 x.k, .int .u64 x.b] 24)).alloc (.cells #[.int .i64 y.k, .int .u64 y.b] 24)) := ((Below.refl _ _).alloc (by simp) _).alloc (by simp) _
  generalize (w.alloc (.cells #[.int .i64 x.k, .int .u64 x.b] 24)).alloc (.cells #[.int .i64 y.k, .int .u64 y.b] 24) = W at *
  have ⟨c20, c21, _, _⟩ := vcells k2
  have ⟨c30, c31, _, _⟩ := vcells k3
  refine wp_region_b (by kernel_rfl) (fun k => (ordersR x y).getD k .any) (by kernel_rfl) ?_ ?_
  · refine BOk.cons rfl [] [] rfl rfl (by kernel_rfl) (by kernel_rfl) (fun qK qa wr hB qO qF hK => ?_) ?_
    · clear qO qF
      go_simp
      go_at_call 13
      refine (awake_any _).mono ?_
      rintro e w2 ⟨rfl, hb2⟩
      exact hK _ _ hb2 rfl
    refine BOk.cons rfl [0] [] rfl rfl (by kernel_rfl) (by kernel_rfl) (fun qK qa wr hB qO qF hK => ?_) ?_
    · obtain ⟨u5, e5, r0⟩ := qF.1
      have e5 : qa.tmps[5]? = some (.bool true) := (show u5 = .bool true from r0) ▸ e5
      clear r0
      clear qO qF
      go_simp
      exact hK _ _ (Below.refl _ _) rfl
    refine BOk.yes rfl [] [2] rfl 1 true rfl rfl rfl (by kernel_rfl) (by kernel_rfl) (by kernel_rfl) (fun qK qa wr hB qO qF hK => ?_) ?_
    · have e2 : qa.tmps[2]? = some (.pointer (some ⟨w.heap.size, 0, none⟩)) := qO.1.trans rfl
      clear qO qF
      have hc20 := (bcell hB _ _ (World.block_lt_of_cell? _ _ c20)).trans c20
      have hc21 := (bcell hB _ _ (World.block_lt_of_cell? _ _ c21)).trans c21
      go_simp
      exact hK _ _ (Below.refl _ _) rfl
    refine BOk.yes rfl [2] [] rfl 1 true rfl rfl rfl (by kernel_rfl) (by kernel_rfl) (by kernel_rfl) (fun qK qa wr hB qO qF hK => ?_) ?_
    · obtain ⟨u7, e7, r2⟩ := qF.1
      have e7 : qa.tmps[7]? = some (.agg #[.int .i64 x.k, .int .u64 x.b]) := (show u7 = .agg #[.int .i64 x.k, .int .u64 x.b] from r2) ▸ e7
      clear r2
      clear qO qF
      go_simp
      go_at_call 16
      refine (to_any x _).mono ?_
      rintro e w2 ⟨rfl, hb2⟩
      exact hK _ _ hb2 rfl
    refine BOk.yes rfl [] [3] rfl 1 true rfl rfl rfl (by kernel_rfl) (by kernel_rfl) (by kernel_rfl) (fun qK qa wr hB qO qF hK => ?_) ?_
    · have e3 : qa.tmps[3]? = some (.pointer (some ⟨w.heap.size + 1, 0, none⟩)) := qO.1.trans rfl
      clear qO qF
      have hc30 := (bcell hB _ _ (World.block_lt_of_cell? _ _ c30)).trans c30
      have hc31 := (bcell hB _ _ (World.block_lt_of_cell? _ _ c31)).trans c31
      go_simp
      exact hK _ _ (Below.refl _ _) rfl
    refine BOk.yes rfl [4] [] rfl 1 true rfl rfl rfl (by kernel_rfl) (by kernel_rfl) (by kernel_rfl) (fun qK qa wr hB qO qF hK => ?_) ?_
    · obtain ⟨u9, e9, r4⟩ := qF.1
      have e9 : qa.tmps[9]? = some (.agg #[.int .i64 y.k, .int .u64 y.b]) := (show u9 = .agg #[.int .i64 y.k, .int .u64 y.b] from r4) ▸ e9
      clear r4
      clear qO qF
      go_simp
      go_at_call 16
      refine (to_any y _).mono ?_
      rintro e w2 ⟨rfl, hb2⟩
      exact hK _ _ hb2 rfl
    refine BOk.yes rfl [3, 5] [] rfl 1 true rfl rfl rfl (by kernel_rfl) (by kernel_rfl) (by kernel_rfl) (fun qK qa wr hB qO qF hK => ?_) ?_
    · obtain ⟨u8, e8, r3⟩ := qF.1
      have e8 : qa.tmps[8]? = some (.agg #[.int .i64 x.k, .int .u64 x.b]) := (show u8 = .agg #[.int .i64 x.k, .int .u64 x.b] from r3) ▸ e8
      clear r3
      obtain ⟨u10, e10, r5⟩ := qF.2.1
      have e10 : qa.tmps[10]? = some (.agg #[.int .i64 y.k, .int .u64 y.b]) := (show u10 = .agg #[.int .i64 y.k, .int .u64 y.b] from r5) ▸ e10
      clear r5
      clear qO qF
      go_simp
      go_at_call 26
      refine (porderV_any x y hx hy _).mono ?_
      rintro e w2 ⟨rfl, hb2⟩
      exact hK _ _ hb2 rfl
    refine BOk.yes rfl [] [2] rfl 1 true rfl rfl rfl (by kernel_rfl) (by kernel_rfl) (by kernel_rfl) (fun qK qa wr hB qO qF hK => ?_) ?_
    · have e2 : qa.tmps[2]? = some (.pointer (some ⟨w.heap.size, 0, none⟩)) := qO.1.trans rfl
      clear qO qF
      have hc20 := (bcell hB _ _ (World.block_lt_of_cell? _ _ c20)).trans c20
      have hc21 := (bcell hB _ _ (World.block_lt_of_cell? _ _ c21)).trans c21
      go_simp
      exact hK _ _ (Below.refl _ _) rfl
    refine BOk.yes rfl [] [3] rfl 1 true rfl rfl rfl (by kernel_rfl) (by kernel_rfl) (by kernel_rfl) (fun qK qa wr hB qO qF hK => ?_) ?_
    · have e3 : qa.tmps[3]? = some (.pointer (some ⟨w.heap.size + 1, 0, none⟩)) := qO.1.trans rfl
      clear qO qF
      have hc30 := (bcell hB _ _ (World.block_lt_of_cell? _ _ c30)).trans c30
      have hc31 := (bcell hB _ _ (World.block_lt_of_cell? _ _ c31)).trans c31
      go_simp
      exact hK _ _ (Below.refl _ _) rfl
    refine BOk.yes rfl [7, 8] [] rfl 1 true rfl rfl rfl (by kernel_rfl) (by kernel_rfl) (by kernel_rfl) (fun qK qa wr hB qO qF hK => ?_) ?_
    · obtain ⟨u12, e12, r7⟩ := qF.1
      have e12 : qa.tmps[12]? = some (.agg #[.int .i64 x.k, .int .u64 x.b]) := (show u12 = .agg #[.int .i64 x.k, .int .u64 x.b] from r7) ▸ e12
      clear r7
      obtain ⟨u13, e13, r8⟩ := qF.2.1
      have e13 : qa.tmps[13]? = some (.agg #[.int .i64 y.k, .int .u64 y.b]) := (show u13 = .agg #[.int .i64 y.k, .int .u64 y.b] from r8) ▸ e13
      clear r8
      clear qO qF
      go_simp
      go_at_call 27
      refine (rorderV_any x y hx hy _).mono ?_
      rintro e w2 ⟨rfl, hb2⟩
      exact hK _ _ hb2 rfl
    refine BOk.yes rfl [6, 9] [] rfl 1 true rfl rfl rfl (by kernel_rfl) (by kernel_rfl) (by kernel_rfl) (fun qK qa wr hB qO qF hK => ?_) ?_
    · obtain ⟨u11, e11, r6⟩ := qF.1
      have e11 : qa.tmps[11]? = some (.int .i64 (orderV x y)) := (show u11 = .int .i64 (orderV x y) from r6) ▸ e11
      clear r6
      obtain ⟨u14, e14, r9⟩ := qF.2.1
      have e14 : qa.tmps[14]? = some (.int .i64 (orderV x y)) := (show u14 = .int .i64 (orderV x y) from r9) ▸ e14
      clear r9
      clear qO qF
      go_simp
      refine hK _ _ (Below.refl _ _) ?_
      show (_ : Value) = _
      first | rfl | (simp [sameB]; done) | (simp; omega)
    refine BOk.cons rfl [1, 10] [] rfl rfl (by kernel_rfl) (by kernel_rfl) (fun qK qa wr hB qO qF hK => ?_) ?_
    · obtain ⟨u6, e6, r1⟩ := qF.1
      have e6 : qa.tmps[6]? = some (.bool true) := (show u6 = .bool true from r1) ▸ e6
      clear r1
      obtain ⟨u15, e15, r10⟩ := qF.2.1
      have e15 : qa.tmps[15]? = some (.bool true) := (show u15 = .bool true from r10) ▸ e15
      clear r10
      clear qO qF
      go_simp
      refine hK _ _ (Below.refl _ _) ?_
      show (_ : Value) = _
      first | rfl | (simp [sameB]; done) | (simp; omega)
    refine BOk.cons rfl [11] [] rfl rfl (by kernel_rfl) (by kernel_rfl) (fun qK qa wr hB qO qF hK => ?_) ?_
    · obtain ⟨u16, e16, r11⟩ := qF.1
      have e16 : qa.tmps[16]? = some (.bool true) := (show u16 = .bool true from r11) ▸ e16
      clear r11
      clear qO qF
      go_simp
      exact hK _ _ (Below.refl _ _) rfl
    refine BOk.yes rfl [] [2] rfl 12 true rfl rfl rfl (by kernel_rfl) (by kernel_rfl) (by kernel_rfl) (fun qK qa wr hB qO qF hK => ?_) ?_
    · have e2 : qa.tmps[2]? = some (.pointer (some ⟨w.heap.size, 0, none⟩)) := qO.1.trans rfl
      clear qO qF
      have hc20 := (bcell hB _ _ (World.block_lt_of_cell? _ _ c20)).trans c20
      have hc21 := (bcell hB _ _ (World.block_lt_of_cell? _ _ c21)).trans c21
      go_simp
      exact hK _ _ (Below.refl _ _) rfl
    refine BOk.yes rfl [13] [] rfl 12 true rfl rfl rfl (by kernel_rfl) (by kernel_rfl) (by kernel_rfl) (fun qK qa wr hB qO qF hK => ?_) ?_
    · obtain ⟨u18, e18, r13⟩ := qF.1
      have e18 : qa.tmps[18]? = some (.agg #[.int .i64 x.k, .int .u64 x.b]) := (show u18 = .agg #[.int .i64 x.k, .int .u64 x.b] from r13) ▸ e18
      clear r13
      clear qO qF
      go_simp
      go_at_call 16
      refine (to_any x _).mono ?_
      rintro e w2 ⟨rfl, hb2⟩
      exact hK _ _ hb2 rfl
    refine BOk.yes rfl [] [3] rfl 12 true rfl rfl rfl (by kernel_rfl) (by kernel_rfl) (by kernel_rfl) (fun qK qa wr hB qO qF hK => ?_) ?_
    · have e3 : qa.tmps[3]? = some (.pointer (some ⟨w.heap.size + 1, 0, none⟩)) := qO.1.trans rfl
      clear qO qF
      have hc30 := (bcell hB _ _ (World.block_lt_of_cell? _ _ c30)).trans c30
      have hc31 := (bcell hB _ _ (World.block_lt_of_cell? _ _ c31)).trans c31
      go_simp
      exact hK _ _ (Below.refl _ _) rfl
    refine BOk.yes rfl [15] [] rfl 12 true rfl rfl rfl (by kernel_rfl) (by kernel_rfl) (by kernel_rfl) (fun qK qa wr hB qO qF hK => ?_) ?_
    · obtain ⟨u20, e20, r15⟩ := qF.1
      have e20 : qa.tmps[20]? = some (.agg #[.int .i64 y.k, .int .u64 y.b]) := (show u20 = .agg #[.int .i64 y.k, .int .u64 y.b] from r15) ▸ e20
      clear r15
      clear qO qF
      go_simp
      go_at_call 16
      refine (to_any y _).mono ?_
      rintro e w2 ⟨rfl, hb2⟩
      exact hK _ _ hb2 rfl
    refine BOk.yes rfl [14, 16] [] rfl 12 true rfl rfl rfl (by kernel_rfl) (by kernel_rfl) (by kernel_rfl) (fun qK qa wr hB qO qF hK => ?_) ?_
    · obtain ⟨u19, e19, r14⟩ := qF.1
      have e19 : qa.tmps[19]? = some (.agg #[.int .i64 x.k, .int .u64 x.b]) := (show u19 = .agg #[.int .i64 x.k, .int .u64 x.b] from r14) ▸ e19
      clear r14
      obtain ⟨u21, e21, r16⟩ := qF.2.1
      have e21 : qa.tmps[21]? = some (.agg #[.int .i64 y.k, .int .u64 y.b]) := (show u21 = .agg #[.int .i64 y.k, .int .u64 y.b] from r16) ▸ e21
      clear r16
      clear qO qF
      go_simp
      go_at_call 28
      refine (same_any x y hx hy _).mono ?_
      rintro e w2 ⟨rfl, hb2⟩
      exact hK _ _ hb2 rfl
    refine BOk.yes rfl [] [2] rfl 12 true rfl rfl rfl (by kernel_rfl) (by kernel_rfl) (by kernel_rfl) (fun qK qa wr hB qO qF hK => ?_) ?_
    · have e2 : qa.tmps[2]? = some (.pointer (some ⟨w.heap.size, 0, none⟩)) := qO.1.trans rfl
      clear qO qF
      have hc20 := (bcell hB _ _ (World.block_lt_of_cell? _ _ c20)).trans c20
      have hc21 := (bcell hB _ _ (World.block_lt_of_cell? _ _ c21)).trans c21
      go_simp
      exact hK _ _ (Below.refl _ _) rfl
    refine BOk.yes rfl [18] [] rfl 12 true rfl rfl rfl (by kernel_rfl) (by kernel_rfl) (by kernel_rfl) (fun qK qa wr hB qO qF hK => ?_) ?_
    · obtain ⟨u23, e23, r18⟩ := qF.1
      have e23 : qa.tmps[23]? = some (.agg #[.int .i64 x.k, .int .u64 x.b]) := (show u23 = .agg #[.int .i64 x.k, .int .u64 x.b] from r18) ▸ e23
      clear r18
      clear qO qF
      go_simp
      go_at_call 17
      refine (rclean_any x hx _).mono ?_
      rintro e w2 ⟨rfl, hb2⟩
      exact hK _ _ hb2 rfl
    refine BOk.yes rfl [] [3] rfl 12 true rfl rfl rfl (by kernel_rfl) (by kernel_rfl) (by kernel_rfl) (fun qK qa wr hB qO qF hK => ?_) ?_
    · have e3 : qa.tmps[3]? = some (.pointer (some ⟨w.heap.size + 1, 0, none⟩)) := qO.1.trans rfl
      clear qO qF
      have hc30 := (bcell hB _ _ (World.block_lt_of_cell? _ _ c30)).trans c30
      have hc31 := (bcell hB _ _ (World.block_lt_of_cell? _ _ c31)).trans c31
      go_simp
      exact hK _ _ (Below.refl _ _) rfl
    refine BOk.yes rfl [20] [] rfl 12 true rfl rfl rfl (by kernel_rfl) (by kernel_rfl) (by kernel_rfl) (fun qK qa wr hB qO qF hK => ?_) ?_
    · obtain ⟨u25, e25, r20⟩ := qF.1
      have e25 : qa.tmps[25]? = some (.agg #[.int .i64 y.k, .int .u64 y.b]) := (show u25 = .agg #[.int .i64 y.k, .int .u64 y.b] from r20) ▸ e25
      clear r20
      clear qO qF
      go_simp
      go_at_call 17
      refine (rclean_any y hy _).mono ?_
      rintro e w2 ⟨rfl, hb2⟩
      exact hK _ _ hb2 rfl
    refine BOk.yes rfl [19, 21] [] rfl 12 true rfl rfl rfl (by kernel_rfl) (by kernel_rfl) (by kernel_rfl) (fun qK qa wr hB qO qF hK => ?_) ?_
    · obtain ⟨u24, e24, r19⟩ := qF.1
      have e24 : qa.tmps[24]? = some (.agg #[.int .i64 (clean x).k, .int .u64 (clean x).b]) := (show u24 = .agg #[.int .i64 (clean x).k, .int .u64 (clean x).b] from r19) ▸ e24
      clear r19
      obtain ⟨u26, e26, r21⟩ := qF.2.1
      have e26 : qa.tmps[26]? = some (.agg #[.int .i64 (clean y).k, .int .u64 (clean y).b]) := (show u26 = .agg #[.int .i64 (clean y).k, .int .u64 (clean y).b] from r21) ▸ e26
      clear r21
      clear qO qF
      go_simp
      repeat' split
      all_goals (refine hK _ _ (Below.refl _ _) ?_; show (_ : Value) = _; simp_all [sameB] <;> omega)
    refine BOk.yes rfl [17, 22] [] rfl 12 true rfl rfl rfl (by kernel_rfl) (by kernel_rfl) (by kernel_rfl) (fun qK qa wr hB qO qF hK => ?_) ?_
    · obtain ⟨u22, e22, r17⟩ := qF.1
      have e22 : qa.tmps[22]? = some (.bool (sameB x y)) := (show u22 = .bool (sameB x y) from r17) ▸ e22
      clear r17
      obtain ⟨u27, e27, r22⟩ := qF.2.1
      have e27 : qa.tmps[27]? = some (.bool (sameB x y)) := (show u27 = .bool (sameB x y) from r22) ▸ e27
      clear r22
      clear qO qF
      go_simp
      refine hK _ _ (Below.refl _ _) ?_
      show (_ : Value) = _
      first | rfl | (simp [sameB]; done) | (simp; omega)
    refine BOk.cons rfl [12, 23] [] rfl rfl (by kernel_rfl) (by kernel_rfl) (fun qK qa wr hB qO qF hK => ?_) ?_
    · obtain ⟨u17, e17, r12⟩ := qF.1
      have e17 : qa.tmps[17]? = some (.bool true) := (show u17 = .bool true from r12) ▸ e17
      clear r12
      obtain ⟨u28, e28, r23⟩ := qF.2.1
      have e28 : qa.tmps[28]? = some (.bool true) := (show u28 = .bool true from r23) ▸ e28
      clear r23
      clear qO qF
      go_simp
      refine hK _ _ (Below.refl _ _) ?_
      show (_ : Value) = _
      first | rfl | (simp [sameB]; done) | (simp; omega)
    refine BOk.cons rfl [24] [] rfl rfl (by kernel_rfl) (by kernel_rfl) (fun qK qa wr hB qO qF hK => ?_) ?_
    · obtain ⟨u29, e29, r24⟩ := qF.1
      have e29 : qa.tmps[29]? = some (.bool true) := (show u29 = .bool true from r24) ▸ e29
      clear r24
      clear qO qF
      go_simp
      exact hK _ _ (Below.refl _ _) rfl
    exact BOk.nil
  intro vals wr hl hB hR
  match vals, hl with
  | [z5, z6, z7, z8, z9, z10, z11, z12, z13, z14, z15, z16, z17, z18, z19, z20, z21, z22, z23, z24, z25, z26, z27, z28, z29, z4], _ =>
  have r25 : z4 = .bool true := hR 25 _ rfl
  subst r25
  clear hR
  simp only [putAll, Act.put, List.setIfInBounds_toArray, List.set_cons_zero, List.set_cons_succ]
  go_wp2_with fail
  go_ret
  exact ⟨rfl, hbW.trans (hB.mono hbW.size)⟩

theorem own : ownKnob Try.prog.godebug = none := by kernel_rfl
theorem laidOut : laidOutB Try.prog = true := by kernel_rfl
theorem rec0 : (Try.f12.params.toList.all fun t => Try.prog.readableRec t && decide (t < Try.prog.types.size)) = true := by kernel_rfl
set_option maxRecDepth 100000 in
theorem lifted (os : Os) (started : os.Started) (H : Type) (enc : TypeId × Value → H) :
    ReturnsInHanded {} Try.checked os 12 .any (Rows.valueOrdersSpec.pre6 enc Try.prog Try.f12 Rows.valueOrdersRow.domain false) (Rows.valueOrdersSpec.post enc Try.prog Try.f12 false true false false) := by
  refine law_step (C := Try.checked) (tb := 4) own started (by kernel_rfl) Try.func12
    (ChangeSpec.witness6 (enc := enc) (C := Try.checked) false ⟨#[], #[.agg #[.int .i64 0, .int .u64 0], .agg #[.int .i64 0, .int .u64 0]], []⟩ 8 (by kernel_rfl) (by kernel_rfl) (by kernel_rfl) (by kernel_rfl)) laidOut ?_ rfl Try.underlying4 rfl ?_ ?_
  · intro t ht
    have := List.all_eq_true.1 rec0 t ht
    simp only [Bool.and_eq_true, decide_eq_true_eq] at this
    exact this
  · intro ds hd
    match ds, hd with
    | [d0, d1], _ => exact ⟨rfl, rfl, rfl⟩
  intro W base args ds p hval hA hsz
  rw [Try.params12] at hA hval hsz
  obtain ⟨v0, vs0, d0, ds0, p0, q0, hargs, rfl, rfl, h0, r0⟩ := trodAll_cons hA
  obtain ⟨v1, vs1, d1, ds1, p1, q1, rfl, rfl, rfl, h1, r1⟩ := trodAll_cons r0
  obtain ⟨rfl, rfl, rfl⟩ := trodAll_nil r1
  obtain rfl : args = #[v0, v1] := by cases args; simp_all
  obtain ⟨x0, rfl, hx0⟩ := open_v (hval 0 24 v0 rfl rfl) h0 (weights_each (i := 0) hsz rfl rfl)
  obtain ⟨x1, rfl, hx1⟩ := open_v (hval 1 24 v1 rfl rfl) h1 (weights_each (i := 1) hsz rfl rfl)
  exact walk x0 hx0 x1 hx1 W 

theorem valueOrders_holds : Rows.ValueOrdersSaid :=
  OpenClaim.holds_of_wide 12 Try.f12 rfl rfl rfl rfl rfl rfl rfl ⟨rfl, rfl, rfl, rfl, rfl⟩ rfl rfl rfl rfl rfl (by kernel_rfl) Try.func12 (by kernel_rfl)
    (of_decide_eq_true (by kernel_rfl)) (by unfold Func.isWrapper; first | (rw [if_pos (by decide +kernel)]; kernel_rfl) | (rw [if_neg (by decide +kernel)]; exact ⟨rfl, rfl⟩))
    (fun os started H enc _ => lifted os started H enc)
#print axioms valueOrders_holds
end Go.Proofs.Ytlejjchaooeabaa.valueOrders
