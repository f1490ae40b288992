/- A case of the walk of ValueCompares. No conditions. -/
import Derived.Test.YtlejjchaooeabaaCmpP
import Derived.Deep.DeepCutAuto
namespace Go.Proofs.Ytlejjchaooeabaa.valueCompares
open Go.RowKit
set_option linter.unusedSimpArgs false
set_option linter.unusedVariables false
def cmpR3_no (x y : V) (E : V) (w : World) (Bq : Nat) : List Spec := [.is (.agg #[.int .i64 x.k, .int .u64 x.b]),
  .is (.agg #[.int .i64 y.k, .int .u64 y.b]),
  .st (fun v w => ∃ g, v = .slice (some ⟨g, 0, none⟩) 2 2 ∧ Bk w g 24 #[.int .i64 x.k, .int .u64 x.b, .int .i64 y.k, .int .u64 y.b]) (fun _ _ _ hb ⟨g, h1, h2⟩ => ⟨g, h1, h2.old hb⟩),
  .is (.agg #[.int .i64 0, .int .u64 0]),
  .is (.agg #[.int .i64 x.k, .int .u64 x.b]),
  .is (.agg #[.int .i64 y.k, .int .u64 y.b]),
  .st (fun v w => ∃ g, v = .slice (some ⟨g, 0, none⟩) 2 2 ∧ Bk w g 24 #[.int .i64 x.k, .int .u64 x.b, .int .i64 y.k, .int .u64 y.b]) (fun _ _ _ hb ⟨g, h1, h2⟩ => ⟨g, h1, h2.old hb⟩),
  .is (.agg #[.int .i64 E.k, .int .u64 E.b]),
  .is (.agg #[.int .i64 x.k, .int .u64 x.b]),
  .is (.agg #[.int .i64 y.k, .int .u64 y.b]),
  .st (fun v w => ∃ g, v = .slice (some ⟨g, 0, none⟩) 2 2 ∧ Bk w g 24 #[.int .i64 x.k, .int .u64 x.b, .int .i64 y.k, .int .u64 y.b]) (fun _ _ _ hb ⟨g, h1, h2⟩ => ⟨g, h1, h2.old hb⟩),
  .is (.agg #[.int .i64 0, .int .u64 0]),
  .st (fun v w => ∃ g, v = .pointer (some ⟨g, 0, none⟩) ∧ Bq ≤ g ∧ Bk w g 24 #[.int .i64 0, .int .u64 0]) (fun _ _ _ hb ⟨g, h1, h0, h2⟩ => ⟨g, h1, h0, h2.old hb⟩),
  .st (fun v w => ∃ g, v = .pointer (some ⟨g, 0, none⟩) ∧ Bq ≤ g ∧ Bk w g 24 #[.int .i64 0, .int .u64 0]) (fun _ _ _ hb ⟨g, h1, h0, h2⟩ => ⟨g, h1, h0, h2.old hb⟩),
  .st (fun v w => ∃ g, v = .pointer (some ⟨g, 0, none⟩) ∧ Bq ≤ g ∧ Bk w g 24 #[.int .i64 0, .int .u64 0]) (fun _ _ _ hb ⟨g, h1, h0, h2⟩ => ⟨g, h1, h0, h2.old hb⟩)]
set_option maxRecDepth 100000 in
set_option maxHeartbeats 8000000 in
theorem walk_no (x y : V) (E : V) (hx : x.fits) (hy : y.fits) (e9 : applyV 9 [x, y] = none0) (e7 : applyV 7 [x, y] = E) (e11 : applyV 11 [x, y] = none0) (hE : E.fits) (w : World) :
    Calls Try.prog 11 #[x.v, y.v] w fun e w' => e = .returned (.bool true) ∧ Below w.heap.size w w' := by
  unfold V.v
  have He9 := Lib.hid e9; have He7 := Lib.hid e7; have He11 := Lib.hid e11
  clear e9 e7 e11
  go_enter Try.func11, Try.ntmps11
  go_wp2_with fail
  refine (awake_any _).mono ?_
  rintro e w1 ⟨rfl, hb1⟩
  have k2 : Bk ((w.alloc (.cells #[.int .i64 x.k, .int .u64 x.b] 24)).alloc (.cells #[.int .i64 y.k, .int .u64 y.b] 24)) w.heap.size 24 #[.int .i64 x.k, .int .u64 x.b] := (Bk.new w _ _).alloc _
  have k3 : Bk ((w.alloc (.cells #[.int .i64 x.k, .int .u64 x.b] 24)).alloc (.cells #[.int .i64 y.k, .int .u64 y.b] 24)) (w.heap.size + 1) 24 #[.int .i64 y.k, .int .u64 y.b] := Bk.newAt (by simp) _ _
  have hbW : Below w.heap.size w ((w.alloc (.cells #[.int .i64 x.k, .int .u64 x.b] 24)).alloc (.cells #[.int .i64 y.k, .int .u64 y.b] 24)) := ((Below.refl _ _).alloc (by simp) _).alloc (by simp) _
  have k2 := k2.old hb1
  have k3 := k3.old hb1
  have hbW := hbW.trans (hb1.mono hbW.size)
  have hz : w.heap.size + 1 < w1.heap.size := k3.lt
  clear hb1
  go_wp2_with fail
  refine wp_abs (fun W => W = w1) rfl ?_
  intro W hW
  subst hW
  have ⟨c20, c21, _, _⟩ := vcells k2
  have ⟨c30, c31, _, _⟩ := vcells k3
  have e9 := He9.out; have e7 := He7.out; have e11 := He11.out
  refine wp_region_t 15 (fun k => k == 12 || k == 13 || k == 14) (by kernel_rfl) (fun k => (cmpR3_no x y E w W.heap.size).getD k .any) (by kernel_rfl) ?_ ?_
  · refine BOk.cons rfl [] [2] rfl rfl (by kernel_rfl) (by kernel_rfl) (fun qK qa wr hB qO qF hK => ?_) ?_
    · have e2 : qa.tmps[2]? = some (.pointer (some ⟨w.heap.size, 0, none⟩)) := qO.1.trans rfl
      clear qO qF
      have hc20 := (bcell hB _ _ (World.block_lt_of_cell? _ _ c20)).trans c20
      have hc21 := (bcell hB _ _ (World.block_lt_of_cell? _ _ c21)).trans c21
      go_simp
      exact hK _ _ (Below.refl _ _) rfl
    refine BOk.cons rfl [] [3] rfl rfl (by kernel_rfl) (by kernel_rfl) (fun qK qa wr hB qO qF hK => ?_) ?_
    · have e3 : qa.tmps[3]? = some (.pointer (some ⟨w.heap.size + 1, 0, none⟩)) := qO.1.trans rfl
      clear qO qF
      have hc30 := (bcell hB _ _ (World.block_lt_of_cell? _ _ c30)).trans c30
      have hc31 := (bcell hB _ _ (World.block_lt_of_cell? _ _ c31)).trans c31
      go_simp
      exact hK _ _ (Below.refl _ _) rfl
    refine BOk.cons rfl [0, 1] [] rfl rfl (by kernel_rfl) (by kernel_rfl) (fun qK qa wr hB qO qF hK => ?_) ?_
    · obtain ⟨u12, e12, r0⟩ := qF.1
      have e12 : qa.tmps[12]? = some (.agg #[.int .i64 x.k, .int .u64 x.b]) := (show u12 = .agg #[.int .i64 x.k, .int .u64 x.b] from r0) ▸ e12
      clear r0
      obtain ⟨u13, e13, r1⟩ := qF.2.1
      have e13 : qa.tmps[13]? = some (.agg #[.int .i64 y.k, .int .u64 y.b]) := (show u13 = .agg #[.int .i64 y.k, .int .u64 y.b] from r1) ▸ e13
      clear r1
      clear qO qF
      go_simp
      exact hK _ _ ((Below.refl _ _).alloc (Nat.le_refl _) _) ⟨_, rfl, Bk.new _ _ _⟩
    refine BOk.cons rfl [2] [] rfl rfl (by kernel_rfl) (by kernel_rfl) (fun qK qa wr hB qO qF hK => ?_) ?_
    · obtain ⟨u14, e14, r2⟩ := qF.1
      obtain ⟨g14, h14, k14⟩ := (show ∃ g, u14 = .slice (some ⟨g, 0, none⟩) 2 2 ∧ Bk wr g 24 #[.int .i64 x.k, .int .u64 x.b, .int .i64 y.k, .int .u64 y.b] from r2)
      subst h14
      have e14 : qa.tmps[14]? = some (.slice (some ⟨g14, 0, none⟩) 2 2) := e14
      clear qO qF
      go_simp
      go_at_call 23
      refine (do_bk 9 [x, y] _ _ k14 rfl (by intro q hq; simp only [List.mem_cons, List.not_mem_nil, or_false] at hq; rcases hq with rfl | rfl; exact hx; exact hy) (by simp)).mono ?_
      rintro e w2 ⟨rfl, hb2⟩
      rw [e9]
      exact hK _ _ hb2 rfl
    refine BOk.cons rfl [] [2] rfl rfl (by kernel_rfl) (by kernel_rfl) (fun qK qa wr hB qO qF hK => ?_) ?_
    · have e2 : qa.tmps[2]? = some (.pointer (some ⟨w.heap.size, 0, none⟩)) := qO.1.trans rfl
      clear qO qF
      have hc20 := (bcell hB _ _ (World.block_lt_of_cell? _ _ c20)).trans c20
      have hc21 := (bcell hB _ _ (World.block_lt_of_cell? _ _ c21)).trans c21
      go_simp
      exact hK _ _ (Below.refl _ _) rfl
    refine BOk.cons rfl [] [3] rfl rfl (by kernel_rfl) (by kernel_rfl) (fun qK qa wr hB qO qF hK => ?_) ?_
    · have e3 : qa.tmps[3]? = some (.pointer (some ⟨w.heap.size + 1, 0, none⟩)) := qO.1.trans rfl
      clear qO qF
      have hc30 := (bcell hB _ _ (World.block_lt_of_cell? _ _ c30)).trans c30
      have hc31 := (bcell hB _ _ (World.block_lt_of_cell? _ _ c31)).trans c31
      go_simp
      exact hK _ _ (Below.refl _ _) rfl
    refine BOk.cons rfl [4, 5] [] rfl rfl (by kernel_rfl) (by kernel_rfl) (fun qK qa wr hB qO qF hK => ?_) ?_
    · obtain ⟨u16, e16, r4⟩ := qF.1
      have e16 : qa.tmps[16]? = some (.agg #[.int .i64 x.k, .int .u64 x.b]) := (show u16 = .agg #[.int .i64 x.k, .int .u64 x.b] from r4) ▸ e16
      clear r4
      obtain ⟨u17, e17, r5⟩ := qF.2.1
      have e17 : qa.tmps[17]? = some (.agg #[.int .i64 y.k, .int .u64 y.b]) := (show u17 = .agg #[.int .i64 y.k, .int .u64 y.b] from r5) ▸ e17
      clear r5
      clear qO qF
      go_simp
      exact hK _ _ ((Below.refl _ _).alloc (Nat.le_refl _) _) ⟨_, rfl, Bk.new _ _ _⟩
    refine BOk.cons rfl [6] [] rfl rfl (by kernel_rfl) (by kernel_rfl) (fun qK qa wr hB qO qF hK => ?_) ?_
    · obtain ⟨u18, e18, r6⟩ := qF.1
      obtain ⟨g18, h18, k18⟩ := (show ∃ g, u18 = .slice (some ⟨g, 0, none⟩) 2 2 ∧ Bk wr g 24 #[.int .i64 x.k, .int .u64 x.b, .int .i64 y.k, .int .u64 y.b] from r6)
      subst h18
      have e18 : qa.tmps[18]? = some (.slice (some ⟨g18, 0, none⟩) 2 2) := e18
      clear qO qF
      go_simp
      go_at_call 23
      refine (do_bk 7 [x, y] _ _ k18 rfl (by intro q hq; simp only [List.mem_cons, List.not_mem_nil, or_false] at hq; rcases hq with rfl | rfl; exact hx; exact hy) (by simp)).mono ?_
      rintro e w2 ⟨rfl, hb2⟩
      rw [e7]
      exact hK _ _ hb2 rfl
    refine BOk.cons rfl [] [2] rfl rfl (by kernel_rfl) (by kernel_rfl) (fun qK qa wr hB qO qF hK => ?_) ?_
    · have e2 : qa.tmps[2]? = some (.pointer (some ⟨w.heap.size, 0, none⟩)) := qO.1.trans rfl
      clear qO qF
      have hc20 := (bcell hB _ _ (World.block_lt_of_cell? _ _ c20)).trans c20
      have hc21 := (bcell hB _ _ (World.block_lt_of_cell? _ _ c21)).trans c21
      go_simp
      exact hK _ _ (Below.refl _ _) rfl
    refine BOk.cons rfl [] [3] rfl rfl (by kernel_rfl) (by kernel_rfl) (fun qK qa wr hB qO qF hK => ?_) ?_
    · have e3 : qa.tmps[3]? = some (.pointer (some ⟨w.heap.size + 1, 0, none⟩)) := qO.1.trans rfl
      clear qO qF
      have hc30 := (bcell hB _ _ (World.block_lt_of_cell? _ _ c30)).trans c30
      have hc31 := (bcell hB _ _ (World.block_lt_of_cell? _ _ c31)).trans c31
      go_simp
      exact hK _ _ (Below.refl _ _) rfl
    refine BOk.cons rfl [8, 9] [] rfl rfl (by kernel_rfl) (by kernel_rfl) (fun qK qa wr hB qO qF hK => ?_) ?_
    · obtain ⟨u20, e20, r8⟩ := qF.1
      have e20 : qa.tmps[20]? = some (.agg #[.int .i64 x.k, .int .u64 x.b]) := (show u20 = .agg #[.int .i64 x.k, .int .u64 x.b] from r8) ▸ e20
      clear r8
      obtain ⟨u21, e21, r9⟩ := qF.2.1
      have e21 : qa.tmps[21]? = some (.agg #[.int .i64 y.k, .int .u64 y.b]) := (show u21 = .agg #[.int .i64 y.k, .int .u64 y.b] from r9) ▸ e21
      clear r9
      clear qO qF
      go_simp
      exact hK _ _ ((Below.refl _ _).alloc (Nat.le_refl _) _) ⟨_, rfl, Bk.new _ _ _⟩
    refine BOk.cons rfl [10] [] rfl rfl (by kernel_rfl) (by kernel_rfl) (fun qK qa wr hB qO qF hK => ?_) ?_
    · obtain ⟨u22, e22, r10⟩ := qF.1
      obtain ⟨g22, h22, k22⟩ := (show ∃ g, u22 = .slice (some ⟨g, 0, none⟩) 2 2 ∧ Bk wr g 24 #[.int .i64 x.k, .int .u64 x.b, .int .i64 y.k, .int .u64 y.b] from r10)
      subst h22
      have e22 : qa.tmps[22]? = some (.slice (some ⟨g22, 0, none⟩) 2 2) := e22
      clear qO qF
      go_simp
      go_at_call 23
      refine (do_bk 11 [x, y] _ _ k22 rfl (by intro q hq; simp only [List.mem_cons, List.not_mem_nil, or_false] at hq; rcases hq with rfl | rfl; exact hx; exact hy) (by simp)).mono ?_
      rintro e w2 ⟨rfl, hb2⟩
      rw [e11]
      exact hK _ _ hb2 rfl
    refine BOk.fresh rfl [] [] rfl rfl (by kernel_rfl) (by kernel_rfl) (fun qK qa wr hB qO qF hK => ?_) ?_
    · clear qO qF
      go_simp
      exact hK _ _ ((Below.refl _ _).alloc (Nat.le_refl _) _) ⟨_, rfl, hB.size, Bk.new _ _ _⟩ ⟨_, rfl, by simp, by simp⟩
    refine BOk.fresh rfl [] [] rfl rfl (by kernel_rfl) (by kernel_rfl) (fun qK qa wr hB qO qF hK => ?_) ?_
    · clear qO qF
      go_simp
      exact hK _ _ ((Below.refl _ _).alloc (Nat.le_refl _) _) ⟨_, rfl, hB.size, Bk.new _ _ _⟩ ⟨_, rfl, by simp, by simp⟩
    refine BOk.fresh rfl [] [] rfl rfl (by kernel_rfl) (by kernel_rfl) (fun qK qa wr hB qO qF hK => ?_) ?_
    · clear qO qF
      go_simp
      exact hK _ _ ((Below.refl _ _).alloc (Nat.le_refl _) _) ⟨_, rfl, hB.size, Bk.new _ _ _⟩ ⟨_, rfl, by simp, by simp⟩
    exact BOk.nil
  intro vals wr hl hB hR hS
  match vals, hl with
  | [z12, z13, z14, z15, z16, z17, z18, z19, z20, z21, z22, z23, z5, z6, z7], _ =>
  have r3 : z15 = .agg #[.int .i64 0, .int .u64 0] := hR 3 _ rfl
  subst r3
  have r7 : z19 = .agg #[.int .i64 E.k, .int .u64 E.b] := hR 7 _ rfl
  subst r7
  have r11 : z23 = .agg #[.int .i64 0, .int .u64 0] := hR 11 _ rfl
  subst r11
  obtain ⟨g5, r12, n5, k5⟩ := (show ∃ g, z5 = .pointer (some ⟨g, 0, none⟩) ∧ W.heap.size ≤ g ∧ Bk wr g 24 #[.int .i64 0, .int .u64 0] from hR 12 _ rfl)
  subst r12
  obtain ⟨g6, r13, n6, k6⟩ := (show ∃ g, z6 = .pointer (some ⟨g, 0, none⟩) ∧ W.heap.size ≤ g ∧ Bk wr g 24 #[.int .i64 0, .int .u64 0] from hR 13 _ rfl)
  subst r13
  obtain ⟨g7, r14, n7, k7⟩ := (show ∃ g, z7 = .pointer (some ⟨g, 0, none⟩) ∧ W.heap.size ≤ g ∧ Bk wr g 24 #[.int .i64 0, .int .u64 0] from hR 14 _ rfl)
  subst r14
  have d5_6 : g5 ≠ g6 := fun e => hS 12 13 _ _ (by decide) rfl rfl rfl rfl (by rw [e])
  have d5_7 : g5 ≠ g7 := fun e => hS 12 14 _ _ (by decide) rfl rfl rfl rfl (by rw [e])
  have d6_7 : g6 ≠ g7 := fun e => hS 13 14 _ _ (by decide) rfl rfl rfl rfl (by rw [e])
  clear hS
  clear hR
  simp only [List.take_succ_cons, List.take_zero, List.drop_succ_cons, List.drop_zero, List.toList_toArray, List.cons_append, List.nil_append, putAll, Act.put, List.setIfInBounds_toArray, List.set_cons_zero, List.set_cons_succ]
  clear e9 e7 e11 c20 c21 c30 c31
  have k2 := k2.old hB
  have k3 := k3.old hB
  have hbW := hbW.trans (hB.mono hbW.size)
  have ⟨_, _, f50, f51⟩ := vcells k5
  have ⟨_, _, _, _⟩ := vcells k5
  have ⟨_, _, f60, f61⟩ := vcells k6
  have ⟨_, _, _, _⟩ := vcells k6
  have ⟨_, _, f70, f71⟩ := vcells k7
  have ⟨_, _, _, _⟩ := vcells k7
  have ⟨z50, z51, _, _⟩ := vcells k5
  have ⟨z60, z61, _, _⟩ := vcells k6
  have ⟨z70, z71, _, _⟩ := vcells k7
  refine wpList_plain rfl (fun _ hK => ?_)
  go_simp
  refine hK _ _ ?_
  clear hK
  refine wpList_plain rfl (fun _ hK => ?_)
  go_simp
  refine hK _ _ ?_
  clear hK
  refine wpList_plain rfl (fun _ hK => ?_)
  go_simp
  refine hK _ _ ?_
  clear hK
  refine wpList_nil ?_
  have j5 : Bk (((((((wr).setCell ⟨g5, 0, none⟩ (.int .i64 0)).setCell ⟨g5, 1, none⟩ (.int .u64 0)).setCell ⟨g6, 0, none⟩ (.int .i64 E.k)).setCell ⟨g6, 1, none⟩ (.int .u64 E.b)).setCell ⟨g7, 0, none⟩ (.int .i64 0)).setCell ⟨g7, 1, none⟩ (.int .u64 0)) g5 24 #[.int .i64 0, .int .u64 0] := (((((vput k5 _ _).far d5_6 _).far d5_6 _).far d5_7 _).far d5_7 _)
  have j6 : Bk (((((((wr).setCell ⟨g5, 0, none⟩ (.int .i64 0)).setCell ⟨g5, 1, none⟩ (.int .u64 0)).setCell ⟨g6, 0, none⟩ (.int .i64 E.k)).setCell ⟨g6, 1, none⟩ (.int .u64 E.b)).setCell ⟨g7, 0, none⟩ (.int .i64 0)).setCell ⟨g7, 1, none⟩ (.int .u64 0)) g6 24 #[.int .i64 E.k, .int .u64 E.b] := (((vput ((k6.far (Ne.symm d5_6) _).far (Ne.symm d5_6) _) _ _).far d6_7 _).far d6_7 _)
  have j7 : Bk (((((((wr).setCell ⟨g5, 0, none⟩ (.int .i64 0)).setCell ⟨g5, 1, none⟩ (.int .u64 0)).setCell ⟨g6, 0, none⟩ (.int .i64 E.k)).setCell ⟨g6, 1, none⟩ (.int .u64 E.b)).setCell ⟨g7, 0, none⟩ (.int .i64 0)).setCell ⟨g7, 1, none⟩ (.int .u64 0)) g7 24 #[.int .i64 0, .int .u64 0] := (vput ((((k7.far (Ne.symm d5_7) _).far (Ne.symm d5_7) _).far (Ne.symm d6_7) _).far (Ne.symm d6_7) _) _ _)
  have j2 : Bk (((((((wr).setCell ⟨g5, 0, none⟩ (.int .i64 0)).setCell ⟨g5, 1, none⟩ (.int .u64 0)).setCell ⟨g6, 0, none⟩ (.int .i64 E.k)).setCell ⟨g6, 1, none⟩ (.int .u64 E.b)).setCell ⟨g7, 0, none⟩ (.int .i64 0)).setCell ⟨g7, 1, none⟩ (.int .u64 0)) w.heap.size 24 #[.int .i64 x.k, .int .u64 x.b] := ((((((k2.far (by simp; omega) _).far (by simp; omega) _).far (by simp; omega) _).far (by simp; omega) _).far (by simp; omega) _).far (by simp; omega) _)
  have j3 : Bk (((((((wr).setCell ⟨g5, 0, none⟩ (.int .i64 0)).setCell ⟨g5, 1, none⟩ (.int .u64 0)).setCell ⟨g6, 0, none⟩ (.int .i64 E.k)).setCell ⟨g6, 1, none⟩ (.int .u64 E.b)).setCell ⟨g7, 0, none⟩ (.int .i64 0)).setCell ⟨g7, 1, none⟩ (.int .u64 0)) (w.heap.size + 1) 24 #[.int .i64 y.k, .int .u64 y.b] := ((((((k3.far (by simp; omega) _).far (by simp; omega) _).far (by simp; omega) _).far (by simp; omega) _).far (by simp; omega) _).far (by simp; omega) _)
  have hbW : Below w.heap.size w (((((((wr).setCell ⟨g5, 0, none⟩ (.int .i64 0)).setCell ⟨g5, 1, none⟩ (.int .u64 0)).setCell ⟨g6, 0, none⟩ (.int .i64 E.k)).setCell ⟨g6, 1, none⟩ (.int .u64 E.b)).setCell ⟨g7, 0, none⟩ (.int .i64 0)).setCell ⟨g7, 1, none⟩ (.int .u64 0)) := by repeat (first | exact hbW | refine Below.setCell ?_ (by simp; omega) _)
  clear z50 z51 z60 z61 z70 z71 f50 f51 f60 f61 f70 f71 k2 k3 k5 k6 k7 hB
  clear n5 n6 n7 hz
  generalize ((((((wr).setCell ⟨g5, 0, none⟩ (.int .i64 0)).setCell ⟨g5, 1, none⟩ (.int .u64 0)).setCell ⟨g6, 0, none⟩ (.int .i64 E.k)).setCell ⟨g6, 1, none⟩ (.int .u64 E.b)).setCell ⟨g7, 0, none⟩ (.int .i64 0)).setCell ⟨g7, 1, none⟩ (.int .u64 0) = W2 at *
  have ⟨c50, c51, _, _⟩ := vcells j5
  have ⟨c60, c61, _, _⟩ := vcells j6
  have ⟨c70, c71, _, _⟩ := vcells j7
  have ⟨c20, c21, _, _⟩ := vcells j2
  have ⟨c30, c31, _, _⟩ := vcells j3
  go_wp2_with fail
  all_goals go_ret
  all_goals exact ⟨rfl, hbW⟩

end Go.Proofs.Ytlejjchaooeabaa.valueCompares
