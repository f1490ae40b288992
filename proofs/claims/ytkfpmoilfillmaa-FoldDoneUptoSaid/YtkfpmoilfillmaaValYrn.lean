/- Cases of the walk of the document's compare. No conditions. -/
import Derived.Test.YtkfpmoilfillmaaValY0
import Derived.Deep.DeepCutAuto
namespace Go.Proofs.Ytkfpmoilfillmaa
open Go.RowKit
set_option linter.unusedSimpArgs false
set_option linter.unusedVariables false

def cmpR1rn (x y : V) (w : World) (od : Int) : List Spec := [.is (.agg #[.int .i64 x.k, .int .u64 x.b]),
  .is (.agg #[.int .i64 y.k, .int .u64 y.b]),
  .is (.int .i64 od),
  .is (.bool true),
  .is (.agg #[.int .i64 x.k, .int .u64 x.b]),
  .is (.agg #[.int .i64 y.k, .int .u64 y.b]),
  .is (.bool (eqV x y)),
  .is (.bool true),
  .is (.bool (eqV x y))]
def cmpR4rn (x y : V) (w : World) (l e m : Bool) : List Spec := [.is (.pointer (some ⟨w.heap.size, 1, none⟩)),
  .is (.int .u64 x.b),
  .is (.pointer (some ⟨w.heap.size + 1, 1, none⟩)),
  .is (.int .u64 y.b),
  .is (.bool l),
  .is (.pointer (some ⟨w.heap.size, 1, none⟩)),
  .is (.int .u64 x.b),
  .is (.pointer (some ⟨w.heap.size + 1, 1, none⟩)),
  .is (.int .u64 y.b),
  .is (.bool e),
  .is (.pointer (some ⟨w.heap.size + 1, 1, none⟩)),
  .is (.int .u64 y.b),
  .is (.pointer (some ⟨w.heap.size, 1, none⟩)),
  .is (.int .u64 x.b),
  .is (.bool m),
  .is (.bool l),
  .is (.bool e),
  .is (.bool m)]
set_option maxRecDepth 100000 in
set_option maxHeartbeats 2000000 in
theorem rcmp_rn_7 (x y : V) (od : Int) (HO : Hid (∀ w : World, Calls Try.prog 39 #[.agg #[.int .i64 x.k, .int .u64 x.b], .agg #[.int .i64 y.k, .int .u64 y.b]] w fun e w' => e = .returned (.int .i64 od) ∧ Below w.heap.size w w')) (ho : od < 0) (l e m : Bool) (h4 : (x.k == 4) = true) (HL : Hid (∀ w : World, Calls Try.prog 40 #[.int .u64 x.b, .int .u64 y.b] w fun r w' => r = .returned (.bool l) ∧ w = w')) (HE : Hid (∀ w : World, Calls Try.prog 41 #[.int .u64 x.b, .int .u64 y.b] w fun r w' => r = .returned (.bool e) ∧ w = w')) (HM : Hid (∀ w : World, Calls Try.prog 40 #[.int .u64 y.b, .int .u64 x.b] w fun r w' => r = .returned (.bool m) ∧ w = w')) (w : World) : Calls Try.prog 30 #[.int .i64 7, .agg #[.int .i64 x.k, .int .u64 x.b], .agg #[.int .i64 y.k, .int .u64 y.b]] w fun z w' => z = .returned (yesV (holdsB 7 l e m)).v ∧ Below w.heap.size w w' := by
  generalize hR : yesV (holdsB 7 l e m) = R
  have HR := Lib.hid hR
  clear hR
  go_enter Try.func30, Try.ntmps30
  go_wp2_with fail
  have k4 : Bk (((w.alloc (.cells #[.int .i64 x.k, .int .u64 x.b] 33)).alloc (.cells #[.int .i64 y.k, .int .u64 y.b] 33)).alloc (.cells #[.int .i64 0, .int .u64 0] 33)) w.heap.size 33 #[.int .i64 x.k, .int .u64 x.b] := ((Bk.new w _ _).alloc _).alloc _
  have k5 : Bk (((w.alloc (.cells #[.int .i64 x.k, .int .u64 x.b] 33)).alloc (.cells #[.int .i64 y.k, .int .u64 y.b] 33)).alloc (.cells #[.int .i64 0, .int .u64 0] 33)) (w.heap.size + 1) 33 #[.int .i64 y.k, .int .u64 y.b] := (Bk.newAt (by simp) _ _).alloc _
  have k6 : Bk (((w.alloc (.cells #[.int .i64 x.k, .int .u64 x.b] 33)).alloc (.cells #[.int .i64 y.k, .int .u64 y.b] 33)).alloc (.cells #[.int .i64 0, .int .u64 0] 33)) (w.heap.size + 1 + 1) 33 #[.int .i64 0, .int .u64 0] := Bk.newAt (by simp) _ _
  have hbW : Below w.heap.size w (((w.alloc (.cells #[.int .i64 x.k, .int .u64 x.b] 33)).alloc (.cells #[.int .i64 y.k, .int .u64 y.b] 33)).alloc (.cells #[.int .i64 0, .int .u64 0] 33)) := (((Below.refl _ _).alloc (by simp) _).alloc (by simp) _).alloc (by simp; omega) _
  generalize ((w.alloc (.cells #[.int .i64 x.k, .int .u64 x.b] 33)).alloc (.cells #[.int .i64 y.k, .int .u64 y.b] 33)).alloc (.cells #[.int .i64 0, .int .u64 0] 33) = W at *
  have ⟨c40, c41, _, _⟩ := vcells k4
  have ⟨c50, c51, _, _⟩ := vcells k5
  refine wp_region_b (by kernel_rfl) (fun k => (cmpR1rn x y w od).getD k .any) (by kernel_rfl) ?_ ?_
  · refine BOk.cons rfl [] [4] rfl rfl (by kernel_rfl) (by kernel_rfl) (fun qK qa wr hB qO qF hK => ?_) ?_
    · have e4 : qa.tmps[4]? = some (.pointer (some ⟨w.heap.size, 0, none⟩)) := qO.1.trans rfl
      clear qO qF
      have hc40 := (bcell hB _ _ (World.block_lt_of_cell? _ _ c40)).trans c40
      have hc41 := (bcell hB _ _ (World.block_lt_of_cell? _ _ c41)).trans c41
      go_simp
      exact hK _ _ (Below.refl _ _) rfl
    refine BOk.cons rfl [] [5] rfl rfl (by kernel_rfl) (by kernel_rfl) (fun qK qa wr hB qO qF hK => ?_) ?_
    · have e5 : qa.tmps[5]? = some (.pointer (some ⟨w.heap.size + 1, 0, none⟩)) := qO.1.trans rfl
      clear qO qF
      have hc50 := (bcell hB _ _ (World.block_lt_of_cell? _ _ c50)).trans c50
      have hc51 := (bcell hB _ _ (World.block_lt_of_cell? _ _ c51)).trans c51
      go_simp
      exact hK _ _ (Below.refl _ _) rfl
    refine BOk.cons rfl [0, 1] [] rfl rfl (by kernel_rfl) (by kernel_rfl) (fun qK qa wr hB qO qF hK => ?_) ?_
    · obtain ⟨u10, e10, r0⟩ := qF.1
      have e10 : qa.tmps[10]? = some (.agg #[.int .i64 x.k, .int .u64 x.b]) := (show u10 = .agg #[.int .i64 x.k, .int .u64 x.b] from r0) ▸ e10
      clear r0
      obtain ⟨u11, e11, r1⟩ := qF.2.1
      have e11 : qa.tmps[11]? = some (.agg #[.int .i64 y.k, .int .u64 y.b]) := (show u11 = .agg #[.int .i64 y.k, .int .u64 y.b] from r1) ▸ e11
      clear r1
      clear qO qF
      go_simp
      go_at_call 39
      refine (HO.out _).mono ?_
      rintro e w2 ⟨rfl, hb2⟩
      exact hK _ _ hb2 rfl
    refine BOk.cons rfl [2] [] rfl rfl (by kernel_rfl) (by kernel_rfl) (fun qK qa wr hB qO qF hK => ?_) ?_
    · obtain ⟨u12, e12, r2⟩ := qF.1
      have e12 : qa.tmps[12]? = some (.int .i64 od) := (show u12 = .int .i64 od from r2) ▸ e12
      clear r2
      clear qO qF
      go_simp
      refine hK _ _ (Below.refl _ _) ?_
      show (_ : Value) = _
      first | rfl | (simp; done) | (simp; omega)
    refine BOk.cons rfl [] [4] rfl rfl (by kernel_rfl) (by kernel_rfl) (fun qK qa wr hB qO qF hK => ?_) ?_
    · have e4 : qa.tmps[4]? = some (.pointer (some ⟨w.heap.size, 0, none⟩)) := qO.1.trans rfl
      clear qO qF
      have hc40 := (bcell hB _ _ (World.block_lt_of_cell? _ _ c40)).trans c40
      have hc41 := (bcell hB _ _ (World.block_lt_of_cell? _ _ c41)).trans c41
      go_simp
      exact hK _ _ (Below.refl _ _) rfl
    refine BOk.cons rfl [] [5] rfl rfl (by kernel_rfl) (by kernel_rfl) (fun qK qa wr hB qO qF hK => ?_) ?_
    · have e5 : qa.tmps[5]? = some (.pointer (some ⟨w.heap.size + 1, 0, none⟩)) := qO.1.trans rfl
      clear qO qF
      have hc50 := (bcell hB _ _ (World.block_lt_of_cell? _ _ c50)).trans c50
      have hc51 := (bcell hB _ _ (World.block_lt_of_cell? _ _ c51)).trans c51
      go_simp
      exact hK _ _ (Below.refl _ _) rfl
    refine BOk.cons rfl [4, 5] [] rfl rfl (by kernel_rfl) (by kernel_rfl) (fun qK qa wr hB qO qF hK => ?_) ?_
    · obtain ⟨u14, e14, r4⟩ := qF.1
      have e14 : qa.tmps[14]? = some (.agg #[.int .i64 x.k, .int .u64 x.b]) := (show u14 = .agg #[.int .i64 x.k, .int .u64 x.b] from r4) ▸ e14
      clear r4
      obtain ⟨u15, e15, r5⟩ := qF.2.1
      have e15 : qa.tmps[15]? = some (.agg #[.int .i64 y.k, .int .u64 y.b]) := (show u15 = .agg #[.int .i64 y.k, .int .u64 y.b] from r5) ▸ e15
      clear r5
      clear qO qF
      go_simp
      repeat' split
      all_goals (refine hK _ _ (Below.refl _ _) ?_; show (_ : Value) = _; simp_all [eqV] <;> omega)
    refine BOk.cons rfl [3] [] rfl rfl (by kernel_rfl) (by kernel_rfl) (fun qK qa wr hB qO qF hK => ?_) ?_
    · obtain ⟨u13, e13, r3⟩ := qF.1
      have e13 : qa.tmps[13]? = some (.bool true) := (show u13 = .bool true from r3) ▸ e13
      clear r3
      clear qO qF
      go_simp
      exact hK _ _ (Below.refl _ _) rfl
    refine BOk.cons rfl [6] [] rfl rfl (by kernel_rfl) (by kernel_rfl) (fun qK qa wr hB qO qF hK => ?_) ?_
    · obtain ⟨u16, e16, r6⟩ := qF.1
      have e16 : qa.tmps[16]? = some (.bool (eqV x y)) := (show u16 = .bool (eqV x y) from r6) ▸ e16
      clear r6
      clear qO qF
      go_simp
      exact hK _ _ (Below.refl _ _) rfl
    exact BOk.nil
  intro vals wr hl hB hR
  match vals, hl with
  | [za10, za11, za12, za13, za14, za15, za16, za7, za8], _ =>
  have r7 : za7 = .bool true := hR 7 _ rfl
  subst r7
  have r8 : za8 = .bool (eqV x y) := hR 8 _ rfl
  subst r8
  clear hR
  simp only [List.cons_append, List.nil_append, putAll, Act.put, List.setIfInBounds_toArray, List.set_cons_zero, List.set_cons_succ]
  have k4 := k4.old hB
  have k5 := k5.old hB
  have k6 := k6.old hB
  have hbW := hbW.trans (hB.mono hbW.size)
  clear hB c40 c41 c50 c51
  have ⟨c40, c41, _, _⟩ := vcells k4
  have ⟨c50, c51, _, _⟩ := vcells k5
  go_wp2_with fail
  refine wp_region_b (by kernel_rfl) (fun k => (cmpR4rn x y w l e m).getD k .any) (by kernel_rfl) ?_ ?_
  · refine BOk.cons rfl [] [4] rfl rfl (by kernel_rfl) (by kernel_rfl) (fun qK qa wr hB qO qF hK => ?_) ?_
    · have e4 : qa.tmps[4]? = some (.pointer (some ⟨w.heap.size, 0, none⟩)) := qO.1.trans rfl
      clear qO qF
      go_simp
      exact hK _ _ (Below.refl _ _) rfl
    refine BOk.cons rfl [0] [] rfl rfl (by kernel_rfl) (by kernel_rfl) (fun qK qa wr hB qO qF hK => ?_) ?_
    · obtain ⟨u26, e26, r0⟩ := qF.1
      have e26 : qa.tmps[26]? = some (.pointer (some ⟨w.heap.size, 1, none⟩)) := (show u26 = .pointer (some ⟨w.heap.size, 1, none⟩) from r0) ▸ e26
      clear r0
      clear qO qF
      have hc41 := (bcell hB _ _ (World.block_lt_of_cell? _ _ c41)).trans c41
      go_simp
      exact hK _ _ (Below.refl _ _) rfl
    refine BOk.cons rfl [] [5] rfl rfl (by kernel_rfl) (by kernel_rfl) (fun qK qa wr hB qO qF hK => ?_) ?_
    · have e5 : qa.tmps[5]? = some (.pointer (some ⟨w.heap.size + 1, 0, none⟩)) := qO.1.trans rfl
      clear qO qF
      go_simp
      exact hK _ _ (Below.refl _ _) rfl
    refine BOk.cons rfl [2] [] rfl rfl (by kernel_rfl) (by kernel_rfl) (fun qK qa wr hB qO qF hK => ?_) ?_
    · obtain ⟨u28, e28, r2⟩ := qF.1
      have e28 : qa.tmps[28]? = some (.pointer (some ⟨w.heap.size + 1, 1, none⟩)) := (show u28 = .pointer (some ⟨w.heap.size + 1, 1, none⟩) from r2) ▸ e28
      clear r2
      clear qO qF
      have hc51 := (bcell hB _ _ (World.block_lt_of_cell? _ _ c51)).trans c51
      go_simp
      exact hK _ _ (Below.refl _ _) rfl
    refine BOk.cons rfl [1, 3] [] rfl rfl (by kernel_rfl) (by kernel_rfl) (fun qK qa wr hB qO qF hK => ?_) ?_
    · obtain ⟨u27, e27, r1⟩ := qF.1
      have e27 : qa.tmps[27]? = some (.int .u64 x.b) := (show u27 = .int .u64 x.b from r1) ▸ e27
      clear r1
      obtain ⟨u29, e29, r3⟩ := qF.2.1
      have e29 : qa.tmps[29]? = some (.int .u64 y.b) := (show u29 = .int .u64 y.b from r3) ▸ e29
      clear r3
      clear qO qF
      go_simp
      go_at_call 40
      refine (HL.out _).mono ?_
      rintro e w2 ⟨rfl, rfl⟩
      exact hK _ _ (Below.refl _ _) rfl
    refine BOk.cons rfl [] [4] rfl rfl (by kernel_rfl) (by kernel_rfl) (fun qK qa wr hB qO qF hK => ?_) ?_
    · have e4 : qa.tmps[4]? = some (.pointer (some ⟨w.heap.size, 0, none⟩)) := qO.1.trans rfl
      clear qO qF
      go_simp
      exact hK _ _ (Below.refl _ _) rfl
    refine BOk.cons rfl [5] [] rfl rfl (by kernel_rfl) (by kernel_rfl) (fun qK qa wr hB qO qF hK => ?_) ?_
    · obtain ⟨u31, e31, r5⟩ := qF.1
      have e31 : qa.tmps[31]? = some (.pointer (some ⟨w.heap.size, 1, none⟩)) := (show u31 = .pointer (some ⟨w.heap.size, 1, none⟩) from r5) ▸ e31
      clear r5
      clear qO qF
      have hc41 := (bcell hB _ _ (World.block_lt_of_cell? _ _ c41)).trans c41
      go_simp
      exact hK _ _ (Below.refl _ _) rfl
    refine BOk.cons rfl [] [5] rfl rfl (by kernel_rfl) (by kernel_rfl) (fun qK qa wr hB qO qF hK => ?_) ?_
    · have e5 : qa.tmps[5]? = some (.pointer (some ⟨w.heap.size + 1, 0, none⟩)) := qO.1.trans rfl
      clear qO qF
      go_simp
      exact hK _ _ (Below.refl _ _) rfl
    refine BOk.cons rfl [7] [] rfl rfl (by kernel_rfl) (by kernel_rfl) (fun qK qa wr hB qO qF hK => ?_) ?_
    · obtain ⟨u33, e33, r7⟩ := qF.1
      have e33 : qa.tmps[33]? = some (.pointer (some ⟨w.heap.size + 1, 1, none⟩)) := (show u33 = .pointer (some ⟨w.heap.size + 1, 1, none⟩) from r7) ▸ e33
      clear r7
      clear qO qF
      have hc51 := (bcell hB _ _ (World.block_lt_of_cell? _ _ c51)).trans c51
      go_simp
      exact hK _ _ (Below.refl _ _) rfl
    refine BOk.cons rfl [6, 8] [] rfl rfl (by kernel_rfl) (by kernel_rfl) (fun qK qa wr hB qO qF hK => ?_) ?_
    · obtain ⟨u32, e32, r6⟩ := qF.1
      have e32 : qa.tmps[32]? = some (.int .u64 x.b) := (show u32 = .int .u64 x.b from r6) ▸ e32
      clear r6
      obtain ⟨u34, e34, r8⟩ := qF.2.1
      have e34 : qa.tmps[34]? = some (.int .u64 y.b) := (show u34 = .int .u64 y.b from r8) ▸ e34
      clear r8
      clear qO qF
      go_simp
      go_at_call 41
      refine (HE.out _).mono ?_
      rintro e0 w2 ⟨rfl, rfl⟩
      exact hK _ _ (Below.refl _ _) rfl
    refine BOk.cons rfl [] [5] rfl rfl (by kernel_rfl) (by kernel_rfl) (fun qK qa wr hB qO qF hK => ?_) ?_
    · have e5 : qa.tmps[5]? = some (.pointer (some ⟨w.heap.size + 1, 0, none⟩)) := qO.1.trans rfl
      clear qO qF
      go_simp
      exact hK _ _ (Below.refl _ _) rfl
    refine BOk.cons rfl [10] [] rfl rfl (by kernel_rfl) (by kernel_rfl) (fun qK qa wr hB qO qF hK => ?_) ?_
    · obtain ⟨u36, e36, r10⟩ := qF.1
      have e36 : qa.tmps[36]? = some (.pointer (some ⟨w.heap.size + 1, 1, none⟩)) := (show u36 = .pointer (some ⟨w.heap.size + 1, 1, none⟩) from r10) ▸ e36
      clear r10
      clear qO qF
      have hc51 := (bcell hB _ _ (World.block_lt_of_cell? _ _ c51)).trans c51
      go_simp
      exact hK _ _ (Below.refl _ _) rfl
    refine BOk.cons rfl [] [4] rfl rfl (by kernel_rfl) (by kernel_rfl) (fun qK qa wr hB qO qF hK => ?_) ?_
    · have e4 : qa.tmps[4]? = some (.pointer (some ⟨w.heap.size, 0, none⟩)) := qO.1.trans rfl
      clear qO qF
      go_simp
      exact hK _ _ (Below.refl _ _) rfl
    refine BOk.cons rfl [12] [] rfl rfl (by kernel_rfl) (by kernel_rfl) (fun qK qa wr hB qO qF hK => ?_) ?_
    · obtain ⟨u38, e38, r12⟩ := qF.1
      have e38 : qa.tmps[38]? = some (.pointer (some ⟨w.heap.size, 1, none⟩)) := (show u38 = .pointer (some ⟨w.heap.size, 1, none⟩) from r12) ▸ e38
      clear r12
      clear qO qF
      have hc41 := (bcell hB _ _ (World.block_lt_of_cell? _ _ c41)).trans c41
      go_simp
      exact hK _ _ (Below.refl _ _) rfl
    refine BOk.cons rfl [11, 13] [] rfl rfl (by kernel_rfl) (by kernel_rfl) (fun qK qa wr hB qO qF hK => ?_) ?_
    · obtain ⟨u37, e37, r11⟩ := qF.1
      have e37 : qa.tmps[37]? = some (.int .u64 y.b) := (show u37 = .int .u64 y.b from r11) ▸ e37
      clear r11
      obtain ⟨u39, e39, r13⟩ := qF.2.1
      have e39 : qa.tmps[39]? = some (.int .u64 x.b) := (show u39 = .int .u64 x.b from r13) ▸ e39
      clear r13
      clear qO qF
      go_simp
      go_at_call 40
      refine (HM.out _).mono ?_
      rintro e w2 ⟨rfl, rfl⟩
      exact hK _ _ (Below.refl _ _) rfl
    refine BOk.cons rfl [4] [] rfl rfl (by kernel_rfl) (by kernel_rfl) (fun qK qa wr hB qO qF hK => ?_) ?_
    · obtain ⟨u30, e30, r4⟩ := qF.1
      have e30 : qa.tmps[30]? = some (.bool l) := (show u30 = .bool l from r4) ▸ e30
      clear r4
      clear qO qF
      go_simp
      exact hK _ _ (Below.refl _ _) rfl
    refine BOk.cons rfl [9] [] rfl rfl (by kernel_rfl) (by kernel_rfl) (fun qK qa wr hB qO qF hK => ?_) ?_
    · obtain ⟨u35, e35, r9⟩ := qF.1
      have e35 : qa.tmps[35]? = some (.bool e) := (show u35 = .bool e from r9) ▸ e35
      clear r9
      clear qO qF
      go_simp
      exact hK _ _ (Below.refl _ _) rfl
    refine BOk.cons rfl [14] [] rfl rfl (by kernel_rfl) (by kernel_rfl) (fun qK qa wr hB qO qF hK => ?_) ?_
    · obtain ⟨u40, e40, r14⟩ := qF.1
      have e40 : qa.tmps[40]? = some (.bool m) := (show u40 = .bool m from r14) ▸ e40
      clear r14
      clear qO qF
      go_simp
      exact hK _ _ (Below.refl _ _) rfl
    exact BOk.nil
  intro vals wr hl hB hR
  match vals, hl with
  | [zb26, zb27, zb28, zb29, zb30, zb31, zb32, zb33, zb34, zb35, zb36, zb37, zb38, zb39, zb40, zb7, zb8, zb9], _ =>
  have r15 : zb7 = .bool l := hR 15 _ rfl
  subst r15
  have r16 : zb8 = .bool e := hR 16 _ rfl
  subst r16
  have r17 : zb9 = .bool m := hR 17 _ rfl
  subst r17
  clear hR
  simp only [List.cons_append, List.nil_append, putAll, Act.put, List.setIfInBounds_toArray, List.set_cons_zero, List.set_cons_succ]
  have k6 := k6.old hB
  have hbW := hbW.trans (hB.mono hbW.size)
  clear hB c40 c41 c50 c51 k4 k5
  go_wp2_with fail
  all_goals (
    refine (rtruth_any _ _).mono ?_
    rintro r w2 ⟨hr, hb2⟩
    have hr : r = .returned R.v := by
      rw [hr, ← HR.out]
      cases l <;> cases e <;> cases m <;> first | rfl | contradiction
    subst hr
    have k6 := k6.old hb2
    have hbW := hbW.trans (hb2.mono hbW.size)
    clear hb2
    obtain ⟨rk, rb⟩ := R
    simp only [V.v]
    have ⟨c0, c1, f0, f1⟩ := vcells k6
    have ⟨d0, d1, _, _⟩ := vcells (vput k6 (.int .i64 rk) (.int .u64 rb))
    go_wp2_with fail
    exact bodyPost_ret (v := .agg #[.int .i64 rk, .int .u64 rb]) (by simp [results, Try.results30, go_sem, d0, d1]) rfl ⟨rfl, (hbW.setCell (by simp; omega) _).setCell (by simp; omega) _⟩
    )
set_option maxRecDepth 100000 in
set_option maxHeartbeats 2000000 in
theorem rcmp_rn_8 (x y : V) (od : Int) (HO : Hid (∀ w : World, Calls Try.prog 39 #[.agg #[.int .i64 x.k, .int .u64 x.b], .agg #[.int .i64 y.k, .int .u64 y.b]] w fun e w' => e = .returned (.int .i64 od) ∧ Below w.heap.size w w')) (ho : od < 0) (l e m : Bool) (h4 : (x.k == 4) = true) (HL : Hid (∀ w : World, Calls Try.prog 40 #[.int .u64 x.b, .int .u64 y.b] w fun r w' => r = .returned (.bool l) ∧ w = w')) (HE : Hid (∀ w : World, Calls Try.prog 41 #[.int .u64 x.b, .int .u64 y.b] w fun r w' => r = .returned (.bool e) ∧ w = w')) (HM : Hid (∀ w : World, Calls Try.prog 40 #[.int .u64 y.b, .int .u64 x.b] w fun r w' => r = .returned (.bool m) ∧ w = w')) (w : World) : Calls Try.prog 30 #[.int .i64 8, .agg #[.int .i64 x.k, .int .u64 x.b], .agg #[.int .i64 y.k, .int .u64 y.b]] w fun z w' => z = .returned (yesV (holdsB 8 l e m)).v ∧ Below w.heap.size w w' := by
  generalize hR : yesV (holdsB 8 l e m) = R
  have HR := Lib.hid hR
  clear hR
  go_enter Try.func30, Try.ntmps30
  go_wp2_with fail
  have k4 : Bk (((w.alloc (.cells #[.int .i64 x.k, .int .u64 x.b] 33)).alloc (.cells #[.int .i64 y.k, .int .u64 y.b] 33)).alloc (.cells #[.int .i64 0, .int .u64 0] 33)) w.heap.size 33 #[.int .i64 x.k, .int .u64 x.b] := ((Bk.new w _ _).alloc _).alloc _
  have k5 : Bk (((w.alloc (.cells #[.int .i64 x.k, .int .u64 x.b] 33)).alloc (.cells #[.int .i64 y.k, .int .u64 y.b] 33)).alloc (.cells #[.int .i64 0, .int .u64 0] 33)) (w.heap.size + 1) 33 #[.int .i64 y.k, .int .u64 y.b] := (Bk.newAt (by simp) _ _).alloc _
  have k6 : Bk (((w.alloc (.cells #[.int .i64 x.k, .int .u64 x.b] 33)).alloc (.cells #[.int .i64 y.k, .int .u64 y.b] 33)).alloc (.cells #[.int .i64 0, .int .u64 0] 33)) (w.heap.size + 1 + 1) 33 #[.int .i64 0, .int .u64 0] := Bk.newAt (by simp) _ _
  have hbW : Below w.heap.size w (((w.alloc (.cells #[.int .i64 x.k, .int .u64 x.b] 33)).alloc (.cells #[.int .i64 y.k, .int .u64 y.b] 33)).alloc (.cells #[.int .i64 0, .int .u64 0] 33)) := (((Below.refl _ _).alloc (by simp) _).alloc (by simp) _).alloc (by simp; omega) _
  generalize ((w.alloc (.cells #[.int .i64 x.k, .int .u64 x.b] 33)).alloc (.cells #[.int .i64 y.k, .int .u64 y.b] 33)).alloc (.cells #[.int .i64 0, .int .u64 0] 33) = W at *
  have ⟨c40, c41, _, _⟩ := vcells k4
  have ⟨c50, c51, _, _⟩ := vcells k5
  refine wp_region_b (by kernel_rfl) (fun k => (cmpR1rn x y w od).getD k .any) (by kernel_rfl) ?_ ?_
  · refine BOk.cons rfl [] [4] rfl rfl (by kernel_rfl) (by kernel_rfl) (fun qK qa wr hB qO qF hK => ?_) ?_
    · have e4 : qa.tmps[4]? = some (.pointer (some ⟨w.heap.size, 0, none⟩)) := qO.1.trans rfl
      clear qO qF
      have hc40 := (bcell hB _ _ (World.block_lt_of_cell? _ _ c40)).trans c40
      have hc41 := (bcell hB _ _ (World.block_lt_of_cell? _ _ c41)).trans c41
      go_simp
      exact hK _ _ (Below.refl _ _) rfl
    refine BOk.cons rfl [] [5] rfl rfl (by kernel_rfl) (by kernel_rfl) (fun qK qa wr hB qO qF hK => ?_) ?_
    · have e5 : qa.tmps[5]? = some (.pointer (some ⟨w.heap.size + 1, 0, none⟩)) := qO.1.trans rfl
      clear qO qF
      have hc50 := (bcell hB _ _ (World.block_lt_of_cell? _ _ c50)).trans c50
      have hc51 := (bcell hB _ _ (World.block_lt_of_cell? _ _ c51)).trans c51
      go_simp
      exact hK _ _ (Below.refl _ _) rfl
    refine BOk.cons rfl [0, 1] [] rfl rfl (by kernel_rfl) (by kernel_rfl) (fun qK qa wr hB qO qF hK => ?_) ?_
    · obtain ⟨u10, e10, r0⟩ := qF.1
      have e10 : qa.tmps[10]? = some (.agg #[.int .i64 x.k, .int .u64 x.b]) := (show u10 = .agg #[.int .i64 x.k, .int .u64 x.b] from r0) ▸ e10
      clear r0
      obtain ⟨u11, e11, r1⟩ := qF.2.1
      have e11 : qa.tmps[11]? = some (.agg #[.int .i64 y.k, .int .u64 y.b]) := (show u11 = .agg #[.int .i64 y.k, .int .u64 y.b] from r1) ▸ e11
      clear r1
      clear qO qF
      go_simp
      go_at_call 39
      refine (HO.out _).mono ?_
      rintro e w2 ⟨rfl, hb2⟩
      exact hK _ _ hb2 rfl
    refine BOk.cons rfl [2] [] rfl rfl (by kernel_rfl) (by kernel_rfl) (fun qK qa wr hB qO qF hK => ?_) ?_
    · obtain ⟨u12, e12, r2⟩ := qF.1
      have e12 : qa.tmps[12]? = some (.int .i64 od) := (show u12 = .int .i64 od from r2) ▸ e12
      clear r2
      clear qO qF
      go_simp
      refine hK _ _ (Below.refl _ _) ?_
      show (_ : Value) = _
      first | rfl | (simp; done) | (simp; omega)
    refine BOk.cons rfl [] [4] rfl rfl (by kernel_rfl) (by kernel_rfl) (fun qK qa wr hB qO qF hK => ?_) ?_
    · have e4 : qa.tmps[4]? = some (.pointer (some ⟨w.heap.size, 0, none⟩)) := qO.1.trans rfl
      clear qO qF
      have hc40 := (bcell hB _ _ (World.block_lt_of_cell? _ _ c40)).trans c40
      have hc41 := (bcell hB _ _ (World.block_lt_of_cell? _ _ c41)).trans c41
      go_simp
      exact hK _ _ (Below.refl _ _) rfl
    refine BOk.cons rfl [] [5] rfl rfl (by kernel_rfl) (by kernel_rfl) (fun qK qa wr hB qO qF hK => ?_) ?_
    · have e5 : qa.tmps[5]? = some (.pointer (some ⟨w.heap.size + 1, 0, none⟩)) := qO.1.trans rfl
      clear qO qF
      have hc50 := (bcell hB _ _ (World.block_lt_of_cell? _ _ c50)).trans c50
      have hc51 := (bcell hB _ _ (World.block_lt_of_cell? _ _ c51)).trans c51
      go_simp
      exact hK _ _ (Below.refl _ _) rfl
    refine BOk.cons rfl [4, 5] [] rfl rfl (by kernel_rfl) (by kernel_rfl) (fun qK qa wr hB qO qF hK => ?_) ?_
    · obtain ⟨u14, e14, r4⟩ := qF.1
      have e14 : qa.tmps[14]? = some (.agg #[.int .i64 x.k, .int .u64 x.b]) := (show u14 = .agg #[.int .i64 x.k, .int .u64 x.b] from r4) ▸ e14
      clear r4
      obtain ⟨u15, e15, r5⟩ := qF.2.1
      have e15 : qa.tmps[15]? = some (.agg #[.int .i64 y.k, .int .u64 y.b]) := (show u15 = .agg #[.int .i64 y.k, .int .u64 y.b] from r5) ▸ e15
      clear r5
      clear qO qF
      go_simp
      repeat' split
      all_goals (refine hK _ _ (Below.refl _ _) ?_; show (_ : Value) = _; simp_all [eqV] <;> omega)
    refine BOk.cons rfl [3] [] rfl rfl (by kernel_rfl) (by kernel_rfl) (fun qK qa wr hB qO qF hK => ?_) ?_
    · obtain ⟨u13, e13, r3⟩ := qF.1
      have e13 : qa.tmps[13]? = some (.bool true) := (show u13 = .bool true from r3) ▸ e13
      clear r3
      clear qO qF
      go_simp
      exact hK _ _ (Below.refl _ _) rfl
    refine BOk.cons rfl [6] [] rfl rfl (by kernel_rfl) (by kernel_rfl) (fun qK qa wr hB qO qF hK => ?_) ?_
    · obtain ⟨u16, e16, r6⟩ := qF.1
      have e16 : qa.tmps[16]? = some (.bool (eqV x y)) := (show u16 = .bool (eqV x y) from r6) ▸ e16
      clear r6
      clear qO qF
      go_simp
      exact hK _ _ (Below.refl _ _) rfl
    exact BOk.nil
  intro vals wr hl hB hR
  match vals, hl with
  | [za10, za11, za12, za13, za14, za15, za16, za7, za8], _ =>
  have r7 : za7 = .bool true := hR 7 _ rfl
  subst r7
  have r8 : za8 = .bool (eqV x y) := hR 8 _ rfl
  subst r8
  clear hR
  simp only [List.cons_append, List.nil_append, putAll, Act.put, List.setIfInBounds_toArray, List.set_cons_zero, List.set_cons_succ]
  have k4 := k4.old hB
  have k5 := k5.old hB
  have k6 := k6.old hB
  have hbW := hbW.trans (hB.mono hbW.size)
  clear hB c40 c41 c50 c51
  have ⟨c40, c41, _, _⟩ := vcells k4
  have ⟨c50, c51, _, _⟩ := vcells k5
  go_wp2_with fail
  refine wp_region_b (by kernel_rfl) (fun k => (cmpR4rn x y w l e m).getD k .any) (by kernel_rfl) ?_ ?_
  · refine BOk.cons rfl [] [4] rfl rfl (by kernel_rfl) (by kernel_rfl) (fun qK qa wr hB qO qF hK => ?_) ?_
    · have e4 : qa.tmps[4]? = some (.pointer (some ⟨w.heap.size, 0, none⟩)) := qO.1.trans rfl
      clear qO qF
      go_simp
      exact hK _ _ (Below.refl _ _) rfl
    refine BOk.cons rfl [0] [] rfl rfl (by kernel_rfl) (by kernel_rfl) (fun qK qa wr hB qO qF hK => ?_) ?_
    · obtain ⟨u26, e26, r0⟩ := qF.1
      have e26 : qa.tmps[26]? = some (.pointer (some ⟨w.heap.size, 1, none⟩)) := (show u26 = .pointer (some ⟨w.heap.size, 1, none⟩) from r0) ▸ e26
      clear r0
      clear qO qF
      have hc41 := (bcell hB _ _ (World.block_lt_of_cell? _ _ c41)).trans c41
      go_simp
      exact hK _ _ (Below.refl _ _) rfl
    refine BOk.cons rfl [] [5] rfl rfl (by kernel_rfl) (by kernel_rfl) (fun qK qa wr hB qO qF hK => ?_) ?_
    · have e5 : qa.tmps[5]? = some (.pointer (some ⟨w.heap.size + 1, 0, none⟩)) := qO.1.trans rfl
      clear qO qF
      go_simp
      exact hK _ _ (Below.refl _ _) rfl
    refine BOk.cons rfl [2] [] rfl rfl (by kernel_rfl) (by kernel_rfl) (fun qK qa wr hB qO qF hK => ?_) ?_
    · obtain ⟨u28, e28, r2⟩ := qF.1
      have e28 : qa.tmps[28]? = some (.pointer (some ⟨w.heap.size + 1, 1, none⟩)) := (show u28 = .pointer (some ⟨w.heap.size + 1, 1, none⟩) from r2) ▸ e28
      clear r2
      clear qO qF
      have hc51 := (bcell hB _ _ (World.block_lt_of_cell? _ _ c51)).trans c51
      go_simp
      exact hK _ _ (Below.refl _ _) rfl
    refine BOk.cons rfl [1, 3] [] rfl rfl (by kernel_rfl) (by kernel_rfl) (fun qK qa wr hB qO qF hK => ?_) ?_
    · obtain ⟨u27, e27, r1⟩ := qF.1
      have e27 : qa.tmps[27]? = some (.int .u64 x.b) := (show u27 = .int .u64 x.b from r1) ▸ e27
      clear r1
      obtain ⟨u29, e29, r3⟩ := qF.2.1
      have e29 : qa.tmps[29]? = some (.int .u64 y.b) := (show u29 = .int .u64 y.b from r3) ▸ e29
      clear r3
      clear qO qF
      go_simp
      go_at_call 40
      refine (HL.out _).mono ?_
      rintro e w2 ⟨rfl, rfl⟩
      exact hK _ _ (Below.refl _ _) rfl
    refine BOk.cons rfl [] [4] rfl rfl (by kernel_rfl) (by kernel_rfl) (fun qK qa wr hB qO qF hK => ?_) ?_
    · have e4 : qa.tmps[4]? = some (.pointer (some ⟨w.heap.size, 0, none⟩)) := qO.1.trans rfl
      clear qO qF
      go_simp
      exact hK _ _ (Below.refl _ _) rfl
    refine BOk.cons rfl [5] [] rfl rfl (by kernel_rfl) (by kernel_rfl) (fun qK qa wr hB qO qF hK => ?_) ?_
    · obtain ⟨u31, e31, r5⟩ := qF.1
      have e31 : qa.tmps[31]? = some (.pointer (some ⟨w.heap.size, 1, none⟩)) := (show u31 = .pointer (some ⟨w.heap.size, 1, none⟩) from r5) ▸ e31
      clear r5
      clear qO qF
      have hc41 := (bcell hB _ _ (World.block_lt_of_cell? _ _ c41)).trans c41
      go_simp
      exact hK _ _ (Below.refl _ _) rfl
    refine BOk.cons rfl [] [5] rfl rfl (by kernel_rfl) (by kernel_rfl) (fun qK qa wr hB qO qF hK => ?_) ?_
    · have e5 : qa.tmps[5]? = some (.pointer (some ⟨w.heap.size + 1, 0, none⟩)) := qO.1.trans rfl
      clear qO qF
      go_simp
      exact hK _ _ (Below.refl _ _) rfl
    refine BOk.cons rfl [7] [] rfl rfl (by kernel_rfl) (by kernel_rfl) (fun qK qa wr hB qO qF hK => ?_) ?_
    · obtain ⟨u33, e33, r7⟩ := qF.1
      have e33 : qa.tmps[33]? = some (.pointer (some ⟨w.heap.size + 1, 1, none⟩)) := (show u33 = .pointer (some ⟨w.heap.size + 1, 1, none⟩) from r7) ▸ e33
      clear r7
      clear qO qF
      have hc51 := (bcell hB _ _ (World.block_lt_of_cell? _ _ c51)).trans c51
      go_simp
      exact hK _ _ (Below.refl _ _) rfl
    refine BOk.cons rfl [6, 8] [] rfl rfl (by kernel_rfl) (by kernel_rfl) (fun qK qa wr hB qO qF hK => ?_) ?_
    · obtain ⟨u32, e32, r6⟩ := qF.1
      have e32 : qa.tmps[32]? = some (.int .u64 x.b) := (show u32 = .int .u64 x.b from r6) ▸ e32
      clear r6
      obtain ⟨u34, e34, r8⟩ := qF.2.1
      have e34 : qa.tmps[34]? = some (.int .u64 y.b) := (show u34 = .int .u64 y.b from r8) ▸ e34
      clear r8
      clear qO qF
      go_simp
      go_at_call 41
      refine (HE.out _).mono ?_
      rintro e0 w2 ⟨rfl, rfl⟩
      exact hK _ _ (Below.refl _ _) rfl
    refine BOk.cons rfl [] [5] rfl rfl (by kernel_rfl) (by kernel_rfl) (fun qK qa wr hB qO qF hK => ?_) ?_
    · have e5 : qa.tmps[5]? = some (.pointer (some ⟨w.heap.size + 1, 0, none⟩)) := qO.1.trans rfl
      clear qO qF
      go_simp
      exact hK _ _ (Below.refl _ _) rfl
    refine BOk.cons rfl [10] [] rfl rfl (by kernel_rfl) (by kernel_rfl) (fun qK qa wr hB qO qF hK => ?_) ?_
    · obtain ⟨u36, e36, r10⟩ := qF.1
      have e36 : qa.tmps[36]? = some (.pointer (some ⟨w.heap.size + 1, 1, none⟩)) := (show u36 = .pointer (some ⟨w.heap.size + 1, 1, none⟩) from r10) ▸ e36
      clear r10
      clear qO qF
      have hc51 := (bcell hB _ _ (World.block_lt_of_cell? _ _ c51)).trans c51
      go_simp
      exact hK _ _ (Below.refl _ _) rfl
    refine BOk.cons rfl [] [4] rfl rfl (by kernel_rfl) (by kernel_rfl) (fun qK qa wr hB qO qF hK => ?_) ?_
    · have e4 : qa.tmps[4]? = some (.pointer (some ⟨w.heap.size, 0, none⟩)) := qO.1.trans rfl
      clear qO qF
      go_simp
      exact hK _ _ (Below.refl _ _) rfl
    refine BOk.cons rfl [12] [] rfl rfl (by kernel_rfl) (by kernel_rfl) (fun qK qa wr hB qO qF hK => ?_) ?_
    · obtain ⟨u38, e38, r12⟩ := qF.1
      have e38 : qa.tmps[38]? = some (.pointer (some ⟨w.heap.size, 1, none⟩)) := (show u38 = .pointer (some ⟨w.heap.size, 1, none⟩) from r12) ▸ e38
      clear r12
      clear qO qF
      have hc41 := (bcell hB _ _ (World.block_lt_of_cell? _ _ c41)).trans c41
      go_simp
      exact hK _ _ (Below.refl _ _) rfl
    refine BOk.cons rfl [11, 13] [] rfl rfl (by kernel_rfl) (by kernel_rfl) (fun qK qa wr hB qO qF hK => ?_) ?_
    · obtain ⟨u37, e37, r11⟩ := qF.1
      have e37 : qa.tmps[37]? = some (.int .u64 y.b) := (show u37 = .int .u64 y.b from r11) ▸ e37
      clear r11
      obtain ⟨u39, e39, r13⟩ := qF.2.1
      have e39 : qa.tmps[39]? = some (.int .u64 x.b) := (show u39 = .int .u64 x.b from r13) ▸ e39
      clear r13
      clear qO qF
      go_simp
      go_at_call 40
      refine (HM.out _).mono ?_
      rintro e w2 ⟨rfl, rfl⟩
      exact hK _ _ (Below.refl _ _) rfl
    refine BOk.cons rfl [4] [] rfl rfl (by kernel_rfl) (by kernel_rfl) (fun qK qa wr hB qO qF hK => ?_) ?_
    · obtain ⟨u30, e30, r4⟩ := qF.1
      have e30 : qa.tmps[30]? = some (.bool l) := (show u30 = .bool l from r4) ▸ e30
      clear r4
      clear qO qF
      go_simp
      exact hK _ _ (Below.refl _ _) rfl
    refine BOk.cons rfl [9] [] rfl rfl (by kernel_rfl) (by kernel_rfl) (fun qK qa wr hB qO qF hK => ?_) ?_
    · obtain ⟨u35, e35, r9⟩ := qF.1
      have e35 : qa.tmps[35]? = some (.bool e) := (show u35 = .bool e from r9) ▸ e35
      clear r9
      clear qO qF
      go_simp
      exact hK _ _ (Below.refl _ _) rfl
    refine BOk.cons rfl [14] [] rfl rfl (by kernel_rfl) (by kernel_rfl) (fun qK qa wr hB qO qF hK => ?_) ?_
    · obtain ⟨u40, e40, r14⟩ := qF.1
      have e40 : qa.tmps[40]? = some (.bool m) := (show u40 = .bool m from r14) ▸ e40
      clear r14
      clear qO qF
      go_simp
      exact hK _ _ (Below.refl _ _) rfl
    exact BOk.nil
  intro vals wr hl hB hR
  match vals, hl with
  | [zb26, zb27, zb28, zb29, zb30, zb31, zb32, zb33, zb34, zb35, zb36, zb37, zb38, zb39, zb40, zb7, zb8, zb9], _ =>
  have r15 : zb7 = .bool l := hR 15 _ rfl
  subst r15
  have r16 : zb8 = .bool e := hR 16 _ rfl
  subst r16
  have r17 : zb9 = .bool m := hR 17 _ rfl
  subst r17
  clear hR
  simp only [List.cons_append, List.nil_append, putAll, Act.put, List.setIfInBounds_toArray, List.set_cons_zero, List.set_cons_succ]
  have k6 := k6.old hB
  have hbW := hbW.trans (hB.mono hbW.size)
  clear hB c40 c41 c50 c51 k4 k5
  go_wp2_with fail
  all_goals (
    refine (rtruth_any _ _).mono ?_
    rintro r w2 ⟨hr, hb2⟩
    have hr : r = .returned R.v := by
      rw [hr, ← HR.out]
      cases l <;> cases e <;> cases m <;> first | rfl | contradiction
    subst hr
    have k6 := k6.old hb2
    have hbW := hbW.trans (hb2.mono hbW.size)
    clear hb2
    obtain ⟨rk, rb⟩ := R
    simp only [V.v]
    have ⟨c0, c1, f0, f1⟩ := vcells k6
    have ⟨d0, d1, _, _⟩ := vcells (vput k6 (.int .i64 rk) (.int .u64 rb))
    go_wp2_with fail
    exact bodyPost_ret (v := .agg #[.int .i64 rk, .int .u64 rb]) (by simp [results, Try.results30, go_sem, d0, d1]) rfl ⟨rfl, (hbW.setCell (by simp; omega) _).setCell (by simp; omega) _⟩
    )
set_option maxRecDepth 100000 in
set_option maxHeartbeats 2000000 in
theorem rcmp_rn_9 (x y : V) (od : Int) (HO : Hid (∀ w : World, Calls Try.prog 39 #[.agg #[.int .i64 x.k, .int .u64 x.b], .agg #[.int .i64 y.k, .int .u64 y.b]] w fun e w' => e = .returned (.int .i64 od) ∧ Below w.heap.size w w')) (ho : od < 0) (l e m : Bool) (h4 : (x.k == 4) = true) (HL : Hid (∀ w : World, Calls Try.prog 40 #[.int .u64 x.b, .int .u64 y.b] w fun r w' => r = .returned (.bool l) ∧ w = w')) (HE : Hid (∀ w : World, Calls Try.prog 41 #[.int .u64 x.b, .int .u64 y.b] w fun r w' => r = .returned (.bool e) ∧ w = w')) (HM : Hid (∀ w : World, Calls Try.prog 40 #[.int .u64 y.b, .int .u64 x.b] w fun r w' => r = .returned (.bool m) ∧ w = w')) (w : World) : Calls Try.prog 30 #[.int .i64 9, .agg #[.int .i64 x.k, .int .u64 x.b], .agg #[.int .i64 y.k, .int .u64 y.b]] w fun z w' => z = .returned (yesV (holdsB 9 l e m)).v ∧ Below w.heap.size w w' := by
  generalize hR : yesV (holdsB 9 l e m) = R
  have HR := Lib.hid hR
  clear hR
  go_enter Try.func30, Try.ntmps30
  go_wp2_with fail
  have k4 : Bk (((w.alloc (.cells #[.int .i64 x.k, .int .u64 x.b] 33)).alloc (.cells #[.int .i64 y.k, .int .u64 y.b] 33)).alloc (.cells #[.int .i64 0, .int .u64 0] 33)) w.heap.size 33 #[.int .i64 x.k, .int .u64 x.b] := ((Bk.new w _ _).alloc _).alloc _
  have k5 : Bk (((w.alloc (.cells #[.int .i64 x.k, .int .u64 x.b] 33)).alloc (.cells #[.int .i64 y.k, .int .u64 y.b] 33)).alloc (.cells #[.int .i64 0, .int .u64 0] 33)) (w.heap.size + 1) 33 #[.int .i64 y.k, .int .u64 y.b] := (Bk.newAt (by simp) _ _).alloc _
  have k6 : Bk (((w.alloc (.cells #[.int .i64 x.k, .int .u64 x.b] 33)).alloc (.cells #[.int .i64 y.k, .int .u64 y.b] 33)).alloc (.cells #[.int .i64 0, .int .u64 0] 33)) (w.heap.size + 1 + 1) 33 #[.int .i64 0, .int .u64 0] := Bk.newAt (by simp) _ _
  have hbW : Below w.heap.size w (((w.alloc (.cells #[.int .i64 x.k, .int .u64 x.b] 33)).alloc (.cells #[.int .i64 y.k, .int .u64 y.b] 33)).alloc (.cells #[.int .i64 0, .int .u64 0] 33)) := (((Below.refl _ _).alloc (by simp) _).alloc (by simp) _).alloc (by simp; omega) _
  generalize ((w.alloc (.cells #[.int .i64 x.k, .int .u64 x.b] 33)).alloc (.cells #[.int .i64 y.k, .int .u64 y.b] 33)).alloc (.cells #[.int .i64 0, .int .u64 0] 33) = W at *
  have ⟨c40, c41, _, _⟩ := vcells k4
  have ⟨c50, c51, _, _⟩ := vcells k5
  refine wp_region_b (by kernel_rfl) (fun k => (cmpR1rn x y w od).getD k .any) (by kernel_rfl) ?_ ?_
  · refine BOk.cons rfl [] [4] rfl rfl (by kernel_rfl) (by kernel_rfl) (fun qK qa wr hB qO qF hK => ?_) ?_
    · have e4 : qa.tmps[4]? = some (.pointer (some ⟨w.heap.size, 0, none⟩)) := qO.1.trans rfl
      clear qO qF
      have hc40 := (bcell hB _ _ (World.block_lt_of_cell? _ _ c40)).trans c40
      have hc41 := (bcell hB _ _ (World.block_lt_of_cell? _ _ c41)).trans c41
      go_simp
      exact hK _ _ (Below.refl _ _) rfl
    refine BOk.cons rfl [] [5] rfl rfl (by kernel_rfl) (by kernel_rfl) (fun qK qa wr hB qO qF hK => ?_) ?_
    · have e5 : qa.tmps[5]? = some (.pointer (some ⟨w.heap.size + 1, 0, none⟩)) := qO.1.trans rfl
      clear qO qF
      have hc50 := (bcell hB _ _ (World.block_lt_of_cell? _ _ c50)).trans c50
      have hc51 := (bcell hB _ _ (World.block_lt_of_cell? _ _ c51)).trans c51
      go_simp
      exact hK _ _ (Below.refl _ _) rfl
    refine BOk.cons rfl [0, 1] [] rfl rfl (by kernel_rfl) (by kernel_rfl) (fun qK qa wr hB qO qF hK => ?_) ?_
    · obtain ⟨u10, e10, r0⟩ := qF.1
      have e10 : qa.tmps[10]? = some (.agg #[.int .i64 x.k, .int .u64 x.b]) := (show u10 = .agg #[.int .i64 x.k, .int .u64 x.b] from r0) ▸ e10
      clear r0
      obtain ⟨u11, e11, r1⟩ := qF.2.1
      have e11 : qa.tmps[11]? = some (.agg #[.int .i64 y.k, .int .u64 y.b]) := (show u11 = .agg #[.int .i64 y.k, .int .u64 y.b] from r1) ▸ e11
      clear r1
      clear qO qF
      go_simp
      go_at_call 39
      refine (HO.out _).mono ?_
      rintro e w2 ⟨rfl, hb2⟩
      exact hK _ _ hb2 rfl
    refine BOk.cons rfl [2] [] rfl rfl (by kernel_rfl) (by kernel_rfl) (fun qK qa wr hB qO qF hK => ?_) ?_
    · obtain ⟨u12, e12, r2⟩ := qF.1
      have e12 : qa.tmps[12]? = some (.int .i64 od) := (show u12 = .int .i64 od from r2) ▸ e12
      clear r2
      clear qO qF
      go_simp
      refine hK _ _ (Below.refl _ _) ?_
      show (_ : Value) = _
      first | rfl | (simp; done) | (simp; omega)
    refine BOk.cons rfl [] [4] rfl rfl (by kernel_rfl) (by kernel_rfl) (fun qK qa wr hB qO qF hK => ?_) ?_
    · have e4 : qa.tmps[4]? = some (.pointer (some ⟨w.heap.size, 0, none⟩)) := qO.1.trans rfl
      clear qO qF
      have hc40 := (bcell hB _ _ (World.block_lt_of_cell? _ _ c40)).trans c40
      have hc41 := (bcell hB _ _ (World.block_lt_of_cell? _ _ c41)).trans c41
      go_simp
      exact hK _ _ (Below.refl _ _) rfl
    refine BOk.cons rfl [] [5] rfl rfl (by kernel_rfl) (by kernel_rfl) (fun qK qa wr hB qO qF hK => ?_) ?_
    · have e5 : qa.tmps[5]? = some (.pointer (some ⟨w.heap.size + 1, 0, none⟩)) := qO.1.trans rfl
      clear qO qF
      have hc50 := (bcell hB _ _ (World.block_lt_of_cell? _ _ c50)).trans c50
      have hc51 := (bcell hB _ _ (World.block_lt_of_cell? _ _ c51)).trans c51
      go_simp
      exact hK _ _ (Below.refl _ _) rfl
    refine BOk.cons rfl [4, 5] [] rfl rfl (by kernel_rfl) (by kernel_rfl) (fun qK qa wr hB qO qF hK => ?_) ?_
    · obtain ⟨u14, e14, r4⟩ := qF.1
      have e14 : qa.tmps[14]? = some (.agg #[.int .i64 x.k, .int .u64 x.b]) := (show u14 = .agg #[.int .i64 x.k, .int .u64 x.b] from r4) ▸ e14
      clear r4
      obtain ⟨u15, e15, r5⟩ := qF.2.1
      have e15 : qa.tmps[15]? = some (.agg #[.int .i64 y.k, .int .u64 y.b]) := (show u15 = .agg #[.int .i64 y.k, .int .u64 y.b] from r5) ▸ e15
      clear r5
      clear qO qF
      go_simp
      repeat' split
      all_goals (refine hK _ _ (Below.refl _ _) ?_; show (_ : Value) = _; simp_all [eqV] <;> omega)
    refine BOk.cons rfl [3] [] rfl rfl (by kernel_rfl) (by kernel_rfl) (fun qK qa wr hB qO qF hK => ?_) ?_
    · obtain ⟨u13, e13, r3⟩ := qF.1
      have e13 : qa.tmps[13]? = some (.bool true) := (show u13 = .bool true from r3) ▸ e13
      clear r3
      clear qO qF
      go_simp
      exact hK _ _ (Below.refl _ _) rfl
    refine BOk.cons rfl [6] [] rfl rfl (by kernel_rfl) (by kernel_rfl) (fun qK qa wr hB qO qF hK => ?_) ?_
    · obtain ⟨u16, e16, r6⟩ := qF.1
      have e16 : qa.tmps[16]? = some (.bool (eqV x y)) := (show u16 = .bool (eqV x y) from r6) ▸ e16
      clear r6
      clear qO qF
      go_simp
      exact hK _ _ (Below.refl _ _) rfl
    exact BOk.nil
  intro vals wr hl hB hR
  match vals, hl with
  | [za10, za11, za12, za13, za14, za15, za16, za7, za8], _ =>
  have r7 : za7 = .bool true := hR 7 _ rfl
  subst r7
  have r8 : za8 = .bool (eqV x y) := hR 8 _ rfl
  subst r8
  clear hR
  simp only [List.cons_append, List.nil_append, putAll, Act.put, List.setIfInBounds_toArray, List.set_cons_zero, List.set_cons_succ]
  have k4 := k4.old hB
  have k5 := k5.old hB
  have k6 := k6.old hB
  have hbW := hbW.trans (hB.mono hbW.size)
  clear hB c40 c41 c50 c51
  have ⟨c40, c41, _, _⟩ := vcells k4
  have ⟨c50, c51, _, _⟩ := vcells k5
  go_wp2_with fail
  refine wp_region_b (by kernel_rfl) (fun k => (cmpR4rn x y w l e m).getD k .any) (by kernel_rfl) ?_ ?_
  · refine BOk.cons rfl [] [4] rfl rfl (by kernel_rfl) (by kernel_rfl) (fun qK qa wr hB qO qF hK => ?_) ?_
    · have e4 : qa.tmps[4]? = some (.pointer (some ⟨w.heap.size, 0, none⟩)) := qO.1.trans rfl
      clear qO qF
      go_simp
      exact hK _ _ (Below.refl _ _) rfl
    refine BOk.cons rfl [0] [] rfl rfl (by kernel_rfl) (by kernel_rfl) (fun qK qa wr hB qO qF hK => ?_) ?_
    · obtain ⟨u26, e26, r0⟩ := qF.1
      have e26 : qa.tmps[26]? = some (.pointer (some ⟨w.heap.size, 1, none⟩)) := (show u26 = .pointer (some ⟨w.heap.size, 1, none⟩) from r0) ▸ e26
      clear r0
      clear qO qF
      have hc41 := (bcell hB _ _ (World.block_lt_of_cell? _ _ c41)).trans c41
      go_simp
      exact hK _ _ (Below.refl _ _) rfl
    refine BOk.cons rfl [] [5] rfl rfl (by kernel_rfl) (by kernel_rfl) (fun qK qa wr hB qO qF hK => ?_) ?_
    · have e5 : qa.tmps[5]? = some (.pointer (some ⟨w.heap.size + 1, 0, none⟩)) := qO.1.trans rfl
      clear qO qF
      go_simp
      exact hK _ _ (Below.refl _ _) rfl
    refine BOk.cons rfl [2] [] rfl rfl (by kernel_rfl) (by kernel_rfl) (fun qK qa wr hB qO qF hK => ?_) ?_
    · obtain ⟨u28, e28, r2⟩ := qF.1
      have e28 : qa.tmps[28]? = some (.pointer (some ⟨w.heap.size + 1, 1, none⟩)) := (show u28 = .pointer (some ⟨w.heap.size + 1, 1, none⟩) from r2) ▸ e28
      clear r2
      clear qO qF
      have hc51 := (bcell hB _ _ (World.block_lt_of_cell? _ _ c51)).trans c51
      go_simp
      exact hK _ _ (Below.refl _ _) rfl
    refine BOk.cons rfl [1, 3] [] rfl rfl (by kernel_rfl) (by kernel_rfl) (fun qK qa wr hB qO qF hK => ?_) ?_
    · obtain ⟨u27, e27, r1⟩ := qF.1
      have e27 : qa.tmps[27]? = some (.int .u64 x.b) := (show u27 = .int .u64 x.b from r1) ▸ e27
      clear r1
      obtain ⟨u29, e29, r3⟩ := qF.2.1
      have e29 : qa.tmps[29]? = some (.int .u64 y.b) := (show u29 = .int .u64 y.b from r3) ▸ e29
      clear r3
      clear qO qF
      go_simp
      go_at_call 40
      refine (HL.out _).mono ?_
      rintro e w2 ⟨rfl, rfl⟩
      exact hK _ _ (Below.refl _ _) rfl
    refine BOk.cons rfl [] [4] rfl rfl (by kernel_rfl) (by kernel_rfl) (fun qK qa wr hB qO qF hK => ?_) ?_
    · have e4 : qa.tmps[4]? = some (.pointer (some ⟨w.heap.size, 0, none⟩)) := qO.1.trans rfl
      clear qO qF
      go_simp
      exact hK _ _ (Below.refl _ _) rfl
    refine BOk.cons rfl [5] [] rfl rfl (by kernel_rfl) (by kernel_rfl) (fun qK qa wr hB qO qF hK => ?_) ?_
    · obtain ⟨u31, e31, r5⟩ := qF.1
      have e31 : qa.tmps[31]? = some (.pointer (some ⟨w.heap.size, 1, none⟩)) := (show u31 = .pointer (some ⟨w.heap.size, 1, none⟩) from r5) ▸ e31
      clear r5
      clear qO qF
      have hc41 := (bcell hB _ _ (World.block_lt_of_cell? _ _ c41)).trans c41
      go_simp
      exact hK _ _ (Below.refl _ _) rfl
    refine BOk.cons rfl [] [5] rfl rfl (by kernel_rfl) (by kernel_rfl) (fun qK qa wr hB qO qF hK => ?_) ?_
    · have e5 : qa.tmps[5]? = some (.pointer (some ⟨w.heap.size + 1, 0, none⟩)) := qO.1.trans rfl
      clear qO qF
      go_simp
      exact hK _ _ (Below.refl _ _) rfl
    refine BOk.cons rfl [7] [] rfl rfl (by kernel_rfl) (by kernel_rfl) (fun qK qa wr hB qO qF hK => ?_) ?_
    · obtain ⟨u33, e33, r7⟩ := qF.1
      have e33 : qa.tmps[33]? = some (.pointer (some ⟨w.heap.size + 1, 1, none⟩)) := (show u33 = .pointer (some ⟨w.heap.size + 1, 1, none⟩) from r7) ▸ e33
      clear r7
      clear qO qF
      have hc51 := (bcell hB _ _ (World.block_lt_of_cell? _ _ c51)).trans c51
      go_simp
      exact hK _ _ (Below.refl _ _) rfl
    refine BOk.cons rfl [6, 8] [] rfl rfl (by kernel_rfl) (by kernel_rfl) (fun qK qa wr hB qO qF hK => ?_) ?_
    · obtain ⟨u32, e32, r6⟩ := qF.1
      have e32 : qa.tmps[32]? = some (.int .u64 x.b) := (show u32 = .int .u64 x.b from r6) ▸ e32
      clear r6
      obtain ⟨u34, e34, r8⟩ := qF.2.1
      have e34 : qa.tmps[34]? = some (.int .u64 y.b) := (show u34 = .int .u64 y.b from r8) ▸ e34
      clear r8
      clear qO qF
      go_simp
      go_at_call 41
      refine (HE.out _).mono ?_
      rintro e0 w2 ⟨rfl, rfl⟩
      exact hK _ _ (Below.refl _ _) rfl
    refine BOk.cons rfl [] [5] rfl rfl (by kernel_rfl) (by kernel_rfl) (fun qK qa wr hB qO qF hK => ?_) ?_
    · have e5 : qa.tmps[5]? = some (.pointer (some ⟨w.heap.size + 1, 0, none⟩)) := qO.1.trans rfl
      clear qO qF
      go_simp
      exact hK _ _ (Below.refl _ _) rfl
    refine BOk.cons rfl [10] [] rfl rfl (by kernel_rfl) (by kernel_rfl) (fun qK qa wr hB qO qF hK => ?_) ?_
    · obtain ⟨u36, e36, r10⟩ := qF.1
      have e36 : qa.tmps[36]? = some (.pointer (some ⟨w.heap.size + 1, 1, none⟩)) := (show u36 = .pointer (some ⟨w.heap.size + 1, 1, none⟩) from r10) ▸ e36
      clear r10
      clear qO qF
      have hc51 := (bcell hB _ _ (World.block_lt_of_cell? _ _ c51)).trans c51
      go_simp
      exact hK _ _ (Below.refl _ _) rfl
    refine BOk.cons rfl [] [4] rfl rfl (by kernel_rfl) (by kernel_rfl) (fun qK qa wr hB qO qF hK => ?_) ?_
    · have e4 : qa.tmps[4]? = some (.pointer (some ⟨w.heap.size, 0, none⟩)) := qO.1.trans rfl
      clear qO qF
      go_simp
      exact hK _ _ (Below.refl _ _) rfl
    refine BOk.cons rfl [12] [] rfl rfl (by kernel_rfl) (by kernel_rfl) (fun qK qa wr hB qO qF hK => ?_) ?_
    · obtain ⟨u38, e38, r12⟩ := qF.1
      have e38 : qa.tmps[38]? = some (.pointer (some ⟨w.heap.size, 1, none⟩)) := (show u38 = .pointer (some ⟨w.heap.size, 1, none⟩) from r12) ▸ e38
      clear r12
      clear qO qF
      have hc41 := (bcell hB _ _ (World.block_lt_of_cell? _ _ c41)).trans c41
      go_simp
      exact hK _ _ (Below.refl _ _) rfl
    refine BOk.cons rfl [11, 13] [] rfl rfl (by kernel_rfl) (by kernel_rfl) (fun qK qa wr hB qO qF hK => ?_) ?_
    · obtain ⟨u37, e37, r11⟩ := qF.1
      have e37 : qa.tmps[37]? = some (.int .u64 y.b) := (show u37 = .int .u64 y.b from r11) ▸ e37
      clear r11
      obtain ⟨u39, e39, r13⟩ := qF.2.1
      have e39 : qa.tmps[39]? = some (.int .u64 x.b) := (show u39 = .int .u64 x.b from r13) ▸ e39
      clear r13
      clear qO qF
      go_simp
      go_at_call 40
      refine (HM.out _).mono ?_
      rintro e w2 ⟨rfl, rfl⟩
      exact hK _ _ (Below.refl _ _) rfl
    refine BOk.cons rfl [4] [] rfl rfl (by kernel_rfl) (by kernel_rfl) (fun qK qa wr hB qO qF hK => ?_) ?_
    · obtain ⟨u30, e30, r4⟩ := qF.1
      have e30 : qa.tmps[30]? = some (.bool l) := (show u30 = .bool l from r4) ▸ e30
      clear r4
      clear qO qF
      go_simp
      exact hK _ _ (Below.refl _ _) rfl
    refine BOk.cons rfl [9] [] rfl rfl (by kernel_rfl) (by kernel_rfl) (fun qK qa wr hB qO qF hK => ?_) ?_
    · obtain ⟨u35, e35, r9⟩ := qF.1
      have e35 : qa.tmps[35]? = some (.bool e) := (show u35 = .bool e from r9) ▸ e35
      clear r9
      clear qO qF
      go_simp
      exact hK _ _ (Below.refl _ _) rfl
    refine BOk.cons rfl [14] [] rfl rfl (by kernel_rfl) (by kernel_rfl) (fun qK qa wr hB qO qF hK => ?_) ?_
    · obtain ⟨u40, e40, r14⟩ := qF.1
      have e40 : qa.tmps[40]? = some (.bool m) := (show u40 = .bool m from r14) ▸ e40
      clear r14
      clear qO qF
      go_simp
      exact hK _ _ (Below.refl _ _) rfl
    exact BOk.nil
  intro vals wr hl hB hR
  match vals, hl with
  | [zb26, zb27, zb28, zb29, zb30, zb31, zb32, zb33, zb34, zb35, zb36, zb37, zb38, zb39, zb40, zb7, zb8, zb9], _ =>
  have r15 : zb7 = .bool l := hR 15 _ rfl
  subst r15
  have r16 : zb8 = .bool e := hR 16 _ rfl
  subst r16
  have r17 : zb9 = .bool m := hR 17 _ rfl
  subst r17
  clear hR
  simp only [List.cons_append, List.nil_append, putAll, Act.put, List.setIfInBounds_toArray, List.set_cons_zero, List.set_cons_succ]
  have k6 := k6.old hB
  have hbW := hbW.trans (hB.mono hbW.size)
  clear hB c40 c41 c50 c51 k4 k5
  go_wp2_with fail
  all_goals (
    refine (rtruth_any _ _).mono ?_
    rintro r w2 ⟨hr, hb2⟩
    have hr : r = .returned R.v := by
      rw [hr, ← HR.out]
      cases l <;> cases e <;> cases m <;> first | rfl | contradiction
    subst hr
    have k6 := k6.old hb2
    have hbW := hbW.trans (hb2.mono hbW.size)
    clear hb2
    obtain ⟨rk, rb⟩ := R
    simp only [V.v]
    have ⟨c0, c1, f0, f1⟩ := vcells k6
    have ⟨d0, d1, _, _⟩ := vcells (vput k6 (.int .i64 rk) (.int .u64 rb))
    go_wp2_with fail
    exact bodyPost_ret (v := .agg #[.int .i64 rk, .int .u64 rb]) (by simp [results, Try.results30, go_sem, d0, d1]) rfl ⟨rfl, (hbW.setCell (by simp; omega) _).setCell (by simp; omega) _⟩
    )
set_option maxRecDepth 100000 in
set_option maxHeartbeats 2000000 in
theorem rcmp_rn_10 (x y : V) (od : Int) (HO : Hid (∀ w : World, Calls Try.prog 39 #[.agg #[.int .i64 x.k, .int .u64 x.b], .agg #[.int .i64 y.k, .int .u64 y.b]] w fun e w' => e = .returned (.int .i64 od) ∧ Below w.heap.size w w')) (ho : od < 0) (l e m : Bool) (h4 : (x.k == 4) = true) (HL : Hid (∀ w : World, Calls Try.prog 40 #[.int .u64 x.b, .int .u64 y.b] w fun r w' => r = .returned (.bool l) ∧ w = w')) (HE : Hid (∀ w : World, Calls Try.prog 41 #[.int .u64 x.b, .int .u64 y.b] w fun r w' => r = .returned (.bool e) ∧ w = w')) (HM : Hid (∀ w : World, Calls Try.prog 40 #[.int .u64 y.b, .int .u64 x.b] w fun r w' => r = .returned (.bool m) ∧ w = w')) (w : World) : Calls Try.prog 30 #[.int .i64 10, .agg #[.int .i64 x.k, .int .u64 x.b], .agg #[.int .i64 y.k, .int .u64 y.b]] w fun z w' => z = .returned (yesV (holdsB 10 l e m)).v ∧ Below w.heap.size w w' := by
  generalize hR : yesV (holdsB 10 l e m) = R
  have HR := Lib.hid hR
  clear hR
  go_enter Try.func30, Try.ntmps30
  go_wp2_with fail
  have k4 : Bk (((w.alloc (.cells #[.int .i64 x.k, .int .u64 x.b] 33)).alloc (.cells #[.int .i64 y.k, .int .u64 y.b] 33)).alloc (.cells #[.int .i64 0, .int .u64 0] 33)) w.heap.size 33 #[.int .i64 x.k, .int .u64 x.b] := ((Bk.new w _ _).alloc _).alloc _
  have k5 : Bk (((w.alloc (.cells #[.int .i64 x.k, .int .u64 x.b] 33)).alloc (.cells #[.int .i64 y.k, .int .u64 y.b] 33)).alloc (.cells #[.int .i64 0, .int .u64 0] 33)) (w.heap.size + 1) 33 #[.int .i64 y.k, .int .u64 y.b] := (Bk.newAt (by simp) _ _).alloc _
  have k6 : Bk (((w.alloc (.cells #[.int .i64 x.k, .int .u64 x.b] 33)).alloc (.cells #[.int .i64 y.k, .int .u64 y.b] 33)).alloc (.cells #[.int .i64 0, .int .u64 0] 33)) (w.heap.size + 1 + 1) 33 #[.int .i64 0, .int .u64 0] := Bk.newAt (by simp) _ _
  have hbW : Below w.heap.size w (((w.alloc (.cells #[.int .i64 x.k, .int .u64 x.b] 33)).alloc (.cells #[.int .i64 y.k, .int .u64 y.b] 33)).alloc (.cells #[.int .i64 0, .int .u64 0] 33)) := (((Below.refl _ _).alloc (by simp) _).alloc (by simp) _).alloc (by simp; omega) _
  generalize ((w.alloc (.cells #[.int .i64 x.k, .int .u64 x.b] 33)).alloc (.cells #[.int .i64 y.k, .int .u64 y.b] 33)).alloc (.cells #[.int .i64 0, .int .u64 0] 33) = W at *
  have ⟨c40, c41, _, _⟩ := vcells k4
  have ⟨c50, c51, _, _⟩ := vcells k5
  refine wp_region_b (by kernel_rfl) (fun k => (cmpR1rn x y w od).getD k .any) (by kernel_rfl) ?_ ?_
  · refine BOk.cons rfl [] [4] rfl rfl (by kernel_rfl) (by kernel_rfl) (fun qK qa wr hB qO qF hK => ?_) ?_
    · have e4 : qa.tmps[4]? = some (.pointer (some ⟨w.heap.size, 0, none⟩)) := qO.1.trans rfl
      clear qO qF
      have hc40 := (bcell hB _ _ (World.block_lt_of_cell? _ _ c40)).trans c40
      have hc41 := (bcell hB _ _ (World.block_lt_of_cell? _ _ c41)).trans c41
      go_simp
      exact hK _ _ (Below.refl _ _) rfl
    refine BOk.cons rfl [] [5] rfl rfl (by kernel_rfl) (by kernel_rfl) (fun qK qa wr hB qO qF hK => ?_) ?_
    · have e5 : qa.tmps[5]? = some (.pointer (some ⟨w.heap.size + 1, 0, none⟩)) := qO.1.trans rfl
      clear qO qF
      have hc50 := (bcell hB _ _ (World.block_lt_of_cell? _ _ c50)).trans c50
      have hc51 := (bcell hB _ _ (World.block_lt_of_cell? _ _ c51)).trans c51
      go_simp
      exact hK _ _ (Below.refl _ _) rfl
    refine BOk.cons rfl [0, 1] [] rfl rfl (by kernel_rfl) (by kernel_rfl) (fun qK qa wr hB qO qF hK => ?_) ?_
    · obtain ⟨u10, e10, r0⟩ := qF.1
      have e10 : qa.tmps[10]? = some (.agg #[.int .i64 x.k, .int .u64 x.b]) := (show u10 = .agg #[.int .i64 x.k, .int .u64 x.b] from r0) ▸ e10
      clear r0
      obtain ⟨u11, e11, r1⟩ := qF.2.1
      have e11 : qa.tmps[11]? = some (.agg #[.int .i64 y.k, .int .u64 y.b]) := (show u11 = .agg #[.int .i64 y.k, .int .u64 y.b] from r1) ▸ e11
      clear r1
      clear qO qF
      go_simp
      go_at_call 39
      refine (HO.out _).mono ?_
      rintro e w2 ⟨rfl, hb2⟩
      exact hK _ _ hb2 rfl
    refine BOk.cons rfl [2] [] rfl rfl (by kernel_rfl) (by kernel_rfl) (fun qK qa wr hB qO qF hK => ?_) ?_
    · obtain ⟨u12, e12, r2⟩ := qF.1
      have e12 : qa.tmps[12]? = some (.int .i64 od) := (show u12 = .int .i64 od from r2) ▸ e12
      clear r2
      clear qO qF
      go_simp
      refine hK _ _ (Below.refl _ _) ?_
      show (_ : Value) = _
      first | rfl | (simp; done) | (simp; omega)
    refine BOk.cons rfl [] [4] rfl rfl (by kernel_rfl) (by kernel_rfl) (fun qK qa wr hB qO qF hK => ?_) ?_
    · have e4 : qa.tmps[4]? = some (.pointer (some ⟨w.heap.size, 0, none⟩)) := qO.1.trans rfl
      clear qO qF
      have hc40 := (bcell hB _ _ (World.block_lt_of_cell? _ _ c40)).trans c40
      have hc41 := (bcell hB _ _ (World.block_lt_of_cell? _ _ c41)).trans c41
      go_simp
      exact hK _ _ (Below.refl _ _) rfl
    refine BOk.cons rfl [] [5] rfl rfl (by kernel_rfl) (by kernel_rfl) (fun qK qa wr hB qO qF hK => ?_) ?_
    · have e5 : qa.tmps[5]? = some (.pointer (some ⟨w.heap.size + 1, 0, none⟩)) := qO.1.trans rfl
      clear qO qF
      have hc50 := (bcell hB _ _ (World.block_lt_of_cell? _ _ c50)).trans c50
      have hc51 := (bcell hB _ _ (World.block_lt_of_cell? _ _ c51)).trans c51
      go_simp
      exact hK _ _ (Below.refl _ _) rfl
    refine BOk.cons rfl [4, 5] [] rfl rfl (by kernel_rfl) (by kernel_rfl) (fun qK qa wr hB qO qF hK => ?_) ?_
    · obtain ⟨u14, e14, r4⟩ := qF.1
      have e14 : qa.tmps[14]? = some (.agg #[.int .i64 x.k, .int .u64 x.b]) := (show u14 = .agg #[.int .i64 x.k, .int .u64 x.b] from r4) ▸ e14
      clear r4
      obtain ⟨u15, e15, r5⟩ := qF.2.1
      have e15 : qa.tmps[15]? = some (.agg #[.int .i64 y.k, .int .u64 y.b]) := (show u15 = .agg #[.int .i64 y.k, .int .u64 y.b] from r5) ▸ e15
      clear r5
      clear qO qF
      go_simp
      repeat' split
      all_goals (refine hK _ _ (Below.refl _ _) ?_; show (_ : Value) = _; simp_all [eqV] <;> omega)
    refine BOk.cons rfl [3] [] rfl rfl (by kernel_rfl) (by kernel_rfl) (fun qK qa wr hB qO qF hK => ?_) ?_
    · obtain ⟨u13, e13, r3⟩ := qF.1
      have e13 : qa.tmps[13]? = some (.bool true) := (show u13 = .bool true from r3) ▸ e13
      clear r3
      clear qO qF
      go_simp
      exact hK _ _ (Below.refl _ _) rfl
    refine BOk.cons rfl [6] [] rfl rfl (by kernel_rfl) (by kernel_rfl) (fun qK qa wr hB qO qF hK => ?_) ?_
    · obtain ⟨u16, e16, r6⟩ := qF.1
      have e16 : qa.tmps[16]? = some (.bool (eqV x y)) := (show u16 = .bool (eqV x y) from r6) ▸ e16
      clear r6
      clear qO qF
      go_simp
      exact hK _ _ (Below.refl _ _) rfl
    exact BOk.nil
  intro vals wr hl hB hR
  match vals, hl with
  | [za10, za11, za12, za13, za14, za15, za16, za7, za8], _ =>
  have r7 : za7 = .bool true := hR 7 _ rfl
  subst r7
  have r8 : za8 = .bool (eqV x y) := hR 8 _ rfl
  subst r8
  clear hR
  simp only [List.cons_append, List.nil_append, putAll, Act.put, List.setIfInBounds_toArray, List.set_cons_zero, List.set_cons_succ]
  have k4 := k4.old hB
  have k5 := k5.old hB
  have k6 := k6.old hB
  have hbW := hbW.trans (hB.mono hbW.size)
  clear hB c40 c41 c50 c51
  have ⟨c40, c41, _, _⟩ := vcells k4
  have ⟨c50, c51, _, _⟩ := vcells k5
  go_wp2_with fail
  refine wp_region_b (by kernel_rfl) (fun k => (cmpR4rn x y w l e m).getD k .any) (by kernel_rfl) ?_ ?_
  · refine BOk.cons rfl [] [4] rfl rfl (by kernel_rfl) (by kernel_rfl) (fun qK qa wr hB qO qF hK => ?_) ?_
    · have e4 : qa.tmps[4]? = some (.pointer (some ⟨w.heap.size, 0, none⟩)) := qO.1.trans rfl
      clear qO qF
      go_simp
      exact hK _ _ (Below.refl _ _) rfl
    refine BOk.cons rfl [0] [] rfl rfl (by kernel_rfl) (by kernel_rfl) (fun qK qa wr hB qO qF hK => ?_) ?_
    · obtain ⟨u26, e26, r0⟩ := qF.1
      have e26 : qa.tmps[26]? = some (.pointer (some ⟨w.heap.size, 1, none⟩)) := (show u26 = .pointer (some ⟨w.heap.size, 1, none⟩) from r0) ▸ e26
      clear r0
      clear qO qF
      have hc41 := (bcell hB _ _ (World.block_lt_of_cell? _ _ c41)).trans c41
      go_simp
      exact hK _ _ (Below.refl _ _) rfl
    refine BOk.cons rfl [] [5] rfl rfl (by kernel_rfl) (by kernel_rfl) (fun qK qa wr hB qO qF hK => ?_) ?_
    · have e5 : qa.tmps[5]? = some (.pointer (some ⟨w.heap.size + 1, 0, none⟩)) := qO.1.trans rfl
      clear qO qF
      go_simp
      exact hK _ _ (Below.refl _ _) rfl
    refine BOk.cons rfl [2] [] rfl rfl (by kernel_rfl) (by kernel_rfl) (fun qK qa wr hB qO qF hK => ?_) ?_
    · obtain ⟨u28, e28, r2⟩ := qF.1
      have e28 : qa.tmps[28]? = some (.pointer (some ⟨w.heap.size + 1, 1, none⟩)) := (show u28 = .pointer (some ⟨w.heap.size + 1, 1, none⟩) from r2) ▸ e28
      clear r2
      clear qO qF
      have hc51 := (bcell hB _ _ (World.block_lt_of_cell? _ _ c51)).trans c51
      go_simp
      exact hK _ _ (Below.refl _ _) rfl
    refine BOk.cons rfl [1, 3] [] rfl rfl (by kernel_rfl) (by kernel_rfl) (fun qK qa wr hB qO qF hK => ?_) ?_
    · obtain ⟨u27, e27, r1⟩ := qF.1
      have e27 : qa.tmps[27]? = some (.int .u64 x.b) := (show u27 = .int .u64 x.b from r1) ▸ e27
      clear r1
      obtain ⟨u29, e29, r3⟩ := qF.2.1
      have e29 : qa.tmps[29]? = some (.int .u64 y.b) := (show u29 = .int .u64 y.b from r3) ▸ e29
      clear r3
      clear qO qF
      go_simp
      go_at_call 40
      refine (HL.out _).mono ?_
      rintro e w2 ⟨rfl, rfl⟩
      exact hK _ _ (Below.refl _ _) rfl
    refine BOk.cons rfl [] [4] rfl rfl (by kernel_rfl) (by kernel_rfl) (fun qK qa wr hB qO qF hK => ?_) ?_
    · have e4 : qa.tmps[4]? = some (.pointer (some ⟨w.heap.size, 0, none⟩)) := qO.1.trans rfl
      clear qO qF
      go_simp
      exact hK _ _ (Below.refl _ _) rfl
    refine BOk.cons rfl [5] [] rfl rfl (by kernel_rfl) (by kernel_rfl) (fun qK qa wr hB qO qF hK => ?_) ?_
    · obtain ⟨u31, e31, r5⟩ := qF.1
      have e31 : qa.tmps[31]? = some (.pointer (some ⟨w.heap.size, 1, none⟩)) := (show u31 = .pointer (some ⟨w.heap.size, 1, none⟩) from r5) ▸ e31
      clear r5
      clear qO qF
      have hc41 := (bcell hB _ _ (World.block_lt_of_cell? _ _ c41)).trans c41
      go_simp
      exact hK _ _ (Below.refl _ _) rfl
    refine BOk.cons rfl [] [5] rfl rfl (by kernel_rfl) (by kernel_rfl) (fun qK qa wr hB qO qF hK => ?_) ?_
    · have e5 : qa.tmps[5]? = some (.pointer (some ⟨w.heap.size + 1, 0, none⟩)) := qO.1.trans rfl
      clear qO qF
      go_simp
      exact hK _ _ (Below.refl _ _) rfl
    refine BOk.cons rfl [7] [] rfl rfl (by kernel_rfl) (by kernel_rfl) (fun qK qa wr hB qO qF hK => ?_) ?_
    · obtain ⟨u33, e33, r7⟩ := qF.1
      have e33 : qa.tmps[33]? = some (.pointer (some ⟨w.heap.size + 1, 1, none⟩)) := (show u33 = .pointer (some ⟨w.heap.size + 1, 1, none⟩) from r7) ▸ e33
      clear r7
      clear qO qF
      have hc51 := (bcell hB _ _ (World.block_lt_of_cell? _ _ c51)).trans c51
      go_simp
      exact hK _ _ (Below.refl _ _) rfl
    refine BOk.cons rfl [6, 8] [] rfl rfl (by kernel_rfl) (by kernel_rfl) (fun qK qa wr hB qO qF hK => ?_) ?_
    · obtain ⟨u32, e32, r6⟩ := qF.1
      have e32 : qa.tmps[32]? = some (.int .u64 x.b) := (show u32 = .int .u64 x.b from r6) ▸ e32
      clear r6
      obtain ⟨u34, e34, r8⟩ := qF.2.1
      have e34 : qa.tmps[34]? = some (.int .u64 y.b) := (show u34 = .int .u64 y.b from r8) ▸ e34
      clear r8
      clear qO qF
      go_simp
      go_at_call 41
      refine (HE.out _).mono ?_
      rintro e0 w2 ⟨rfl, rfl⟩
      exact hK _ _ (Below.refl _ _) rfl
    refine BOk.cons rfl [] [5] rfl rfl (by kernel_rfl) (by kernel_rfl) (fun qK qa wr hB qO qF hK => ?_) ?_
    · have e5 : qa.tmps[5]? = some (.pointer (some ⟨w.heap.size + 1, 0, none⟩)) := qO.1.trans rfl
      clear qO qF
      go_simp
      exact hK _ _ (Below.refl _ _) rfl
    refine BOk.cons rfl [10] [] rfl rfl (by kernel_rfl) (by kernel_rfl) (fun qK qa wr hB qO qF hK => ?_) ?_
    · obtain ⟨u36, e36, r10⟩ := qF.1
      have e36 : qa.tmps[36]? = some (.pointer (some ⟨w.heap.size + 1, 1, none⟩)) := (show u36 = .pointer (some ⟨w.heap.size + 1, 1, none⟩) from r10) ▸ e36
      clear r10
      clear qO qF
      have hc51 := (bcell hB _ _ (World.block_lt_of_cell? _ _ c51)).trans c51
      go_simp
      exact hK _ _ (Below.refl _ _) rfl
    refine BOk.cons rfl [] [4] rfl rfl (by kernel_rfl) (by kernel_rfl) (fun qK qa wr hB qO qF hK => ?_) ?_
    · have e4 : qa.tmps[4]? = some (.pointer (some ⟨w.heap.size, 0, none⟩)) := qO.1.trans rfl
      clear qO qF
      go_simp
      exact hK _ _ (Below.refl _ _) rfl
    refine BOk.cons rfl [12] [] rfl rfl (by kernel_rfl) (by kernel_rfl) (fun qK qa wr hB qO qF hK => ?_) ?_
    · obtain ⟨u38, e38, r12⟩ := qF.1
      have e38 : qa.tmps[38]? = some (.pointer (some ⟨w.heap.size, 1, none⟩)) := (show u38 = .pointer (some ⟨w.heap.size, 1, none⟩) from r12) ▸ e38
      clear r12
      clear qO qF
      have hc41 := (bcell hB _ _ (World.block_lt_of_cell? _ _ c41)).trans c41
      go_simp
      exact hK _ _ (Below.refl _ _) rfl
    refine BOk.cons rfl [11, 13] [] rfl rfl (by kernel_rfl) (by kernel_rfl) (fun qK qa wr hB qO qF hK => ?_) ?_
    · obtain ⟨u37, e37, r11⟩ := qF.1
      have e37 : qa.tmps[37]? = some (.int .u64 y.b) := (show u37 = .int .u64 y.b from r11) ▸ e37
      clear r11
      obtain ⟨u39, e39, r13⟩ := qF.2.1
      have e39 : qa.tmps[39]? = some (.int .u64 x.b) := (show u39 = .int .u64 x.b from r13) ▸ e39
      clear r13
      clear qO qF
      go_simp
      go_at_call 40
      refine (HM.out _).mono ?_
      rintro e w2 ⟨rfl, rfl⟩
      exact hK _ _ (Below.refl _ _) rfl
    refine BOk.cons rfl [4] [] rfl rfl (by kernel_rfl) (by kernel_rfl) (fun qK qa wr hB qO qF hK => ?_) ?_
    · obtain ⟨u30, e30, r4⟩ := qF.1
      have e30 : qa.tmps[30]? = some (.bool l) := (show u30 = .bool l from r4) ▸ e30
      clear r4
      clear qO qF
      go_simp
      exact hK _ _ (Below.refl _ _) rfl
    refine BOk.cons rfl [9] [] rfl rfl (by kernel_rfl) (by kernel_rfl) (fun qK qa wr hB qO qF hK => ?_) ?_
    · obtain ⟨u35, e35, r9⟩ := qF.1
      have e35 : qa.tmps[35]? = some (.bool e) := (show u35 = .bool e from r9) ▸ e35
      clear r9
      clear qO qF
      go_simp
      exact hK _ _ (Below.refl _ _) rfl
    refine BOk.cons rfl [14] [] rfl rfl (by kernel_rfl) (by kernel_rfl) (fun qK qa wr hB qO qF hK => ?_) ?_
    · obtain ⟨u40, e40, r14⟩ := qF.1
      have e40 : qa.tmps[40]? = some (.bool m) := (show u40 = .bool m from r14) ▸ e40
      clear r14
      clear qO qF
      go_simp
      exact hK _ _ (Below.refl _ _) rfl
    exact BOk.nil
  intro vals wr hl hB hR
  match vals, hl with
  | [zb26, zb27, zb28, zb29, zb30, zb31, zb32, zb33, zb34, zb35, zb36, zb37, zb38, zb39, zb40, zb7, zb8, zb9], _ =>
  have r15 : zb7 = .bool l := hR 15 _ rfl
  subst r15
  have r16 : zb8 = .bool e := hR 16 _ rfl
  subst r16
  have r17 : zb9 = .bool m := hR 17 _ rfl
  subst r17
  clear hR
  simp only [List.cons_append, List.nil_append, putAll, Act.put, List.setIfInBounds_toArray, List.set_cons_zero, List.set_cons_succ]
  have k6 := k6.old hB
  have hbW := hbW.trans (hB.mono hbW.size)
  clear hB c40 c41 c50 c51 k4 k5
  go_wp2_with fail
  all_goals (
    refine (rtruth_any _ _).mono ?_
    rintro r w2 ⟨hr, hb2⟩
    have hr : r = .returned R.v := by
      rw [hr, ← HR.out]
      cases l <;> cases e <;> cases m <;> first | rfl | contradiction
    subst hr
    have k6 := k6.old hb2
    have hbW := hbW.trans (hb2.mono hbW.size)
    clear hb2
    obtain ⟨rk, rb⟩ := R
    simp only [V.v]
    have ⟨c0, c1, f0, f1⟩ := vcells k6
    have ⟨d0, d1, _, _⟩ := vcells (vput k6 (.int .i64 rk) (.int .u64 rb))
    go_wp2_with fail
    exact bodyPost_ret (v := .agg #[.int .i64 rk, .int .u64 rb]) (by simp [results, Try.results30, go_sem, d0, d1]) rfl ⟨rfl, (hbW.setCell (by simp; omega) _).setCell (by simp; omega) _⟩
    )
set_option maxRecDepth 100000 in
set_option maxHeartbeats 2000000 in
theorem rcmp_rn_11 (x y : V) (od : Int) (HO : Hid (∀ w : World, Calls Try.prog 39 #[.agg #[.int .i64 x.k, .int .u64 x.b], .agg #[.int .i64 y.k, .int .u64 y.b]] w fun e w' => e = .returned (.int .i64 od) ∧ Below w.heap.size w w')) (ho : od < 0) (l e m : Bool) (h4 : (x.k == 4) = true) (HL : Hid (∀ w : World, Calls Try.prog 40 #[.int .u64 x.b, .int .u64 y.b] w fun r w' => r = .returned (.bool l) ∧ w = w')) (HE : Hid (∀ w : World, Calls Try.prog 41 #[.int .u64 x.b, .int .u64 y.b] w fun r w' => r = .returned (.bool e) ∧ w = w')) (HM : Hid (∀ w : World, Calls Try.prog 40 #[.int .u64 y.b, .int .u64 x.b] w fun r w' => r = .returned (.bool m) ∧ w = w')) (w : World) : Calls Try.prog 30 #[.int .i64 11, .agg #[.int .i64 x.k, .int .u64 x.b], .agg #[.int .i64 y.k, .int .u64 y.b]] w fun z w' => z = .returned (yesV (holdsB 11 l e m)).v ∧ Below w.heap.size w w' := by
  generalize hR : yesV (holdsB 11 l e m) = R
  have HR := Lib.hid hR
  clear hR
  go_enter Try.func30, Try.ntmps30
  go_wp2_with fail
  have k4 : Bk (((w.alloc (.cells #[.int .i64 x.k, .int .u64 x.b] 33)).alloc (.cells #[.int .i64 y.k, .int .u64 y.b] 33)).alloc (.cells #[.int .i64 0, .int .u64 0] 33)) w.heap.size 33 #[.int .i64 x.k, .int .u64 x.b] := ((Bk.new w _ _).alloc _).alloc _
  have k5 : Bk (((w.alloc (.cells #[.int .i64 x.k, .int .u64 x.b] 33)).alloc (.cells #[.int .i64 y.k, .int .u64 y.b] 33)).alloc (.cells #[.int .i64 0, .int .u64 0] 33)) (w.heap.size + 1) 33 #[.int .i64 y.k, .int .u64 y.b] := (Bk.newAt (by simp) _ _).alloc _
  have k6 : Bk (((w.alloc (.cells #[.int .i64 x.k, .int .u64 x.b] 33)).alloc (.cells #[.int .i64 y.k, .int .u64 y.b] 33)).alloc (.cells #[.int .i64 0, .int .u64 0] 33)) (w.heap.size + 1 + 1) 33 #[.int .i64 0, .int .u64 0] := Bk.newAt (by simp) _ _
  have hbW : Below w.heap.size w (((w.alloc (.cells #[.int .i64 x.k, .int .u64 x.b] 33)).alloc (.cells #[.int .i64 y.k, .int .u64 y.b] 33)).alloc (.cells #[.int .i64 0, .int .u64 0] 33)) := (((Below.refl _ _).alloc (by simp) _).alloc (by simp) _).alloc (by simp; omega) _
  generalize ((w.alloc (.cells #[.int .i64 x.k, .int .u64 x.b] 33)).alloc (.cells #[.int .i64 y.k, .int .u64 y.b] 33)).alloc (.cells #[.int .i64 0, .int .u64 0] 33) = W at *
  have ⟨c40, c41, _, _⟩ := vcells k4
  have ⟨c50, c51, _, _⟩ := vcells k5
  refine wp_region_b (by kernel_rfl) (fun k => (cmpR1rn x y w od).getD k .any) (by kernel_rfl) ?_ ?_
  · refine BOk.cons rfl [] [4] rfl rfl (by kernel_rfl) (by kernel_rfl) (fun qK qa wr hB qO qF hK => ?_) ?_
    · have e4 : qa.tmps[4]? = some (.pointer (some ⟨w.heap.size, 0, none⟩)) := qO.1.trans rfl
      clear qO qF
      have hc40 := (bcell hB _ _ (World.block_lt_of_cell? _ _ c40)).trans c40
      have hc41 := (bcell hB _ _ (World.block_lt_of_cell? _ _ c41)).trans c41
      go_simp
      exact hK _ _ (Below.refl _ _) rfl
    refine BOk.cons rfl [] [5] rfl rfl (by kernel_rfl) (by kernel_rfl) (fun qK qa wr hB qO qF hK => ?_) ?_
    · have e5 : qa.tmps[5]? = some (.pointer (some ⟨w.heap.size + 1, 0, none⟩)) := qO.1.trans rfl
      clear qO qF
      have hc50 := (bcell hB _ _ (World.block_lt_of_cell? _ _ c50)).trans c50
      have hc51 := (bcell hB _ _ (World.block_lt_of_cell? _ _ c51)).trans c51
      go_simp
      exact hK _ _ (Below.refl _ _) rfl
    refine BOk.cons rfl [0, 1] [] rfl rfl (by kernel_rfl) (by kernel_rfl) (fun qK qa wr hB qO qF hK => ?_) ?_
    · obtain ⟨u10, e10, r0⟩ := qF.1
      have e10 : qa.tmps[10]? = some (.agg #[.int .i64 x.k, .int .u64 x.b]) := (show u10 = .agg #[.int .i64 x.k, .int .u64 x.b] from r0) ▸ e10
      clear r0
      obtain ⟨u11, e11, r1⟩ := qF.2.1
      have e11 : qa.tmps[11]? = some (.agg #[.int .i64 y.k, .int .u64 y.b]) := (show u11 = .agg #[.int .i64 y.k, .int .u64 y.b] from r1) ▸ e11
      clear r1
      clear qO qF
      go_simp
      go_at_call 39
      refine (HO.out _).mono ?_
      rintro e w2 ⟨rfl, hb2⟩
      exact hK _ _ hb2 rfl
    refine BOk.cons rfl [2] [] rfl rfl (by kernel_rfl) (by kernel_rfl) (fun qK qa wr hB qO qF hK => ?_) ?_
    · obtain ⟨u12, e12, r2⟩ := qF.1
      have e12 : qa.tmps[12]? = some (.int .i64 od) := (show u12 = .int .i64 od from r2) ▸ e12
      clear r2
      clear qO qF
      go_simp
      refine hK _ _ (Below.refl _ _) ?_
      show (_ : Value) = _
      first | rfl | (simp; done) | (simp; omega)
    refine BOk.cons rfl [] [4] rfl rfl (by kernel_rfl) (by kernel_rfl) (fun qK qa wr hB qO qF hK => ?_) ?_
    · have e4 : qa.tmps[4]? = some (.pointer (some ⟨w.heap.size, 0, none⟩)) := qO.1.trans rfl
      clear qO qF
      have hc40 := (bcell hB _ _ (World.block_lt_of_cell? _ _ c40)).trans c40
      have hc41 := (bcell hB _ _ (World.block_lt_of_cell? _ _ c41)).trans c41
      go_simp
      exact hK _ _ (Below.refl _ _) rfl
    refine BOk.cons rfl [] [5] rfl rfl (by kernel_rfl) (by kernel_rfl) (fun qK qa wr hB qO qF hK => ?_) ?_
    · have e5 : qa.tmps[5]? = some (.pointer (some ⟨w.heap.size + 1, 0, none⟩)) := qO.1.trans rfl
      clear qO qF
      have hc50 := (bcell hB _ _ (World.block_lt_of_cell? _ _ c50)).trans c50
      have hc51 := (bcell hB _ _ (World.block_lt_of_cell? _ _ c51)).trans c51
      go_simp
      exact hK _ _ (Below.refl _ _) rfl
    refine BOk.cons rfl [4, 5] [] rfl rfl (by kernel_rfl) (by kernel_rfl) (fun qK qa wr hB qO qF hK => ?_) ?_
    · obtain ⟨u14, e14, r4⟩ := qF.1
      have e14 : qa.tmps[14]? = some (.agg #[.int .i64 x.k, .int .u64 x.b]) := (show u14 = .agg #[.int .i64 x.k, .int .u64 x.b] from r4) ▸ e14
      clear r4
      obtain ⟨u15, e15, r5⟩ := qF.2.1
      have e15 : qa.tmps[15]? = some (.agg #[.int .i64 y.k, .int .u64 y.b]) := (show u15 = .agg #[.int .i64 y.k, .int .u64 y.b] from r5) ▸ e15
      clear r5
      clear qO qF
      go_simp
      repeat' split
      all_goals (refine hK _ _ (Below.refl _ _) ?_; show (_ : Value) = _; simp_all [eqV] <;> omega)
    refine BOk.cons rfl [3] [] rfl rfl (by kernel_rfl) (by kernel_rfl) (fun qK qa wr hB qO qF hK => ?_) ?_
    · obtain ⟨u13, e13, r3⟩ := qF.1
      have e13 : qa.tmps[13]? = some (.bool true) := (show u13 = .bool true from r3) ▸ e13
      clear r3
      clear qO qF
      go_simp
      exact hK _ _ (Below.refl _ _) rfl
    refine BOk.cons rfl [6] [] rfl rfl (by kernel_rfl) (by kernel_rfl) (fun qK qa wr hB qO qF hK => ?_) ?_
    · obtain ⟨u16, e16, r6⟩ := qF.1
      have e16 : qa.tmps[16]? = some (.bool (eqV x y)) := (show u16 = .bool (eqV x y) from r6) ▸ e16
      clear r6
      clear qO qF
      go_simp
      exact hK _ _ (Below.refl _ _) rfl
    exact BOk.nil
  intro vals wr hl hB hR
  match vals, hl with
  | [za10, za11, za12, za13, za14, za15, za16, za7, za8], _ =>
  have r7 : za7 = .bool true := hR 7 _ rfl
  subst r7
  have r8 : za8 = .bool (eqV x y) := hR 8 _ rfl
  subst r8
  clear hR
  simp only [List.cons_append, List.nil_append, putAll, Act.put, List.setIfInBounds_toArray, List.set_cons_zero, List.set_cons_succ]
  have k4 := k4.old hB
  have k5 := k5.old hB
  have k6 := k6.old hB
  have hbW := hbW.trans (hB.mono hbW.size)
  clear hB c40 c41 c50 c51
  have ⟨c40, c41, _, _⟩ := vcells k4
  have ⟨c50, c51, _, _⟩ := vcells k5
  go_wp2_with fail
  refine wp_region_b (by kernel_rfl) (fun k => (cmpR4rn x y w l e m).getD k .any) (by kernel_rfl) ?_ ?_
  · refine BOk.cons rfl [] [4] rfl rfl (by kernel_rfl) (by kernel_rfl) (fun qK qa wr hB qO qF hK => ?_) ?_
    · have e4 : qa.tmps[4]? = some (.pointer (some ⟨w.heap.size, 0, none⟩)) := qO.1.trans rfl
      clear qO qF
      go_simp
      exact hK _ _ (Below.refl _ _) rfl
    refine BOk.cons rfl [0] [] rfl rfl (by kernel_rfl) (by kernel_rfl) (fun qK qa wr hB qO qF hK => ?_) ?_
    · obtain ⟨u26, e26, r0⟩ := qF.1
      have e26 : qa.tmps[26]? = some (.pointer (some ⟨w.heap.size, 1, none⟩)) := (show u26 = .pointer (some ⟨w.heap.size, 1, none⟩) from r0) ▸ e26
      clear r0
      clear qO qF
      have hc41 := (bcell hB _ _ (World.block_lt_of_cell? _ _ c41)).trans c41
      go_simp
      exact hK _ _ (Below.refl _ _) rfl
    refine BOk.cons rfl [] [5] rfl rfl (by kernel_rfl) (by kernel_rfl) (fun qK qa wr hB qO qF hK => ?_) ?_
    · have e5 : qa.tmps[5]? = some (.pointer (some ⟨w.heap.size + 1, 0, none⟩)) := qO.1.trans rfl
      clear qO qF
      go_simp
      exact hK _ _ (Below.refl _ _) rfl
    refine BOk.cons rfl [2] [] rfl rfl (by kernel_rfl) (by kernel_rfl) (fun qK qa wr hB qO qF hK => ?_) ?_
    · obtain ⟨u28, e28, r2⟩ := qF.1
      have e28 : qa.tmps[28]? = some (.pointer (some ⟨w.heap.size + 1, 1, none⟩)) := (show u28 = .pointer (some ⟨w.heap.size + 1, 1, none⟩) from r2) ▸ e28
      clear r2
      clear qO qF
      have hc51 := (bcell hB _ _ (World.block_lt_of_cell? _ _ c51)).trans c51
      go_simp
      exact hK _ _ (Below.refl _ _) rfl
    refine BOk.cons rfl [1, 3] [] rfl rfl (by kernel_rfl) (by kernel_rfl) (fun qK qa wr hB qO qF hK => ?_) ?_
    · obtain ⟨u27, e27, r1⟩ := qF.1
      have e27 : qa.tmps[27]? = some (.int .u64 x.b) := (show u27 = .int .u64 x.b from r1) ▸ e27
      clear r1
      obtain ⟨u29, e29, r3⟩ := qF.2.1
      have e29 : qa.tmps[29]? = some (.int .u64 y.b) := (show u29 = .int .u64 y.b from r3) ▸ e29
      clear r3
      clear qO qF
      go_simp
      go_at_call 40
      refine (HL.out _).mono ?_
      rintro e w2 ⟨rfl, rfl⟩
      exact hK _ _ (Below.refl _ _) rfl
    refine BOk.cons rfl [] [4] rfl rfl (by kernel_rfl) (by kernel_rfl) (fun qK qa wr hB qO qF hK => ?_) ?_
    · have e4 : qa.tmps[4]? = some (.pointer (some ⟨w.heap.size, 0, none⟩)) := qO.1.trans rfl
      clear qO qF
      go_simp
      exact hK _ _ (Below.refl _ _) rfl
    refine BOk.cons rfl [5] [] rfl rfl (by kernel_rfl) (by kernel_rfl) (fun qK qa wr hB qO qF hK => ?_) ?_
    · obtain ⟨u31, e31, r5⟩ := qF.1
      have e31 : qa.tmps[31]? = some (.pointer (some ⟨w.heap.size, 1, none⟩)) := (show u31 = .pointer (some ⟨w.heap.size, 1, none⟩) from r5) ▸ e31
      clear r5
      clear qO qF
      have hc41 := (bcell hB _ _ (World.block_lt_of_cell? _ _ c41)).trans c41
      go_simp
      exact hK _ _ (Below.refl _ _) rfl
    refine BOk.cons rfl [] [5] rfl rfl (by kernel_rfl) (by kernel_rfl) (fun qK qa wr hB qO qF hK => ?_) ?_
    · have e5 : qa.tmps[5]? = some (.pointer (some ⟨w.heap.size + 1, 0, none⟩)) := qO.1.trans rfl
      clear qO qF
      go_simp
      exact hK _ _ (Below.refl _ _) rfl
    refine BOk.cons rfl [7] [] rfl rfl (by kernel_rfl) (by kernel_rfl) (fun qK qa wr hB qO qF hK => ?_) ?_
    · obtain ⟨u33, e33, r7⟩ := qF.1
      have e33 : qa.tmps[33]? = some (.pointer (some ⟨w.heap.size + 1, 1, none⟩)) := (show u33 = .pointer (some ⟨w.heap.size + 1, 1, none⟩) from r7) ▸ e33
      clear r7
      clear qO qF
      have hc51 := (bcell hB _ _ (World.block_lt_of_cell? _ _ c51)).trans c51
      go_simp
      exact hK _ _ (Below.refl _ _) rfl
    refine BOk.cons rfl [6, 8] [] rfl rfl (by kernel_rfl) (by kernel_rfl) (fun qK qa wr hB qO qF hK => ?_) ?_
    · obtain ⟨u32, e32, r6⟩ := qF.1
      have e32 : qa.tmps[32]? = some (.int .u64 x.b) := (show u32 = .int .u64 x.b from r6) ▸ e32
      clear r6
      obtain ⟨u34, e34, r8⟩ := qF.2.1
      have e34 : qa.tmps[34]? = some (.int .u64 y.b) := (show u34 = .int .u64 y.b from r8) ▸ e34
      clear r8
      clear qO qF
      go_simp
      go_at_call 41
      refine (HE.out _).mono ?_
      rintro e0 w2 ⟨rfl, rfl⟩
      exact hK _ _ (Below.refl _ _) rfl
    refine BOk.cons rfl [] [5] rfl rfl (by kernel_rfl) (by kernel_rfl) (fun qK qa wr hB qO qF hK => ?_) ?_
    · have e5 : qa.tmps[5]? = some (.pointer (some ⟨w.heap.size + 1, 0, none⟩)) := qO.1.trans rfl
      clear qO qF
      go_simp
      exact hK _ _ (Below.refl _ _) rfl
    refine BOk.cons rfl [10] [] rfl rfl (by kernel_rfl) (by kernel_rfl) (fun qK qa wr hB qO qF hK => ?_) ?_
    · obtain ⟨u36, e36, r10⟩ := qF.1
      have e36 : qa.tmps[36]? = some (.pointer (some ⟨w.heap.size + 1, 1, none⟩)) := (show u36 = .pointer (some ⟨w.heap.size + 1, 1, none⟩) from r10) ▸ e36
      clear r10
      clear qO qF
      have hc51 := (bcell hB _ _ (World.block_lt_of_cell? _ _ c51)).trans c51
      go_simp
      exact hK _ _ (Below.refl _ _) rfl
    refine BOk.cons rfl [] [4] rfl rfl (by kernel_rfl) (by kernel_rfl) (fun qK qa wr hB qO qF hK => ?_) ?_
    · have e4 : qa.tmps[4]? = some (.pointer (some ⟨w.heap.size, 0, none⟩)) := qO.1.trans rfl
      clear qO qF
      go_simp
      exact hK _ _ (Below.refl _ _) rfl
    refine BOk.cons rfl [12] [] rfl rfl (by kernel_rfl) (by kernel_rfl) (fun qK qa wr hB qO qF hK => ?_) ?_
    · obtain ⟨u38, e38, r12⟩ := qF.1
      have e38 : qa.tmps[38]? = some (.pointer (some ⟨w.heap.size, 1, none⟩)) := (show u38 = .pointer (some ⟨w.heap.size, 1, none⟩) from r12) ▸ e38
      clear r12
      clear qO qF
      have hc41 := (bcell hB _ _ (World.block_lt_of_cell? _ _ c41)).trans c41
      go_simp
      exact hK _ _ (Below.refl _ _) rfl
    refine BOk.cons rfl [11, 13] [] rfl rfl (by kernel_rfl) (by kernel_rfl) (fun qK qa wr hB qO qF hK => ?_) ?_
    · obtain ⟨u37, e37, r11⟩ := qF.1
      have e37 : qa.tmps[37]? = some (.int .u64 y.b) := (show u37 = .int .u64 y.b from r11) ▸ e37
      clear r11
      obtain ⟨u39, e39, r13⟩ := qF.2.1
      have e39 : qa.tmps[39]? = some (.int .u64 x.b) := (show u39 = .int .u64 x.b from r13) ▸ e39
      clear r13
      clear qO qF
      go_simp
      go_at_call 40
      refine (HM.out _).mono ?_
      rintro e w2 ⟨rfl, rfl⟩
      exact hK _ _ (Below.refl _ _) rfl
    refine BOk.cons rfl [4] [] rfl rfl (by kernel_rfl) (by kernel_rfl) (fun qK qa wr hB qO qF hK => ?_) ?_
    · obtain ⟨u30, e30, r4⟩ := qF.1
      have e30 : qa.tmps[30]? = some (.bool l) := (show u30 = .bool l from r4) ▸ e30
      clear r4
      clear qO qF
      go_simp
      exact hK _ _ (Below.refl _ _) rfl
    refine BOk.cons rfl [9] [] rfl rfl (by kernel_rfl) (by kernel_rfl) (fun qK qa wr hB qO qF hK => ?_) ?_
    · obtain ⟨u35, e35, r9⟩ := qF.1
      have e35 : qa.tmps[35]? = some (.bool e) := (show u35 = .bool e from r9) ▸ e35
      clear r9
      clear qO qF
      go_simp
      exact hK _ _ (Below.refl _ _) rfl
    refine BOk.cons rfl [14] [] rfl rfl (by kernel_rfl) (by kernel_rfl) (fun qK qa wr hB qO qF hK => ?_) ?_
    · obtain ⟨u40, e40, r14⟩ := qF.1
      have e40 : qa.tmps[40]? = some (.bool m) := (show u40 = .bool m from r14) ▸ e40
      clear r14
      clear qO qF
      go_simp
      exact hK _ _ (Below.refl _ _) rfl
    exact BOk.nil
  intro vals wr hl hB hR
  match vals, hl with
  | [zb26, zb27, zb28, zb29, zb30, zb31, zb32, zb33, zb34, zb35, zb36, zb37, zb38, zb39, zb40, zb7, zb8, zb9], _ =>
  have r15 : zb7 = .bool l := hR 15 _ rfl
  subst r15
  have r16 : zb8 = .bool e := hR 16 _ rfl
  subst r16
  have r17 : zb9 = .bool m := hR 17 _ rfl
  subst r17
  clear hR
  simp only [List.cons_append, List.nil_append, putAll, Act.put, List.setIfInBounds_toArray, List.set_cons_zero, List.set_cons_succ]
  have k6 := k6.old hB
  have hbW := hbW.trans (hB.mono hbW.size)
  clear hB c40 c41 c50 c51 k4 k5
  go_wp2_with fail
  all_goals (
    refine (rtruth_any _ _).mono ?_
    rintro r w2 ⟨hr, hb2⟩
    have hr : r = .returned R.v := by
      rw [hr, ← HR.out]
      cases l <;> cases e <;> cases m <;> first | rfl | contradiction
    subst hr
    have k6 := k6.old hb2
    have hbW := hbW.trans (hb2.mono hbW.size)
    clear hb2
    obtain ⟨rk, rb⟩ := R
    simp only [V.v]
    have ⟨c0, c1, f0, f1⟩ := vcells k6
    have ⟨d0, d1, _, _⟩ := vcells (vput k6 (.int .i64 rk) (.int .u64 rb))
    go_wp2_with fail
    exact bodyPost_ret (v := .agg #[.int .i64 rk, .int .u64 rb]) (by simp [results, Try.results30, go_sem, d0, d1]) rfl ⟨rfl, (hbW.setCell (by simp; omega) _).setCell (by simp; omega) _⟩
    )
set_option maxRecDepth 100000 in
set_option maxHeartbeats 2000000 in
theorem rcmp_rn_12 (x y : V) (od : Int) (HO : Hid (∀ w : World, Calls Try.prog 39 #[.agg #[.int .i64 x.k, .int .u64 x.b], .agg #[.int .i64 y.k, .int .u64 y.b]] w fun e w' => e = .returned (.int .i64 od) ∧ Below w.heap.size w w')) (ho : od < 0) (l e m : Bool) (h4 : (x.k == 4) = true) (HL : Hid (∀ w : World, Calls Try.prog 40 #[.int .u64 x.b, .int .u64 y.b] w fun r w' => r = .returned (.bool l) ∧ w = w')) (HE : Hid (∀ w : World, Calls Try.prog 41 #[.int .u64 x.b, .int .u64 y.b] w fun r w' => r = .returned (.bool e) ∧ w = w')) (HM : Hid (∀ w : World, Calls Try.prog 40 #[.int .u64 y.b, .int .u64 x.b] w fun r w' => r = .returned (.bool m) ∧ w = w')) (w : World) : Calls Try.prog 30 #[.int .i64 12, .agg #[.int .i64 x.k, .int .u64 x.b], .agg #[.int .i64 y.k, .int .u64 y.b]] w fun z w' => z = .returned (yesV (holdsB 12 l e m)).v ∧ Below w.heap.size w w' := by
  generalize hR : yesV (holdsB 12 l e m) = R
  have HR := Lib.hid hR
  clear hR
  go_enter Try.func30, Try.ntmps30
  go_wp2_with fail
  have k4 : Bk (((w.alloc (.cells #[.int .i64 x.k, .int .u64 x.b] 33)).alloc (.cells #[.int .i64 y.k, .int .u64 y.b] 33)).alloc (.cells #[.int .i64 0, .int .u64 0] 33)) w.heap.size 33 #[.int .i64 x.k, .int .u64 x.b] := ((Bk.new w _ _).alloc _).alloc _
  have k5 : Bk (((w.alloc (.cells #[.int .i64 x.k, .int .u64 x.b] 33)).alloc (.cells #[.int .i64 y.k, .int .u64 y.b] 33)).alloc (.cells #[.int .i64 0, .int .u64 0] 33)) (w.heap.size + 1) 33 #[.int .i64 y.k, .int .u64 y.b] := (Bk.newAt (by simp) _ _).alloc _
  have k6 : Bk (((w.alloc (.cells #[.int .i64 x.k, .int .u64 x.b] 33)).alloc (.cells #[.int .i64 y.k, .int .u64 y.b] 33)).alloc (.cells #[.int .i64 0, .int .u64 0] 33)) (w.heap.size + 1 + 1) 33 #[.int .i64 0, .int .u64 0] := Bk.newAt (by simp) _ _
  have hbW : Below w.heap.size w (((w.alloc (.cells #[.int .i64 x.k, .int .u64 x.b] 33)).alloc (.cells #[.int .i64 y.k, .int .u64 y.b] 33)).alloc (.cells #[.int .i64 0, .int .u64 0] 33)) := (((Below.refl _ _).alloc (by simp) _).alloc (by simp) _).alloc (by simp; omega) _
  generalize ((w.alloc (.cells #[.int .i64 x.k, .int .u64 x.b] 33)).alloc (.cells #[.int .i64 y.k, .int .u64 y.b] 33)).alloc (.cells #[.int .i64 0, .int .u64 0] 33) = W at *
  have ⟨c40, c41, _, _⟩ := vcells k4
  have ⟨c50, c51, _, _⟩ := vcells k5
  refine wp_region_b (by kernel_rfl) (fun k => (cmpR1rn x y w od).getD k .any) (by kernel_rfl) ?_ ?_
  · refine BOk.cons rfl [] [4] rfl rfl (by kernel_rfl) (by kernel_rfl) (fun qK qa wr hB qO qF hK => ?_) ?_
    · have e4 : qa.tmps[4]? = some (.pointer (some ⟨w.heap.size, 0, none⟩)) := qO.1.trans rfl
      clear qO qF
      have hc40 := (bcell hB _ _ (World.block_lt_of_cell? _ _ c40)).trans c40
      have hc41 := (bcell hB _ _ (World.block_lt_of_cell? _ _ c41)).trans c41
      go_simp
      exact hK _ _ (Below.refl _ _) rfl
    refine BOk.cons rfl [] [5] rfl rfl (by kernel_rfl) (by kernel_rfl) (fun qK qa wr hB qO qF hK => ?_) ?_
    · have e5 : qa.tmps[5]? = some (.pointer (some ⟨w.heap.size + 1, 0, none⟩)) := qO.1.trans rfl
      clear qO qF
      have hc50 := (bcell hB _ _ (World.block_lt_of_cell? _ _ c50)).trans c50
      have hc51 := (bcell hB _ _ (World.block_lt_of_cell? _ _ c51)).trans c51
      go_simp
      exact hK _ _ (Below.refl _ _) rfl
    refine BOk.cons rfl [0, 1] [] rfl rfl (by kernel_rfl) (by kernel_rfl) (fun qK qa wr hB qO qF hK => ?_) ?_
    · obtain ⟨u10, e10, r0⟩ := qF.1
      have e10 : qa.tmps[10]? = some (.agg #[.int .i64 x.k, .int .u64 x.b]) := (show u10 = .agg #[.int .i64 x.k, .int .u64 x.b] from r0) ▸ e10
      clear r0
      obtain ⟨u11, e11, r1⟩ := qF.2.1
      have e11 : qa.tmps[11]? = some (.agg #[.int .i64 y.k, .int .u64 y.b]) := (show u11 = .agg #[.int .i64 y.k, .int .u64 y.b] from r1) ▸ e11
      clear r1
      clear qO qF
      go_simp
      go_at_call 39
      refine (HO.out _).mono ?_
      rintro e w2 ⟨rfl, hb2⟩
      exact hK _ _ hb2 rfl
    refine BOk.cons rfl [2] [] rfl rfl (by kernel_rfl) (by kernel_rfl) (fun qK qa wr hB qO qF hK => ?_) ?_
    · obtain ⟨u12, e12, r2⟩ := qF.1
      have e12 : qa.tmps[12]? = some (.int .i64 od) := (show u12 = .int .i64 od from r2) ▸ e12
      clear r2
      clear qO qF
      go_simp
      refine hK _ _ (Below.refl _ _) ?_
      show (_ : Value) = _
      first | rfl | (simp; done) | (simp; omega)
    refine BOk.cons rfl [] [4] rfl rfl (by kernel_rfl) (by kernel_rfl) (fun qK qa wr hB qO qF hK => ?_) ?_
    · have e4 : qa.tmps[4]? = some (.pointer (some ⟨w.heap.size, 0, none⟩)) := qO.1.trans rfl
      clear qO qF
      have hc40 := (bcell hB _ _ (World.block_lt_of_cell? _ _ c40)).trans c40
      have hc41 := (bcell hB _ _ (World.block_lt_of_cell? _ _ c41)).trans c41
      go_simp
      exact hK _ _ (Below.refl _ _) rfl
    refine BOk.cons rfl [] [5] rfl rfl (by kernel_rfl) (by kernel_rfl) (fun qK qa wr hB qO qF hK => ?_) ?_
    · have e5 : qa.tmps[5]? = some (.pointer (some ⟨w.heap.size + 1, 0, none⟩)) := qO.1.trans rfl
      clear qO qF
      have hc50 := (bcell hB _ _ (World.block_lt_of_cell? _ _ c50)).trans c50
      have hc51 := (bcell hB _ _ (World.block_lt_of_cell? _ _ c51)).trans c51
      go_simp
      exact hK _ _ (Below.refl _ _) rfl
    refine BOk.cons rfl [4, 5] [] rfl rfl (by kernel_rfl) (by kernel_rfl) (fun qK qa wr hB qO qF hK => ?_) ?_
    · obtain ⟨u14, e14, r4⟩ := qF.1
      have e14 : qa.tmps[14]? = some (.agg #[.int .i64 x.k, .int .u64 x.b]) := (show u14 = .agg #[.int .i64 x.k, .int .u64 x.b] from r4) ▸ e14
      clear r4
      obtain ⟨u15, e15, r5⟩ := qF.2.1
      have e15 : qa.tmps[15]? = some (.agg #[.int .i64 y.k, .int .u64 y.b]) := (show u15 = .agg #[.int .i64 y.k, .int .u64 y.b] from r5) ▸ e15
      clear r5
      clear qO qF
      go_simp
      repeat' split
      all_goals (refine hK _ _ (Below.refl _ _) ?_; show (_ : Value) = _; simp_all [eqV] <;> omega)
    refine BOk.cons rfl [3] [] rfl rfl (by kernel_rfl) (by kernel_rfl) (fun qK qa wr hB qO qF hK => ?_) ?_
    · obtain ⟨u13, e13, r3⟩ := qF.1
      have e13 : qa.tmps[13]? = some (.bool true) := (show u13 = .bool true from r3) ▸ e13
      clear r3
      clear qO qF
      go_simp
      exact hK _ _ (Below.refl _ _) rfl
    refine BOk.cons rfl [6] [] rfl rfl (by kernel_rfl) (by kernel_rfl) (fun qK qa wr hB qO qF hK => ?_) ?_
    · obtain ⟨u16, e16, r6⟩ := qF.1
      have e16 : qa.tmps[16]? = some (.bool (eqV x y)) := (show u16 = .bool (eqV x y) from r6) ▸ e16
      clear r6
      clear qO qF
      go_simp
      exact hK _ _ (Below.refl _ _) rfl
    exact BOk.nil
  intro vals wr hl hB hR
  match vals, hl with
  | [za10, za11, za12, za13, za14, za15, za16, za7, za8], _ =>
  have r7 : za7 = .bool true := hR 7 _ rfl
  subst r7
  have r8 : za8 = .bool (eqV x y) := hR 8 _ rfl
  subst r8
  clear hR
  simp only [List.cons_append, List.nil_append, putAll, Act.put, List.setIfInBounds_toArray, List.set_cons_zero, List.set_cons_succ]
  have k4 := k4.old hB
  have k5 := k5.old hB
  have k6 := k6.old hB
  have hbW := hbW.trans (hB.mono hbW.size)
  clear hB c40 c41 c50 c51
  have ⟨c40, c41, _, _⟩ := vcells k4
  have ⟨c50, c51, _, _⟩ := vcells k5
  go_wp2_with fail
  refine wp_region_b (by kernel_rfl) (fun k => (cmpR4rn x y w l e m).getD k .any) (by kernel_rfl) ?_ ?_
  · refine BOk.cons rfl [] [4] rfl rfl (by kernel_rfl) (by kernel_rfl) (fun qK qa wr hB qO qF hK => ?_) ?_
    · have e4 : qa.tmps[4]? = some (.pointer (some ⟨w.heap.size, 0, none⟩)) := qO.1.trans rfl
      clear qO qF
      go_simp
      exact hK _ _ (Below.refl _ _) rfl
    refine BOk.cons rfl [0] [] rfl rfl (by kernel_rfl) (by kernel_rfl) (fun qK qa wr hB qO qF hK => ?_) ?_
    · obtain ⟨u26, e26, r0⟩ := qF.1
      have e26 : qa.tmps[26]? = some (.pointer (some ⟨w.heap.size, 1, none⟩)) := (show u26 = .pointer (some ⟨w.heap.size, 1, none⟩) from r0) ▸ e26
      clear r0
      clear qO qF
      have hc41 := (bcell hB _ _ (World.block_lt_of_cell? _ _ c41)).trans c41
      go_simp
      exact hK _ _ (Below.refl _ _) rfl
    refine BOk.cons rfl [] [5] rfl rfl (by kernel_rfl) (by kernel_rfl) (fun qK qa wr hB qO qF hK => ?_) ?_
    · have e5 : qa.tmps[5]? = some (.pointer (some ⟨w.heap.size + 1, 0, none⟩)) := qO.1.trans rfl
      clear qO qF
      go_simp
      exact hK _ _ (Below.refl _ _) rfl
    refine BOk.cons rfl [2] [] rfl rfl (by kernel_rfl) (by kernel_rfl) (fun qK qa wr hB qO qF hK => ?_) ?_
    · obtain ⟨u28, e28, r2⟩ := qF.1
      have e28 : qa.tmps[28]? = some (.pointer (some ⟨w.heap.size + 1, 1, none⟩)) := (show u28 = .pointer (some ⟨w.heap.size + 1, 1, none⟩) from r2) ▸ e28
      clear r2
      clear qO qF
      have hc51 := (bcell hB _ _ (World.block_lt_of_cell? _ _ c51)).trans c51
      go_simp
      exact hK _ _ (Below.refl _ _) rfl
    refine BOk.cons rfl [1, 3] [] rfl rfl (by kernel_rfl) (by kernel_rfl) (fun qK qa wr hB qO qF hK => ?_) ?_
    · obtain ⟨u27, e27, r1⟩ := qF.1
      have e27 : qa.tmps[27]? = some (.int .u64 x.b) := (show u27 = .int .u64 x.b from r1) ▸ e27
      clear r1
      obtain ⟨u29, e29, r3⟩ := qF.2.1
      have e29 : qa.tmps[29]? = some (.int .u64 y.b) := (show u29 = .int .u64 y.b from r3) ▸ e29
      clear r3
      clear qO qF
      go_simp
      go_at_call 40
      refine (HL.out _).mono ?_
      rintro e w2 ⟨rfl, rfl⟩
      exact hK _ _ (Below.refl _ _) rfl
    refine BOk.cons rfl [] [4] rfl rfl (by kernel_rfl) (by kernel_rfl) (fun qK qa wr hB qO qF hK => ?_) ?_
    · have e4 : qa.tmps[4]? = some (.pointer (some ⟨w.heap.size, 0, none⟩)) := qO.1.trans rfl
      clear qO qF
      go_simp
      exact hK _ _ (Below.refl _ _) rfl
    refine BOk.cons rfl [5] [] rfl rfl (by kernel_rfl) (by kernel_rfl) (fun qK qa wr hB qO qF hK => ?_) ?_
    · obtain ⟨u31, e31, r5⟩ := qF.1
      have e31 : qa.tmps[31]? = some (.pointer (some ⟨w.heap.size, 1, none⟩)) := (show u31 = .pointer (some ⟨w.heap.size, 1, none⟩) from r5) ▸ e31
      clear r5
      clear qO qF
      have hc41 := (bcell hB _ _ (World.block_lt_of_cell? _ _ c41)).trans c41
      go_simp
      exact hK _ _ (Below.refl _ _) rfl
    refine BOk.cons rfl [] [5] rfl rfl (by kernel_rfl) (by kernel_rfl) (fun qK qa wr hB qO qF hK => ?_) ?_
    · have e5 : qa.tmps[5]? = some (.pointer (some ⟨w.heap.size + 1, 0, none⟩)) := qO.1.trans rfl
      clear qO qF
      go_simp
      exact hK _ _ (Below.refl _ _) rfl
    refine BOk.cons rfl [7] [] rfl rfl (by kernel_rfl) (by kernel_rfl) (fun qK qa wr hB qO qF hK => ?_) ?_
    · obtain ⟨u33, e33, r7⟩ := qF.1
      have e33 : qa.tmps[33]? = some (.pointer (some ⟨w.heap.size + 1, 1, none⟩)) := (show u33 = .pointer (some ⟨w.heap.size + 1, 1, none⟩) from r7) ▸ e33
      clear r7
      clear qO qF
      have hc51 := (bcell hB _ _ (World.block_lt_of_cell? _ _ c51)).trans c51
      go_simp
      exact hK _ _ (Below.refl _ _) rfl
    refine BOk.cons rfl [6, 8] [] rfl rfl (by kernel_rfl) (by kernel_rfl) (fun qK qa wr hB qO qF hK => ?_) ?_
    · obtain ⟨u32, e32, r6⟩ := qF.1
      have e32 : qa.tmps[32]? = some (.int .u64 x.b) := (show u32 = .int .u64 x.b from r6) ▸ e32
      clear r6
      obtain ⟨u34, e34, r8⟩ := qF.2.1
      have e34 : qa.tmps[34]? = some (.int .u64 y.b) := (show u34 = .int .u64 y.b from r8) ▸ e34
      clear r8
      clear qO qF
      go_simp
      go_at_call 41
      refine (HE.out _).mono ?_
      rintro e0 w2 ⟨rfl, rfl⟩
      exact hK _ _ (Below.refl _ _) rfl
    refine BOk.cons rfl [] [5] rfl rfl (by kernel_rfl) (by kernel_rfl) (fun qK qa wr hB qO qF hK => ?_) ?_
    · have e5 : qa.tmps[5]? = some (.pointer (some ⟨w.heap.size + 1, 0, none⟩)) := qO.1.trans rfl
      clear qO qF
      go_simp
      exact hK _ _ (Below.refl _ _) rfl
    refine BOk.cons rfl [10] [] rfl rfl (by kernel_rfl) (by kernel_rfl) (fun qK qa wr hB qO qF hK => ?_) ?_
    · obtain ⟨u36, e36, r10⟩ := qF.1
      have e36 : qa.tmps[36]? = some (.pointer (some ⟨w.heap.size + 1, 1, none⟩)) := (show u36 = .pointer (some ⟨w.heap.size + 1, 1, none⟩) from r10) ▸ e36
      clear r10
      clear qO qF
      have hc51 := (bcell hB _ _ (World.block_lt_of_cell? _ _ c51)).trans c51
      go_simp
      exact hK _ _ (Below.refl _ _) rfl
    refine BOk.cons rfl [] [4] rfl rfl (by kernel_rfl) (by kernel_rfl) (fun qK qa wr hB qO qF hK => ?_) ?_
    · have e4 : qa.tmps[4]? = some (.pointer (some ⟨w.heap.size, 0, none⟩)) := qO.1.trans rfl
      clear qO qF
      go_simp
      exact hK _ _ (Below.refl _ _) rfl
    refine BOk.cons rfl [12] [] rfl rfl (by kernel_rfl) (by kernel_rfl) (fun qK qa wr hB qO qF hK => ?_) ?_
    · obtain ⟨u38, e38, r12⟩ := qF.1
      have e38 : qa.tmps[38]? = some (.pointer (some ⟨w.heap.size, 1, none⟩)) := (show u38 = .pointer (some ⟨w.heap.size, 1, none⟩) from r12) ▸ e38
      clear r12
      clear qO qF
      have hc41 := (bcell hB _ _ (World.block_lt_of_cell? _ _ c41)).trans c41
      go_simp
      exact hK _ _ (Below.refl _ _) rfl
    refine BOk.cons rfl [11, 13] [] rfl rfl (by kernel_rfl) (by kernel_rfl) (fun qK qa wr hB qO qF hK => ?_) ?_
    · obtain ⟨u37, e37, r11⟩ := qF.1
      have e37 : qa.tmps[37]? = some (.int .u64 y.b) := (show u37 = .int .u64 y.b from r11) ▸ e37
      clear r11
      obtain ⟨u39, e39, r13⟩ := qF.2.1
      have e39 : qa.tmps[39]? = some (.int .u64 x.b) := (show u39 = .int .u64 x.b from r13) ▸ e39
      clear r13
      clear qO qF
      go_simp
      go_at_call 40
      refine (HM.out _).mono ?_
      rintro e w2 ⟨rfl, rfl⟩
      exact hK _ _ (Below.refl _ _) rfl
    refine BOk.cons rfl [4] [] rfl rfl (by kernel_rfl) (by kernel_rfl) (fun qK qa wr hB qO qF hK => ?_) ?_
    · obtain ⟨u30, e30, r4⟩ := qF.1
      have e30 : qa.tmps[30]? = some (.bool l) := (show u30 = .bool l from r4) ▸ e30
      clear r4
      clear qO qF
      go_simp
      exact hK _ _ (Below.refl _ _) rfl
    refine BOk.cons rfl [9] [] rfl rfl (by kernel_rfl) (by kernel_rfl) (fun qK qa wr hB qO qF hK => ?_) ?_
    · obtain ⟨u35, e35, r9⟩ := qF.1
      have e35 : qa.tmps[35]? = some (.bool e) := (show u35 = .bool e from r9) ▸ e35
      clear r9
      clear qO qF
      go_simp
      exact hK _ _ (Below.refl _ _) rfl
    refine BOk.cons rfl [14] [] rfl rfl (by kernel_rfl) (by kernel_rfl) (fun qK qa wr hB qO qF hK => ?_) ?_
    · obtain ⟨u40, e40, r14⟩ := qF.1
      have e40 : qa.tmps[40]? = some (.bool m) := (show u40 = .bool m from r14) ▸ e40
      clear r14
      clear qO qF
      go_simp
      exact hK _ _ (Below.refl _ _) rfl
    exact BOk.nil
  intro vals wr hl hB hR
  match vals, hl with
  | [zb26, zb27, zb28, zb29, zb30, zb31, zb32, zb33, zb34, zb35, zb36, zb37, zb38, zb39, zb40, zb7, zb8, zb9], _ =>
  have r15 : zb7 = .bool l := hR 15 _ rfl
  subst r15
  have r16 : zb8 = .bool e := hR 16 _ rfl
  subst r16
  have r17 : zb9 = .bool m := hR 17 _ rfl
  subst r17
  clear hR
  simp only [List.cons_append, List.nil_append, putAll, Act.put, List.setIfInBounds_toArray, List.set_cons_zero, List.set_cons_succ]
  have k6 := k6.old hB
  have hbW := hbW.trans (hB.mono hbW.size)
  clear hB c40 c41 c50 c51 k4 k5
  go_wp2_with fail
  all_goals (
    refine (rtruth_any _ _).mono ?_
    rintro r w2 ⟨hr, hb2⟩
    have hr : r = .returned R.v := by
      rw [hr, ← HR.out]
      cases l <;> cases e <;> cases m <;> first | rfl | contradiction
    subst hr
    have k6 := k6.old hb2
    have hbW := hbW.trans (hb2.mono hbW.size)
    clear hb2
    obtain ⟨rk, rb⟩ := R
    simp only [V.v]
    have ⟨c0, c1, f0, f1⟩ := vcells k6
    have ⟨d0, d1, _, _⟩ := vcells (vput k6 (.int .i64 rk) (.int .u64 rb))
    go_wp2_with fail
    exact bodyPost_ret (v := .agg #[.int .i64 rk, .int .u64 rb]) (by simp [results, Try.results30, go_sem, d0, d1]) rfl ⟨rfl, (hbW.setCell (by simp; omega) _).setCell (by simp; omega) _⟩
    )
end Go.Proofs.Ytkfpmoilfillmaa
