/- Cases of the walk of the document's compare. No conditions. -/
import Derived.Test.YtkfpmoilfillmaaValY0
import Derived.Deep.DeepCutAuto
namespace Go.Proofs.Ytkfpmoilfillmaa
open Go.RowKit
set_option linter.unusedSimpArgs false
set_option linter.unusedVariables false

def cmpR1in (x y : V) (w : World) (od : Int) : List Spec := [.is (.agg #[.int .i64 x.k, .int .u64 x.b]),
  .is (.agg #[.int .i64 y.k, .int .u64 y.b]),
  .is (.int .i64 od),
  .is (.bool true),
  .is (.agg #[.int .i64 x.k, .int .u64 x.b]),
  .is (.agg #[.int .i64 y.k, .int .u64 y.b]),
  .is (.bool (eqV x y)),
  .is (.bool true),
  .is (.bool (eqV x y))]
set_option maxRecDepth 100000 in
set_option maxHeartbeats 2000000 in
theorem rcmp_in_7 (x y : V) (od : Int) (HO : Hid (∀ w : World, Calls Try.prog 39 #[.agg #[.int .i64 x.k, .int .u64 x.b], .agg #[.int .i64 y.k, .int .u64 y.b]] w fun e w' => e = .returned (.int .i64 od) ∧ Below w.heap.size w w')) (ho : od < 0) (e : Bool) (he : eqV x y = e) (h4 : (x.k == 4) = false) (w : World) : Calls Try.prog 30 #[.int .i64 7, .agg #[.int .i64 x.k, .int .u64 x.b], .agg #[.int .i64 y.k, .int .u64 y.b]] w fun z w' => z = .returned (yesV (holdsB 7 true e false)).v ∧ Below w.heap.size w w' := by
  generalize hR : yesV (holdsB 7 true e false) = R
  have HR := Lib.hid hR
  clear hR
  have HEQ := Lib.hid he
  clear he
  go_enter Try.func30, Try.ntmps30
  go_wp2_with fail
  have k4 : Bk (((w.alloc (.cells #[.int .i64 x.k, .int .u64 x.b] 33)).alloc (.cells #[.int .i64 y.k, .int .u64 y.b] 33)).alloc (.cells #[.int .i64 0, .int .u64 0] 33)) w.heap.size 33 #[.int .i64 x.k, .int .u64 x.b] := ((Bk.new w _ _).alloc _).alloc _
  have k5 : Bk (((w.alloc (.cells #[.int .i64 x.k, .int .u64 x.b] 33)).alloc (.cells #[.int .i64 y.k, .int .u64 y.b] 33)).alloc (.cells #[.int .i64 0, .int .u64 0] 33)) (w.heap.size + 1) 33 #[.int .i64 y.k, .int .u64 y.b] := (Bk.newAt (by simp) _ _).alloc _
  have k6 : Bk (((w.alloc (.cells #[.int .i64 x.k, .int .u64 x.b] 33)).alloc (.cells #[.int .i64 y.k, .int .u64 y.b] 33)).alloc (.cells #[.int .i64 0, .int .u64 0] 33)) (w.heap.size + 1 + 1) 33 #[.int .i64 0, .int .u64 0] := Bk.newAt (by simp) _ _
  have hbW : Below w.heap.size w (((w.alloc (.cells #[.int .i64 x.k, .int .u64 x.b] 33)).alloc (.cells #[.int .i64 y.k, .int .u64 y.b] 33)).alloc (.cells #[.int .i64 0, .int .u64 0] 33)) := (((Below.refl _ _).alloc (by simp) _).alloc (by simp) _).alloc (by simp; omega) _
  generalize ((w.alloc (.cells #[.int .i64 x.k, .int .u64 x.b] 33)).alloc (.cells #[.int .i64 y.k, .int .u64 y.b] 33)).alloc (.cells #[.int .i64 0, .int .u64 0] 33) = W at *
  have ⟨c40, c41, _, _⟩ := vcells k4
  have ⟨c50, c51, _, _⟩ := vcells k5
  refine wp_region_b (by kernel_rfl) (fun k => (cmpR1in x y w od).getD k .any) (by kernel_rfl) ?_ ?_
  · refine BOk.cons rfl [] [4] rfl rfl (by kernel_rfl) (by kernel_rfl) (fun qK qa wr hB qO qF hK => ?_) ?_
    · have e4 : qa.tmps[4]? = some (.pointer (some ⟨w.heap.size, 0, none⟩)) := qO.1.trans rfl
      clear qO qF
      have hc40 := (bcell hB _ _ (World.block_lt_of_cell? _ _ c40)).trans c40
      have hc41 := (bcell hB _ _ (World.block_lt_of_cell? _ _ c41)).trans c41
      go_simp
      exact hK _ _ (Below.refl _ _) rfl
    refine BOk.cons rfl [] [5] rfl rfl (by kernel_rfl) (by kernel_rfl) (fun qK qa wr hB qO qF hK => ?_) ?_
    · have e5 : qa.tmps[5]? = some (.pointer (some ⟨w.heap.size + 1, 0, none⟩)) := qO.1.trans rfl
      clear qO qF
      have hc50 := (bcell hB _ _ (World.block_lt_of_cell? _ _ c50)).trans c50
      have hc51 := (bcell hB _ _ (World.block_lt_of_cell? _ _ c51)).trans c51
      go_simp
      exact hK _ _ (Below.refl _ _) rfl
    refine BOk.cons rfl [0, 1] [] rfl rfl (by kernel_rfl) (by kernel_rfl) (fun qK qa wr hB qO qF hK => ?_) ?_
    · obtain ⟨u10, e10, r0⟩ := qF.1
      have e10 : qa.tmps[10]? = some (.agg #[.int .i64 x.k, .int .u64 x.b]) := (show u10 = .agg #[.int .i64 x.k, .int .u64 x.b] from r0) ▸ e10
      clear r0
      obtain ⟨u11, e11, r1⟩ := qF.2.1
      have e11 : qa.tmps[11]? = some (.agg #[.int .i64 y.k, .int .u64 y.b]) := (show u11 = .agg #[.int .i64 y.k, .int .u64 y.b] from r1) ▸ e11
      clear r1
      clear qO qF
      go_simp
      go_at_call 39
      refine (HO.out _).mono ?_
      rintro e w2 ⟨rfl, hb2⟩
      exact hK _ _ hb2 rfl
    refine BOk.cons rfl [2] [] rfl rfl (by kernel_rfl) (by kernel_rfl) (fun qK qa wr hB qO qF hK => ?_) ?_
    · obtain ⟨u12, e12, r2⟩ := qF.1
      have e12 : qa.tmps[12]? = some (.int .i64 od) := (show u12 = .int .i64 od from r2) ▸ e12
      clear r2
      clear qO qF
      go_simp
      refine hK _ _ (Below.refl _ _) ?_
      show (_ : Value) = _
      first | rfl | (simp; done) | (simp; omega)
    refine BOk.cons rfl [] [4] rfl rfl (by kernel_rfl) (by kernel_rfl) (fun qK qa wr hB qO qF hK => ?_) ?_
    · have e4 : qa.tmps[4]? = some (.pointer (some ⟨w.heap.size, 0, none⟩)) := qO.1.trans rfl
      clear qO qF
      have hc40 := (bcell hB _ _ (World.block_lt_of_cell? _ _ c40)).trans c40
      have hc41 := (bcell hB _ _ (World.block_lt_of_cell? _ _ c41)).trans c41
      go_simp
      exact hK _ _ (Below.refl _ _) rfl
    refine BOk.cons rfl [] [5] rfl rfl (by kernel_rfl) (by kernel_rfl) (fun qK qa wr hB qO qF hK => ?_) ?_
    · have e5 : qa.tmps[5]? = some (.pointer (some ⟨w.heap.size + 1, 0, none⟩)) := qO.1.trans rfl
      clear qO qF
      have hc50 := (bcell hB _ _ (World.block_lt_of_cell? _ _ c50)).trans c50
      have hc51 := (bcell hB _ _ (World.block_lt_of_cell? _ _ c51)).trans c51
      go_simp
      exact hK _ _ (Below.refl _ _) rfl
    refine BOk.cons rfl [4, 5] [] rfl rfl (by kernel_rfl) (by kernel_rfl) (fun qK qa wr hB qO qF hK => ?_) ?_
    · obtain ⟨u14, e14, r4⟩ := qF.1
      have e14 : qa.tmps[14]? = some (.agg #[.int .i64 x.k, .int .u64 x.b]) := (show u14 = .agg #[.int .i64 x.k, .int .u64 x.b] from r4) ▸ e14
      clear r4
      obtain ⟨u15, e15, r5⟩ := qF.2.1
      have e15 : qa.tmps[15]? = some (.agg #[.int .i64 y.k, .int .u64 y.b]) := (show u15 = .agg #[.int .i64 y.k, .int .u64 y.b] from r5) ▸ e15
      clear r5
      clear qO qF
      go_simp
      repeat' split
      all_goals (refine hK _ _ (Below.refl _ _) ?_; show (_ : Value) = _; simp_all [eqV] <;> omega)
    refine BOk.cons rfl [3] [] rfl rfl (by kernel_rfl) (by kernel_rfl) (fun qK qa wr hB qO qF hK => ?_) ?_
    · obtain ⟨u13, e13, r3⟩ := qF.1
      have e13 : qa.tmps[13]? = some (.bool true) := (show u13 = .bool true from r3) ▸ e13
      clear r3
      clear qO qF
      go_simp
      exact hK _ _ (Below.refl _ _) rfl
    refine BOk.cons rfl [6] [] rfl rfl (by kernel_rfl) (by kernel_rfl) (fun qK qa wr hB qO qF hK => ?_) ?_
    · obtain ⟨u16, e16, r6⟩ := qF.1
      have e16 : qa.tmps[16]? = some (.bool (eqV x y)) := (show u16 = .bool (eqV x y) from r6) ▸ e16
      clear r6
      clear qO qF
      go_simp
      exact hK _ _ (Below.refl _ _) rfl
    exact BOk.nil
  intro vals wr hl hB hR
  match vals, hl with
  | [za10, za11, za12, za13, za14, za15, za16, za7, za8], _ =>
  have r7 : za7 = .bool true := hR 7 _ rfl
  subst r7
  have r8 : za8 = .bool (eqV x y) := hR 8 _ rfl
  subst r8
  clear hR
  simp only [List.cons_append, List.nil_append, putAll, Act.put, List.setIfInBounds_toArray, List.set_cons_zero, List.set_cons_succ]
  have k4 := k4.old hB
  have k5 := k5.old hB
  have k6 := k6.old hB
  have hbW := hbW.trans (hB.mono hbW.size)
  clear hB c40 c41 c50 c51
  have ⟨c40, c41, _, _⟩ := vcells k4
  have ⟨c50, c51, _, _⟩ := vcells k5
  rw [HEQ.out]
  go_wp2_with fail
  all_goals (
    refine (rtruth_any _ _).mono ?_
    rintro r w2 ⟨hr, hb2⟩
    have hr : r = .returned R.v := by
      rw [hr, ← HR.out]
      cases e <;> first | rfl | contradiction
    subst hr
    have k6 := k6.old hb2
    have hbW := hbW.trans (hb2.mono hbW.size)
    clear hb2
    obtain ⟨rk, rb⟩ := R
    simp only [V.v]
    have ⟨c0, c1, f0, f1⟩ := vcells k6
    have ⟨d0, d1, _, _⟩ := vcells (vput k6 (.int .i64 rk) (.int .u64 rb))
    go_wp2_with fail
    exact bodyPost_ret (v := .agg #[.int .i64 rk, .int .u64 rb]) (by simp [results, Try.results30, go_sem, d0, d1]) rfl ⟨rfl, (hbW.setCell (by simp; omega) _).setCell (by simp; omega) _⟩
    )
set_option maxRecDepth 100000 in
set_option maxHeartbeats 2000000 in
theorem rcmp_in_8 (x y : V) (od : Int) (HO : Hid (∀ w : World, Calls Try.prog 39 #[.agg #[.int .i64 x.k, .int .u64 x.b], .agg #[.int .i64 y.k, .int .u64 y.b]] w fun e w' => e = .returned (.int .i64 od) ∧ Below w.heap.size w w')) (ho : od < 0) (e : Bool) (he : eqV x y = e) (h4 : (x.k == 4) = false) (w : World) : Calls Try.prog 30 #[.int .i64 8, .agg #[.int .i64 x.k, .int .u64 x.b], .agg #[.int .i64 y.k, .int .u64 y.b]] w fun z w' => z = .returned (yesV (holdsB 8 true e false)).v ∧ Below w.heap.size w w' := by
  generalize hR : yesV (holdsB 8 true e false) = R
  have HR := Lib.hid hR
  clear hR
  have HEQ := Lib.hid he
  clear he
  go_enter Try.func30, Try.ntmps30
  go_wp2_with fail
  have k4 : Bk (((w.alloc (.cells #[.int .i64 x.k, .int .u64 x.b] 33)).alloc (.cells #[.int .i64 y.k, .int .u64 y.b] 33)).alloc (.cells #[.int .i64 0, .int .u64 0] 33)) w.heap.size 33 #[.int .i64 x.k, .int .u64 x.b] := ((Bk.new w _ _).alloc _).alloc _
  have k5 : Bk (((w.alloc (.cells #[.int .i64 x.k, .int .u64 x.b] 33)).alloc (.cells #[.int .i64 y.k, .int .u64 y.b] 33)).alloc (.cells #[.int .i64 0, .int .u64 0] 33)) (w.heap.size + 1) 33 #[.int .i64 y.k, .int .u64 y.b] := (Bk.newAt (by simp) _ _).alloc _
  have k6 : Bk (((w.alloc (.cells #[.int .i64 x.k, .int .u64 x.b] 33)).alloc (.cells #[.int .i64 y.k, .int .u64 y.b] 33)).alloc (.cells #[.int .i64 0, .int .u64 0] 33)) (w.heap.size + 1 + 1) 33 #[.int .i64 0, .int .u64 0] := Bk.newAt (by simp) _ _
  have hbW : Below w.heap.size w (((w.alloc (.cells #[.int .i64 x.k, .int .u64 x.b] 33)).alloc (.cells #[.int .i64 y.k, .int .u64 y.b] 33)).alloc (.cells #[.int .i64 0, .int .u64 0] 33)) := (((Below.refl _ _).alloc (by simp) _).alloc (by simp) _).alloc (by simp; omega) _
  generalize ((w.alloc (.cells #[.int .i64 x.k, .int .u64 x.b] 33)).alloc (.cells #[.int .i64 y.k, .int .u64 y.b] 33)).alloc (.cells #[.int .i64 0, .int .u64 0] 33) = W at *
  have ⟨c40, c41, _, _⟩ := vcells k4
  have ⟨c50, c51, _, _⟩ := vcells k5
  refine wp_region_b (by kernel_rfl) (fun k => (cmpR1in x y w od).getD k .any) (by kernel_rfl) ?_ ?_
  · refine BOk.cons rfl [] [4] rfl rfl (by kernel_rfl) (by kernel_rfl) (fun qK qa wr hB qO qF hK => ?_) ?_
    · have e4 : qa.tmps[4]? = some (.pointer (some ⟨w.heap.size, 0, none⟩)) := qO.1.trans rfl
      clear qO qF
      have hc40 := (bcell hB _ _ (World.block_lt_of_cell? _ _ c40)).trans c40
      have hc41 := (bcell hB _ _ (World.block_lt_of_cell? _ _ c41)).trans c41
      go_simp
      exact hK _ _ (Below.refl _ _) rfl
    refine BOk.cons rfl [] [5] rfl rfl (by kernel_rfl) (by kernel_rfl) (fun qK qa wr hB qO qF hK => ?_) ?_
    · have e5 : qa.tmps[5]? = some (.pointer (some ⟨w.heap.size + 1, 0, none⟩)) := qO.1.trans rfl
      clear qO qF
      have hc50 := (bcell hB _ _ (World.block_lt_of_cell? _ _ c50)).trans c50
      have hc51 := (bcell hB _ _ (World.block_lt_of_cell? _ _ c51)).trans c51
      go_simp
      exact hK _ _ (Below.refl _ _) rfl
    refine BOk.cons rfl [0, 1] [] rfl rfl (by kernel_rfl) (by kernel_rfl) (fun qK qa wr hB qO qF hK => ?_) ?_
    · obtain ⟨u10, e10, r0⟩ := qF.1
      have e10 : qa.tmps[10]? = some (.agg #[.int .i64 x.k, .int .u64 x.b]) := (show u10 = .agg #[.int .i64 x.k, .int .u64 x.b] from r0) ▸ e10
      clear r0
      obtain ⟨u11, e11, r1⟩ := qF.2.1
      have e11 : qa.tmps[11]? = some (.agg #[.int .i64 y.k, .int .u64 y.b]) := (show u11 = .agg #[.int .i64 y.k, .int .u64 y.b] from r1) ▸ e11
      clear r1
      clear qO qF
      go_simp
      go_at_call 39
      refine (HO.out _).mono ?_
      rintro e w2 ⟨rfl, hb2⟩
      exact hK _ _ hb2 rfl
    refine BOk.cons rfl [2] [] rfl rfl (by kernel_rfl) (by kernel_rfl) (fun qK qa wr hB qO qF hK => ?_) ?_
    · obtain ⟨u12, e12, r2⟩ := qF.1
      have e12 : qa.tmps[12]? = some (.int .i64 od) := (show u12 = .int .i64 od from r2) ▸ e12
      clear r2
      clear qO qF
      go_simp
      refine hK _ _ (Below.refl _ _) ?_
      show (_ : Value) = _
      first | rfl | (simp; done) | (simp; omega)
    refine BOk.cons rfl [] [4] rfl rfl (by kernel_rfl) (by kernel_rfl) (fun qK qa wr hB qO qF hK => ?_) ?_
    · have e4 : qa.tmps[4]? = some (.pointer (some ⟨w.heap.size, 0, none⟩)) := qO.1.trans rfl
      clear qO qF
      have hc40 := (bcell hB _ _ (World.block_lt_of_cell? _ _ c40)).trans c40
      have hc41 := (bcell hB _ _ (World.block_lt_of_cell? _ _ c41)).trans c41
      go_simp
      exact hK _ _ (Below.refl _ _) rfl
    refine BOk.cons rfl [] [5] rfl rfl (by kernel_rfl) (by kernel_rfl) (fun qK qa wr hB qO qF hK => ?_) ?_
    · have e5 : qa.tmps[5]? = some (.pointer (some ⟨w.heap.size + 1, 0, none⟩)) := qO.1.trans rfl
      clear qO qF
      have hc50 := (bcell hB _ _ (World.block_lt_of_cell? _ _ c50)).trans c50
      have hc51 := (bcell hB _ _ (World.block_lt_of_cell? _ _ c51)).trans c51
      go_simp
      exact hK _ _ (Below.refl _ _) rfl
    refine BOk.cons rfl [4, 5] [] rfl rfl (by kernel_rfl) (by kernel_rfl) (fun qK qa wr hB qO qF hK => ?_) ?_
    · obtain ⟨u14, e14, r4⟩ := qF.1
      have e14 : qa.tmps[14]? = some (.agg #[.int .i64 x.k, .int .u64 x.b]) := (show u14 = .agg #[.int .i64 x.k, .int .u64 x.b] from r4) ▸ e14
      clear r4
      obtain ⟨u15, e15, r5⟩ := qF.2.1
      have e15 : qa.tmps[15]? = some (.agg #[.int .i64 y.k, .int .u64 y.b]) := (show u15 = .agg #[.int .i64 y.k, .int .u64 y.b] from r5) ▸ e15
      clear r5
      clear qO qF
      go_simp
      repeat' split
      all_goals (refine hK _ _ (Below.refl _ _) ?_; show (_ : Value) = _; simp_all [eqV] <;> omega)
    refine BOk.cons rfl [3] [] rfl rfl (by kernel_rfl) (by kernel_rfl) (fun qK qa wr hB qO qF hK => ?_) ?_
    · obtain ⟨u13, e13, r3⟩ := qF.1
      have e13 : qa.tmps[13]? = some (.bool true) := (show u13 = .bool true from r3) ▸ e13
      clear r3
      clear qO qF
      go_simp
      exact hK _ _ (Below.refl _ _) rfl
    refine BOk.cons rfl [6] [] rfl rfl (by kernel_rfl) (by kernel_rfl) (fun qK qa wr hB qO qF hK => ?_) ?_
    · obtain ⟨u16, e16, r6⟩ := qF.1
      have e16 : qa.tmps[16]? = some (.bool (eqV x y)) := (show u16 = .bool (eqV x y) from r6) ▸ e16
      clear r6
      clear qO qF
      go_simp
      exact hK _ _ (Below.refl _ _) rfl
    exact BOk.nil
  intro vals wr hl hB hR
  match vals, hl with
  | [za10, za11, za12, za13, za14, za15, za16, za7, za8], _ =>
  have r7 : za7 = .bool true := hR 7 _ rfl
  subst r7
  have r8 : za8 = .bool (eqV x y) := hR 8 _ rfl
  subst r8
  clear hR
  simp only [List.cons_append, List.nil_append, putAll, Act.put, List.setIfInBounds_toArray, List.set_cons_zero, List.set_cons_succ]
  have k4 := k4.old hB
  have k5 := k5.old hB
  have k6 := k6.old hB
  have hbW := hbW.trans (hB.mono hbW.size)
  clear hB c40 c41 c50 c51
  have ⟨c40, c41, _, _⟩ := vcells k4
  have ⟨c50, c51, _, _⟩ := vcells k5
  rw [HEQ.out]
  go_wp2_with fail
  all_goals (
    refine (rtruth_any _ _).mono ?_
    rintro r w2 ⟨hr, hb2⟩
    have hr : r = .returned R.v := by
      rw [hr, ← HR.out]
      cases e <;> first | rfl | contradiction
    subst hr
    have k6 := k6.old hb2
    have hbW := hbW.trans (hb2.mono hbW.size)
    clear hb2
    obtain ⟨rk, rb⟩ := R
    simp only [V.v]
    have ⟨c0, c1, f0, f1⟩ := vcells k6
    have ⟨d0, d1, _, _⟩ := vcells (vput k6 (.int .i64 rk) (.int .u64 rb))
    go_wp2_with fail
    exact bodyPost_ret (v := .agg #[.int .i64 rk, .int .u64 rb]) (by simp [results, Try.results30, go_sem, d0, d1]) rfl ⟨rfl, (hbW.setCell (by simp; omega) _).setCell (by simp; omega) _⟩
    )
set_option maxRecDepth 100000 in
set_option maxHeartbeats 2000000 in
theorem rcmp_in_9 (x y : V) (od : Int) (HO : Hid (∀ w : World, Calls Try.prog 39 #[.agg #[.int .i64 x.k, .int .u64 x.b], .agg #[.int .i64 y.k, .int .u64 y.b]] w fun e w' => e = .returned (.int .i64 od) ∧ Below w.heap.size w w')) (ho : od < 0) (e : Bool) (he : eqV x y = e) (h4 : (x.k == 4) = false) (w : World) : Calls Try.prog 30 #[.int .i64 9, .agg #[.int .i64 x.k, .int .u64 x.b], .agg #[.int .i64 y.k, .int .u64 y.b]] w fun z w' => z = .returned (yesV (holdsB 9 true e false)).v ∧ Below w.heap.size w w' := by
  generalize hR : yesV (holdsB 9 true e false) = R
  have HR := Lib.hid hR
  clear hR
  have HEQ := Lib.hid he
  clear he
  go_enter Try.func30, Try.ntmps30
  go_wp2_with fail
  have k4 : Bk (((w.alloc (.cells #[.int .i64 x.k, .int .u64 x.b] 33)).alloc (.cells #[.int .i64 y.k, .int .u64 y.b] 33)).alloc (.cells #[.int .i64 0, .int .u64 0] 33)) w.heap.size 33 #[.int .i64 x.k, .int .u64 x.b] := ((Bk.new w _ _).alloc _).alloc _
  have k5 : Bk (((w.alloc (.cells #[.int .i64 x.k, .int .u64 x.b] 33)).alloc (.cells #[.int .i64 y.k, .int .u64 y.b] 33)).alloc (.cells #[.int .i64 0, .int .u64 0] 33)) (w.heap.size + 1) 33 #[.int .i64 y.k, .int .u64 y.b] := (Bk.newAt (by simp) _ _).alloc _
  have k6 : Bk (((w.alloc (.cells #[.int .i64 x.k, .int .u64 x.b] 33)).alloc (.cells #[.int .i64 y.k, .int .u64 y.b] 33)).alloc (.cells #[.int .i64 0, .int .u64 0] 33)) (w.heap.size + 1 + 1) 33 #[.int .i64 0, .int .u64 0] := Bk.newAt (by simp) _ _
  have hbW : Below w.heap.size w (((w.alloc (.cells #[.int .i64 x.k, .int .u64 x.b] 33)).alloc (.cells #[.int .i64 y.k, .int .u64 y.b] 33)).alloc (.cells #[.int .i64 0, .int .u64 0] 33)) := (((Below.refl _ _).alloc (by simp) _).alloc (by simp) _).alloc (by simp; omega) _
  generalize ((w.alloc (.cells #[.int .i64 x.k, .int .u64 x.b] 33)).alloc (.cells #[.int .i64 y.k, .int .u64 y.b] 33)).alloc (.cells #[.int .i64 0, .int .u64 0] 33) = W at *
  have ⟨c40, c41, _, _⟩ := vcells k4
  have ⟨c50, c51, _, _⟩ := vcells k5
  refine wp_region_b (by kernel_rfl) (fun k => (cmpR1in x y w od).getD k .any) (by kernel_rfl) ?_ ?_
  · refine BOk.cons rfl [] [4] rfl rfl (by kernel_rfl) (by kernel_rfl) (fun qK qa wr hB qO qF hK => ?_) ?_
    · have e4 : qa.tmps[4]? = some (.pointer (some ⟨w.heap.size, 0, none⟩)) := qO.1.trans rfl
      clear qO qF
      have hc40 := (bcell hB _ _ (World.block_lt_of_cell? _ _ c40)).trans c40
      have hc41 := (bcell hB _ _ (World.block_lt_of_cell? _ _ c41)).trans c41
      go_simp
      exact hK _ _ (Below.refl _ _) rfl
    refine BOk.cons rfl [] [5] rfl rfl (by kernel_rfl) (by kernel_rfl) (fun qK qa wr hB qO qF hK => ?_) ?_
    · have e5 : qa.tmps[5]? = some (.pointer (some ⟨w.heap.size + 1, 0, none⟩)) := qO.1.trans rfl
      clear qO qF
      have hc50 := (bcell hB _ _ (World.block_lt_of_cell? _ _ c50)).trans c50
      have hc51 := (bcell hB _ _ (World.block_lt_of_cell? _ _ c51)).trans c51
      go_simp
      exact hK _ _ (Below.refl _ _) rfl
    refine BOk.cons rfl [0, 1] [] rfl rfl (by kernel_rfl) (by kernel_rfl) (fun qK qa wr hB qO qF hK => ?_) ?_
    · obtain ⟨u10, e10, r0⟩ := qF.1
      have e10 : qa.tmps[10]? = some (.agg #[.int .i64 x.k, .int .u64 x.b]) := (show u10 = .agg #[.int .i64 x.k, .int .u64 x.b] from r0) ▸ e10
      clear r0
      obtain ⟨u11, e11, r1⟩ := qF.2.1
      have e11 : qa.tmps[11]? = some (.agg #[.int .i64 y.k, .int .u64 y.b]) := (show u11 = .agg #[.int .i64 y.k, .int .u64 y.b] from r1) ▸ e11
      clear r1
      clear qO qF
      go_simp
      go_at_call 39
      refine (HO.out _).mono ?_
      rintro e w2 ⟨rfl, hb2⟩
      exact hK _ _ hb2 rfl
    refine BOk.cons rfl [2] [] rfl rfl (by kernel_rfl) (by kernel_rfl) (fun qK qa wr hB qO qF hK => ?_) ?_
    · obtain ⟨u12, e12, r2⟩ := qF.1
      have e12 : qa.tmps[12]? = some (.int .i64 od) := (show u12 = .int .i64 od from r2) ▸ e12
      clear r2
      clear qO qF
      go_simp
      refine hK _ _ (Below.refl _ _) ?_
      show (_ : Value) = _
      first | rfl | (simp; done) | (simp; omega)
    refine BOk.cons rfl [] [4] rfl rfl (by kernel_rfl) (by kernel_rfl) (fun qK qa wr hB qO qF hK => ?_) ?_
    · have e4 : qa.tmps[4]? = some (.pointer (some ⟨w.heap.size, 0, none⟩)) := qO.1.trans rfl
      clear qO qF
      have hc40 := (bcell hB _ _ (World.block_lt_of_cell? _ _ c40)).trans c40
      have hc41 := (bcell hB _ _ (World.block_lt_of_cell? _ _ c41)).trans c41
      go_simp
      exact hK _ _ (Below.refl _ _) rfl
    refine BOk.cons rfl [] [5] rfl rfl (by kernel_rfl) (by kernel_rfl) (fun qK qa wr hB qO qF hK => ?_) ?_
    · have e5 : qa.tmps[5]? = some (.pointer (some ⟨w.heap.size + 1, 0, none⟩)) := qO.1.trans rfl
      clear qO qF
      have hc50 := (bcell hB _ _ (World.block_lt_of_cell? _ _ c50)).trans c50
      have hc51 := (bcell hB _ _ (World.block_lt_of_cell? _ _ c51)).trans c51
      go_simp
      exact hK _ _ (Below.refl _ _) rfl
    refine BOk.cons rfl [4, 5] [] rfl rfl (by kernel_rfl) (by kernel_rfl) (fun qK qa wr hB qO qF hK => ?_) ?_
    · obtain ⟨u14, e14, r4⟩ := qF.1
      have e14 : qa.tmps[14]? = some (.agg #[.int .i64 x.k, .int .u64 x.b]) := (show u14 = .agg #[.int .i64 x.k, .int .u64 x.b] from r4) ▸ e14
      clear r4
      obtain ⟨u15, e15, r5⟩ := qF.2.1
      have e15 : qa.tmps[15]? = some (.agg #[.int .i64 y.k, .int .u64 y.b]) := (show u15 = .agg #[.int .i64 y.k, .int .u64 y.b] from r5) ▸ e15
      clear r5
      clear qO qF
      go_simp
      repeat' split
      all_goals (refine hK _ _ (Below.refl _ _) ?_; show (_ : Value) = _; simp_all [eqV] <;> omega)
    refine BOk.cons rfl [3] [] rfl rfl (by kernel_rfl) (by kernel_rfl) (fun qK qa wr hB qO qF hK => ?_) ?_
    · obtain ⟨u13, e13, r3⟩ := qF.1
      have e13 : qa.tmps[13]? = some (.bool true) := (show u13 = .bool true from r3) ▸ e13
      clear r3
      clear qO qF
      go_simp
      exact hK _ _ (Below.refl _ _) rfl
    refine BOk.cons rfl [6] [] rfl rfl (by kernel_rfl) (by kernel_rfl) (fun qK qa wr hB qO qF hK => ?_) ?_
    · obtain ⟨u16, e16, r6⟩ := qF.1
      have e16 : qa.tmps[16]? = some (.bool (eqV x y)) := (show u16 = .bool (eqV x y) from r6) ▸ e16
      clear r6
      clear qO qF
      go_simp
      exact hK _ _ (Below.refl _ _) rfl
    exact BOk.nil
  intro vals wr hl hB hR
  match vals, hl with
  | [za10, za11, za12, za13, za14, za15, za16, za7, za8], _ =>
  have r7 : za7 = .bool true := hR 7 _ rfl
  subst r7
  have r8 : za8 = .bool (eqV x y) := hR 8 _ rfl
  subst r8
  clear hR
  simp only [List.cons_append, List.nil_append, putAll, Act.put, List.setIfInBounds_toArray, List.set_cons_zero, List.set_cons_succ]
  have k4 := k4.old hB
  have k5 := k5.old hB
  have k6 := k6.old hB
  have hbW := hbW.trans (hB.mono hbW.size)
  clear hB c40 c41 c50 c51
  have ⟨c40, c41, _, _⟩ := vcells k4
  have ⟨c50, c51, _, _⟩ := vcells k5
  rw [HEQ.out]
  go_wp2_with fail
  all_goals (
    refine (rtruth_any _ _).mono ?_
    rintro r w2 ⟨hr, hb2⟩
    have hr : r = .returned R.v := by
      rw [hr, ← HR.out]
      cases e <;> first | rfl | contradiction
    subst hr
    have k6 := k6.old hb2
    have hbW := hbW.trans (hb2.mono hbW.size)
    clear hb2
    obtain ⟨rk, rb⟩ := R
    simp only [V.v]
    have ⟨c0, c1, f0, f1⟩ := vcells k6
    have ⟨d0, d1, _, _⟩ := vcells (vput k6 (.int .i64 rk) (.int .u64 rb))
    go_wp2_with fail
    exact bodyPost_ret (v := .agg #[.int .i64 rk, .int .u64 rb]) (by simp [results, Try.results30, go_sem, d0, d1]) rfl ⟨rfl, (hbW.setCell (by simp; omega) _).setCell (by simp; omega) _⟩
    )
set_option maxRecDepth 100000 in
set_option maxHeartbeats 2000000 in
theorem rcmp_in_10 (x y : V) (od : Int) (HO : Hid (∀ w : World, Calls Try.prog 39 #[.agg #[.int .i64 x.k, .int .u64 x.b], .agg #[.int .i64 y.k, .int .u64 y.b]] w fun e w' => e = .returned (.int .i64 od) ∧ Below w.heap.size w w')) (ho : od < 0) (e : Bool) (he : eqV x y = e) (h4 : (x.k == 4) = false) (w : World) : Calls Try.prog 30 #[.int .i64 10, .agg #[.int .i64 x.k, .int .u64 x.b], .agg #[.int .i64 y.k, .int .u64 y.b]] w fun z w' => z = .returned (yesV (holdsB 10 true e false)).v ∧ Below w.heap.size w w' := by
  generalize hR : yesV (holdsB 10 true e false) = R
  have HR := Lib.hid hR
  clear hR
  have HEQ := Lib.hid he
  clear he
  go_enter Try.func30, Try.ntmps30
  go_wp2_with fail
  have k4 : Bk (((w.alloc (.cells #[.int .i64 x.k, .int .u64 x.b] 33)).alloc (.cells #[.int .i64 y.k, .int .u64 y.b] 33)).alloc (.cells #[.int .i64 0, .int .u64 0] 33)) w.heap.size 33 #[.int .i64 x.k, .int .u64 x.b] := ((Bk.new w _ _).alloc _).alloc _
  have k5 : Bk (((w.alloc (.cells #[.int .i64 x.k, .int .u64 x.b] 33)).alloc (.cells #[.int .i64 y.k, .int .u64 y.b] 33)).alloc (.cells #[.int .i64 0, .int .u64 0] 33)) (w.heap.size + 1) 33 #[.int .i64 y.k, .int .u64 y.b] := (Bk.newAt (by simp) _ _).alloc _
  have k6 : Bk (((w.alloc (.cells #[.int .i64 x.k, .int .u64 x.b] 33)).alloc (.cells #[.int .i64 y.k, .int .u64 y.b] 33)).alloc (.cells #[.int .i64 0, .int .u64 0] 33)) (w.heap.size + 1 + 1) 33 #[.int .i64 0, .int .u64 0] := Bk.newAt (by simp) _ _
  have hbW : Below w.heap.size w (((w.alloc (.cells #[.int .i64 x.k, .int .u64 x.b] 33)).alloc (.cells #[.int .i64 y.k, .int .u64 y.b] 33)).alloc (.cells #[.int .i64 0, .int .u64 0] 33)) := (((Below.refl _ _).alloc (by simp) _).alloc (by simp) _).alloc (by simp; omega) _
  generalize ((w.alloc (.cells #[.int .i64 x.k, .int .u64 x.b] 33)).alloc (.cells #[.int .i64 y.k, .int .u64 y.b] 33)).alloc (.cells #[.int .i64 0, .int .u64 0] 33) = W at *
  have ⟨c40, c41, _, _⟩ := vcells k4
  have ⟨c50, c51, _, _⟩ := vcells k5
  refine wp_region_b (by kernel_rfl) (fun k => (cmpR1in x y w od).getD k .any) (by kernel_rfl) ?_ ?_
  · refine BOk.cons rfl [] [4] rfl rfl (by kernel_rfl) (by kernel_rfl) (fun qK qa wr hB qO qF hK => ?_) ?_
    · have e4 : qa.tmps[4]? = some (.pointer (some ⟨w.heap.size, 0, none⟩)) := qO.1.trans rfl
      clear qO qF
      have hc40 := (bcell hB _ _ (World.block_lt_of_cell? _ _ c40)).trans c40
      have hc41 := (bcell hB _ _ (World.block_lt_of_cell? _ _ c41)).trans c41
      go_simp
      exact hK _ _ (Below.refl _ _) rfl
    refine BOk.cons rfl [] [5] rfl rfl (by kernel_rfl) (by kernel_rfl) (fun qK qa wr hB qO qF hK => ?_) ?_
    · have e5 : qa.tmps[5]? = some (.pointer (some ⟨w.heap.size + 1, 0, none⟩)) := qO.1.trans rfl
      clear qO qF
      have hc50 := (bcell hB _ _ (World.block_lt_of_cell? _ _ c50)).trans c50
      have hc51 := (bcell hB _ _ (World.block_lt_of_cell? _ _ c51)).trans c51
      go_simp
      exact hK _ _ (Below.refl _ _) rfl
    refine BOk.cons rfl [0, 1] [] rfl rfl (by kernel_rfl) (by kernel_rfl) (fun qK qa wr hB qO qF hK => ?_) ?_
    · obtain ⟨u10, e10, r0⟩ := qF.1
      have e10 : qa.tmps[10]? = some (.agg #[.int .i64 x.k, .int .u64 x.b]) := (show u10 = .agg #[.int .i64 x.k, .int .u64 x.b] from r0) ▸ e10
      clear r0
      obtain ⟨u11, e11, r1⟩ := qF.2.1
      have e11 : qa.tmps[11]? = some (.agg #[.int .i64 y.k, .int .u64 y.b]) := (show u11 = .agg #[.int .i64 y.k, .int .u64 y.b] from r1) ▸ e11
      clear r1
      clear qO qF
      go_simp
      go_at_call 39
      refine (HO.out _).mono ?_
      rintro e w2 ⟨rfl, hb2⟩
      exact hK _ _ hb2 rfl
    refine BOk.cons rfl [2] [] rfl rfl (by kernel_rfl) (by kernel_rfl) (fun qK qa wr hB qO qF hK => ?_) ?_
    · obtain ⟨u12, e12, r2⟩ := qF.1
      have e12 : qa.tmps[12]? = some (.int .i64 od) := (show u12 = .int .i64 od from r2) ▸ e12
      clear r2
      clear qO qF
      go_simp
      refine hK _ _ (Below.refl _ _) ?_
      show (_ : Value) = _
      first | rfl | (simp; done) | (simp; omega)
    refine BOk.cons rfl [] [4] rfl rfl (by kernel_rfl) (by kernel_rfl) (fun qK qa wr hB qO qF hK => ?_) ?_
    · have e4 : qa.tmps[4]? = some (.pointer (some ⟨w.heap.size, 0, none⟩)) := qO.1.trans rfl
      clear qO qF
      have hc40 := (bcell hB _ _ (World.block_lt_of_cell? _ _ c40)).trans c40
      have hc41 := (bcell hB _ _ (World.block_lt_of_cell? _ _ c41)).trans c41
      go_simp
      exact hK _ _ (Below.refl _ _) rfl
    refine BOk.cons rfl [] [5] rfl rfl (by kernel_rfl) (by kernel_rfl) (fun qK qa wr hB qO qF hK => ?_) ?_
    · have e5 : qa.tmps[5]? = some (.pointer (some ⟨w.heap.size + 1, 0, none⟩)) := qO.1.trans rfl
      clear qO qF
      have hc50 := (bcell hB _ _ (World.block_lt_of_cell? _ _ c50)).trans c50
      have hc51 := (bcell hB _ _ (World.block_lt_of_cell? _ _ c51)).trans c51
      go_simp
      exact hK _ _ (Below.refl _ _) rfl
    refine BOk.cons rfl [4, 5] [] rfl rfl (by kernel_rfl) (by kernel_rfl) (fun qK qa wr hB qO qF hK => ?_) ?_
    · obtain ⟨u14, e14, r4⟩ := qF.1
      have e14 : qa.tmps[14]? = some (.agg #[.int .i64 x.k, .int .u64 x.b]) := (show u14 = .agg #[.int .i64 x.k, .int .u64 x.b] from r4) ▸ e14
      clear r4
      obtain ⟨u15, e15, r5⟩ := qF.2.1
      have e15 : qa.tmps[15]? = some (.agg #[.int .i64 y.k, .int .u64 y.b]) := (show u15 = .agg #[.int .i64 y.k, .int .u64 y.b] from r5) ▸ e15
      clear r5
      clear qO qF
      go_simp
      repeat' split
      all_goals (refine hK _ _ (Below.refl _ _) ?_; show (_ : Value) = _; simp_all [eqV] <;> omega)
    refine BOk.cons rfl [3] [] rfl rfl (by kernel_rfl) (by kernel_rfl) (fun qK qa wr hB qO qF hK => ?_) ?_
    · obtain ⟨u13, e13, r3⟩ := qF.1
      have e13 : qa.tmps[13]? = some (.bool true) := (show u13 = .bool true from r3) ▸ e13
      clear r3
      clear qO qF
      go_simp
      exact hK _ _ (Below.refl _ _) rfl
    refine BOk.cons rfl [6] [] rfl rfl (by kernel_rfl) (by kernel_rfl) (fun qK qa wr hB qO qF hK => ?_) ?_
    · obtain ⟨u16, e16, r6⟩ := qF.1
      have e16 : qa.tmps[16]? = some (.bool (eqV x y)) := (show u16 = .bool (eqV x y) from r6) ▸ e16
      clear r6
      clear qO qF
      go_simp
      exact hK _ _ (Below.refl _ _) rfl
    exact BOk.nil
  intro vals wr hl hB hR
  match vals, hl with
  | [za10, za11, za12, za13, za14, za15, za16, za7, za8], _ =>
  have r7 : za7 = .bool true := hR 7 _ rfl
  subst r7
  have r8 : za8 = .bool (eqV x y) := hR 8 _ rfl
  subst r8
  clear hR
  simp only [List.cons_append, List.nil_append, putAll, Act.put, List.setIfInBounds_toArray, List.set_cons_zero, List.set_cons_succ]
  have k4 := k4.old hB
  have k5 := k5.old hB
  have k6 := k6.old hB
  have hbW := hbW.trans (hB.mono hbW.size)
  clear hB c40 c41 c50 c51
  have ⟨c40, c41, _, _⟩ := vcells k4
  have ⟨c50, c51, _, _⟩ := vcells k5
  rw [HEQ.out]
  go_wp2_with fail
  all_goals (
    refine (rtruth_any _ _).mono ?_
    rintro r w2 ⟨hr, hb2⟩
    have hr : r = .returned R.v := by
      rw [hr, ← HR.out]
      cases e <;> first | rfl | contradiction
    subst hr
    have k6 := k6.old hb2
    have hbW := hbW.trans (hb2.mono hbW.size)
    clear hb2
    obtain ⟨rk, rb⟩ := R
    simp only [V.v]
    have ⟨c0, c1, f0, f1⟩ := vcells k6
    have ⟨d0, d1, _, _⟩ := vcells (vput k6 (.int .i64 rk) (.int .u64 rb))
    go_wp2_with fail
    exact bodyPost_ret (v := .agg #[.int .i64 rk, .int .u64 rb]) (by simp [results, Try.results30, go_sem, d0, d1]) rfl ⟨rfl, (hbW.setCell (by simp; omega) _).setCell (by simp; omega) _⟩
    )
set_option maxRecDepth 100000 in
set_option maxHeartbeats 2000000 in
theorem rcmp_in_11 (x y : V) (od : Int) (HO : Hid (∀ w : World, Calls Try.prog 39 #[.agg #[.int .i64 x.k, .int .u64 x.b], .agg #[.int .i64 y.k, .int .u64 y.b]] w fun e w' => e = .returned (.int .i64 od) ∧ Below w.heap.size w w')) (ho : od < 0) (e : Bool) (he : eqV x y = e) (h4 : (x.k == 4) = false) (w : World) : Calls Try.prog 30 #[.int .i64 11, .agg #[.int .i64 x.k, .int .u64 x.b], .agg #[.int .i64 y.k, .int .u64 y.b]] w fun z w' => z = .returned (yesV (holdsB 11 true e false)).v ∧ Below w.heap.size w w' := by
  generalize hR : yesV (holdsB 11 true e false) = R
  have HR := Lib.hid hR
  clear hR
  have HEQ := Lib.hid he
  clear he
  go_enter Try.func30, Try.ntmps30
  go_wp2_with fail
  have k4 : Bk (((w.alloc (.cells #[.int .i64 x.k, .int .u64 x.b] 33)).alloc (.cells #[.int .i64 y.k, .int .u64 y.b] 33)).alloc (.cells #[.int .i64 0, .int .u64 0] 33)) w.heap.size 33 #[.int .i64 x.k, .int .u64 x.b] := ((Bk.new w _ _).alloc _).alloc _
  have k5 : Bk (((w.alloc (.cells #[.int .i64 x.k, .int .u64 x.b] 33)).alloc (.cells #[.int .i64 y.k, .int .u64 y.b] 33)).alloc (.cells #[.int .i64 0, .int .u64 0] 33)) (w.heap.size + 1) 33 #[.int .i64 y.k, .int .u64 y.b] := (Bk.newAt (by simp) _ _).alloc _
  have k6 : Bk (((w.alloc (.cells #[.int .i64 x.k, .int .u64 x.b] 33)).alloc (.cells #[.int .i64 y.k, .int .u64 y.b] 33)).alloc (.cells #[.int .i64 0, .int .u64 0] 33)) (w.heap.size + 1 + 1) 33 #[.int .i64 0, .int .u64 0] := Bk.newAt (by simp) _ _
  have hbW : Below w.heap.size w (((w.alloc (.cells #[.int .i64 x.k, .int .u64 x.b] 33)).alloc (.cells #[.int .i64 y.k, .int .u64 y.b] 33)).alloc (.cells #[.int .i64 0, .int .u64 0] 33)) := (((Below.refl _ _).alloc (by simp) _).alloc (by simp) _).alloc (by simp; omega) _
  generalize ((w.alloc (.cells #[.int .i64 x.k, .int .u64 x.b] 33)).alloc (.cells #[.int .i64 y.k, .int .u64 y.b] 33)).alloc (.cells #[.int .i64 0, .int .u64 0] 33) = W at *
  have ⟨c40, c41, _, _⟩ := vcells k4
  have ⟨c50, c51, _, _⟩ := vcells k5
  refine wp_region_b (by kernel_rfl) (fun k => (cmpR1in x y w od).getD k .any) (by kernel_rfl) ?_ ?_
  · refine BOk.cons rfl [] [4] rfl rfl (by kernel_rfl) (by kernel_rfl) (fun qK qa wr hB qO qF hK => ?_) ?_
    · have e4 : qa.tmps[4]? = some (.pointer (some ⟨w.heap.size, 0, none⟩)) := qO.1.trans rfl
      clear qO qF
      have hc40 := (bcell hB _ _ (World.block_lt_of_cell? _ _ c40)).trans c40
      have hc41 := (bcell hB _ _ (World.block_lt_of_cell? _ _ c41)).trans c41
      go_simp
      exact hK _ _ (Below.refl _ _) rfl
    refine BOk.cons rfl [] [5] rfl rfl (by kernel_rfl) (by kernel_rfl) (fun qK qa wr hB qO qF hK => ?_) ?_
    · have e5 : qa.tmps[5]? = some (.pointer (some ⟨w.heap.size + 1, 0, none⟩)) := qO.1.trans rfl
      clear qO qF
      have hc50 := (bcell hB _ _ (World.block_lt_of_cell? _ _ c50)).trans c50
      have hc51 := (bcell hB _ _ (World.block_lt_of_cell? _ _ c51)).trans c51
      go_simp
      exact hK _ _ (Below.refl _ _) rfl
    refine BOk.cons rfl [0, 1] [] rfl rfl (by kernel_rfl) (by kernel_rfl) (fun qK qa wr hB qO qF hK => ?_) ?_
    · obtain ⟨u10, e10, r0⟩ := qF.1
      have e10 : qa.tmps[10]? = some (.agg #[.int .i64 x.k, .int .u64 x.b]) := (show u10 = .agg #[.int .i64 x.k, .int .u64 x.b] from r0) ▸ e10
      clear r0
      obtain ⟨u11, e11, r1⟩ := qF.2.1
      have e11 : qa.tmps[11]? = some (.agg #[.int .i64 y.k, .int .u64 y.b]) := (show u11 = .agg #[.int .i64 y.k, .int .u64 y.b] from r1) ▸ e11
      clear r1
      clear qO qF
      go_simp
      go_at_call 39
      refine (HO.out _).mono ?_
      rintro e w2 ⟨rfl, hb2⟩
      exact hK _ _ hb2 rfl
    refine BOk.cons rfl [2] [] rfl rfl (by kernel_rfl) (by kernel_rfl) (fun qK qa wr hB qO qF hK => ?_) ?_
    · obtain ⟨u12, e12, r2⟩ := qF.1
      have e12 : qa.tmps[12]? = some (.int .i64 od) := (show u12 = .int .i64 od from r2) ▸ e12
      clear r2
      clear qO qF
      go_simp
      refine hK _ _ (Below.refl _ _) ?_
      show (_ : Value) = _
      first | rfl | (simp; done) | (simp; omega)
    refine BOk.cons rfl [] [4] rfl rfl (by kernel_rfl) (by kernel_rfl) (fun qK qa wr hB qO qF hK => ?_) ?_
    · have e4 : qa.tmps[4]? = some (.pointer (some ⟨w.heap.size, 0, none⟩)) := qO.1.trans rfl
      clear qO qF
      have hc40 := (bcell hB _ _ (World.block_lt_of_cell? _ _ c40)).trans c40
      have hc41 := (bcell hB _ _ (World.block_lt_of_cell? _ _ c41)).trans c41
      go_simp
      exact hK _ _ (Below.refl _ _) rfl
    refine BOk.cons rfl [] [5] rfl rfl (by kernel_rfl) (by kernel_rfl) (fun qK qa wr hB qO qF hK => ?_) ?_
    · have e5 : qa.tmps[5]? = some (.pointer (some ⟨w.heap.size + 1, 0, none⟩)) := qO.1.trans rfl
      clear qO qF
      have hc50 := (bcell hB _ _ (World.block_lt_of_cell? _ _ c50)).trans c50
      have hc51 := (bcell hB _ _ (World.block_lt_of_cell? _ _ c51)).trans c51
      go_simp
      exact hK _ _ (Below.refl _ _) rfl
    refine BOk.cons rfl [4, 5] [] rfl rfl (by kernel_rfl) (by kernel_rfl) (fun qK qa wr hB qO qF hK => ?_) ?_
    · obtain ⟨u14, e14, r4⟩ := qF.1
      have e14 : qa.tmps[14]? = some (.agg #[.int .i64 x.k, .int .u64 x.b]) := (show u14 = .agg #[.int .i64 x.k, .int .u64 x.b] from r4) ▸ e14
      clear r4
      obtain ⟨u15, e15, r5⟩ := qF.2.1
      have e15 : qa.tmps[15]? = some (.agg #[.int .i64 y.k, .int .u64 y.b]) := (show u15 = .agg #[.int .i64 y.k, .int .u64 y.b] from r5) ▸ e15
      clear r5
      clear qO qF
      go_simp
      repeat' split
      all_goals (refine hK _ _ (Below.refl _ _) ?_; show (_ : Value) = _; simp_all [eqV] <;> omega)
    refine BOk.cons rfl [3] [] rfl rfl (by kernel_rfl) (by kernel_rfl) (fun qK qa wr hB qO qF hK => ?_) ?_
    · obtain ⟨u13, e13, r3⟩ := qF.1
      have e13 : qa.tmps[13]? = some (.bool true) := (show u13 = .bool true from r3) ▸ e13
      clear r3
      clear qO qF
      go_simp
      exact hK _ _ (Below.refl _ _) rfl
    refine BOk.cons rfl [6] [] rfl rfl (by kernel_rfl) (by kernel_rfl) (fun qK qa wr hB qO qF hK => ?_) ?_
    · obtain ⟨u16, e16, r6⟩ := qF.1
      have e16 : qa.tmps[16]? = some (.bool (eqV x y)) := (show u16 = .bool (eqV x y) from r6) ▸ e16
      clear r6
      clear qO qF
      go_simp
      exact hK _ _ (Below.refl _ _) rfl
    exact BOk.nil
  intro vals wr hl hB hR
  match vals, hl with
  | [za10, za11, za12, za13, za14, za15, za16, za7, za8], _ =>
  have r7 : za7 = .bool true := hR 7 _ rfl
  subst r7
  have r8 : za8 = .bool (eqV x y) := hR 8 _ rfl
  subst r8
  clear hR
  simp only [List.cons_append, List.nil_append, putAll, Act.put, List.setIfInBounds_toArray, List.set_cons_zero, List.set_cons_succ]
  have k4 := k4.old hB
  have k5 := k5.old hB
  have k6 := k6.old hB
  have hbW := hbW.trans (hB.mono hbW.size)
  clear hB c40 c41 c50 c51
  have ⟨c40, c41, _, _⟩ := vcells k4
  have ⟨c50, c51, _, _⟩ := vcells k5
  rw [HEQ.out]
  go_wp2_with fail
  all_goals (
    refine (rtruth_any _ _).mono ?_
    rintro r w2 ⟨hr, hb2⟩
    have hr : r = .returned R.v := by
      rw [hr, ← HR.out]
      cases e <;> first | rfl | contradiction
    subst hr
    have k6 := k6.old hb2
    have hbW := hbW.trans (hb2.mono hbW.size)
    clear hb2
    obtain ⟨rk, rb⟩ := R
    simp only [V.v]
    have ⟨c0, c1, f0, f1⟩ := vcells k6
    have ⟨d0, d1, _, _⟩ := vcells (vput k6 (.int .i64 rk) (.int .u64 rb))
    go_wp2_with fail
    exact bodyPost_ret (v := .agg #[.int .i64 rk, .int .u64 rb]) (by simp [results, Try.results30, go_sem, d0, d1]) rfl ⟨rfl, (hbW.setCell (by simp; omega) _).setCell (by simp; omega) _⟩
    )
set_option maxRecDepth 100000 in
set_option maxHeartbeats 2000000 in
theorem rcmp_in_12 (x y : V) (od : Int) (HO : Hid (∀ w : World, Calls Try.prog 39 #[.agg #[.int .i64 x.k, .int .u64 x.b], .agg #[.int .i64 y.k, .int .u64 y.b]] w fun e w' => e = .returned (.int .i64 od) ∧ Below w.heap.size w w')) (ho : od < 0) (e : Bool) (he : eqV x y = e) (h4 : (x.k == 4) = false) (w : World) : Calls Try.prog 30 #[.int .i64 12, .agg #[.int .i64 x.k, .int .u64 x.b], .agg #[.int .i64 y.k, .int .u64 y.b]] w fun z w' => z = .returned (yesV (holdsB 12 true e false)).v ∧ Below w.heap.size w w' := by
  generalize hR : yesV (holdsB 12 true e false) = R
  have HR := Lib.hid hR
  clear hR
  have HEQ := Lib.hid he
  clear he
  go_enter Try.func30, Try.ntmps30
  go_wp2_with fail
  have k4 : Bk (((w.alloc (.cells #[.int .i64 x.k, .int .u64 x.b] 33)).alloc (.cells #[.int .i64 y.k, .int .u64 y.b] 33)).alloc (.cells #[.int .i64 0, .int .u64 0] 33)) w.heap.size 33 #[.int .i64 x.k, .int .u64 x.b] := ((Bk.new w _ _).alloc _).alloc _
  have k5 : Bk (((w.alloc (.cells #[.int .i64 x.k, .int .u64 x.b] 33)).alloc (.cells #[.int .i64 y.k, .int .u64 y.b] 33)).alloc (.cells #[.int .i64 0, .int .u64 0] 33)) (w.heap.size + 1) 33 #[.int .i64 y.k, .int .u64 y.b] := (Bk.newAt (by simp) _ _).alloc _
  have k6 : Bk (((w.alloc (.cells #[.int .i64 x.k, .int .u64 x.b] 33)).alloc (.cells #[.int .i64 y.k, .int .u64 y.b] 33)).alloc (.cells #[.int .i64 0, .int .u64 0] 33)) (w.heap.size + 1 + 1) 33 #[.int .i64 0, .int .u64 0] := Bk.newAt (by simp) _ _
  have hbW : Below w.heap.size w (((w.alloc (.cells #[.int .i64 x.k, .int .u64 x.b] 33)).alloc (.cells #[.int .i64 y.k, .int .u64 y.b] 33)).alloc (.cells #[.int .i64 0, .int .u64 0] 33)) := (((Below.refl _ _).alloc (by simp) _).alloc (by simp) _).alloc (by simp; omega) _
  generalize ((w.alloc (.cells #[.int .i64 x.k, .int .u64 x.b] 33)).alloc (.cells #[.int .i64 y.k, .int .u64 y.b] 33)).alloc (.cells #[.int .i64 0, .int .u64 0] 33) = W at *
  have ⟨c40, c41, _, _⟩ := vcells k4
  have ⟨c50, c51, _, _⟩ := vcells k5
  refine wp_region_b (by kernel_rfl) (fun k => (cmpR1in x y w od).getD k .any) (by kernel_rfl) ?_ ?_
  · refine BOk.cons rfl [] [4] rfl rfl (by kernel_rfl) (by kernel_rfl) (fun qK qa wr hB qO qF hK => ?_) ?_
    · have e4 : qa.tmps[4]? = some (.pointer (some ⟨w.heap.size, 0, none⟩)) := qO.1.trans rfl
      clear qO qF
      have hc40 := (bcell hB _ _ (World.block_lt_of_cell? _ _ c40)).trans c40
      have hc41 := (bcell hB _ _ (World.block_lt_of_cell? _ _ c41)).trans c41
      go_simp
      exact hK _ _ (Below.refl _ _) rfl
    refine BOk.cons rfl [] [5] rfl rfl (by kernel_rfl) (by kernel_rfl) (fun qK qa wr hB qO qF hK => ?_) ?_
    · have e5 : qa.tmps[5]? = some (.pointer (some ⟨w.heap.size + 1, 0, none⟩)) := qO.1.trans rfl
      clear qO qF
      have hc50 := (bcell hB _ _ (World.block_lt_of_cell? _ _ c50)).trans c50
      have hc51 := (bcell hB _ _ (World.block_lt_of_cell? _ _ c51)).trans c51
      go_simp
      exact hK _ _ (Below.refl _ _) rfl
    refine BOk.cons rfl [0, 1] [] rfl rfl (by kernel_rfl) (by kernel_rfl) (fun qK qa wr hB qO qF hK => ?_) ?_
    · obtain ⟨u10, e10, r0⟩ := qF.1
      have e10 : qa.tmps[10]? = some (.agg #[.int .i64 x.k, .int .u64 x.b]) := (show u10 = .agg #[.int .i64 x.k, .int .u64 x.b] from r0) ▸ e10
      clear r0
      obtain ⟨u11, e11, r1⟩ := qF.2.1
      have e11 : qa.tmps[11]? = some (.agg #[.int .i64 y.k, .int .u64 y.b]) := (show u11 = .agg #[.int .i64 y.k, .int .u64 y.b] from r1) ▸ e11
      clear r1
      clear qO qF
      go_simp
      go_at_call 39
      refine (HO.out _).mono ?_
      rintro e w2 ⟨rfl, hb2⟩
      exact hK _ _ hb2 rfl
    refine BOk.cons rfl [2] [] rfl rfl (by kernel_rfl) (by kernel_rfl) (fun qK qa wr hB qO qF hK => ?_) ?_
    · obtain ⟨u12, e12, r2⟩ := qF.1
      have e12 : qa.tmps[12]? = some (.int .i64 od) := (show u12 = .int .i64 od from r2) ▸ e12
      clear r2
      clear qO qF
      go_simp
      refine hK _ _ (Below.refl _ _) ?_
      show (_ : Value) = _
      first | rfl | (simp; done) | (simp; omega)
    refine BOk.cons rfl [] [4] rfl rfl (by kernel_rfl) (by kernel_rfl) (fun qK qa wr hB qO qF hK => ?_) ?_
    · have e4 : qa.tmps[4]? = some (.pointer (some ⟨w.heap.size, 0, none⟩)) := qO.1.trans rfl
      clear qO qF
      have hc40 := (bcell hB _ _ (World.block_lt_of_cell? _ _ c40)).trans c40
      have hc41 := (bcell hB _ _ (World.block_lt_of_cell? _ _ c41)).trans c41
      go_simp
      exact hK _ _ (Below.refl _ _) rfl
    refine BOk.cons rfl [] [5] rfl rfl (by kernel_rfl) (by kernel_rfl) (fun qK qa wr hB qO qF hK => ?_) ?_
    · have e5 : qa.tmps[5]? = some (.pointer (some ⟨w.heap.size + 1, 0, none⟩)) := qO.1.trans rfl
      clear qO qF
      have hc50 := (bcell hB _ _ (World.block_lt_of_cell? _ _ c50)).trans c50
      have hc51 := (bcell hB _ _ (World.block_lt_of_cell? _ _ c51)).trans c51
      go_simp
      exact hK _ _ (Below.refl _ _) rfl
    refine BOk.cons rfl [4, 5] [] rfl rfl (by kernel_rfl) (by kernel_rfl) (fun qK qa wr hB qO qF hK => ?_) ?_
    · obtain ⟨u14, e14, r4⟩ := qF.1
      have e14 : qa.tmps[14]? = some (.agg #[.int .i64 x.k, .int .u64 x.b]) := (show u14 = .agg #[.int .i64 x.k, .int .u64 x.b] from r4) ▸ e14
      clear r4
      obtain ⟨u15, e15, r5⟩ := qF.2.1
      have e15 : qa.tmps[15]? = some (.agg #[.int .i64 y.k, .int .u64 y.b]) := (show u15 = .agg #[.int .i64 y.k, .int .u64 y.b] from r5) ▸ e15
      clear r5
      clear qO qF
      go_simp
      repeat' split
      all_goals (refine hK _ _ (Below.refl _ _) ?_; show (_ : Value) = _; simp_all [eqV] <;> omega)
    refine BOk.cons rfl [3] [] rfl rfl (by kernel_rfl) (by kernel_rfl) (fun qK qa wr hB qO qF hK => ?_) ?_
    · obtain ⟨u13, e13, r3⟩ := qF.1
      have e13 : qa.tmps[13]? = some (.bool true) := (show u13 = .bool true from r3) ▸ e13
      clear r3
      clear qO qF
      go_simp
      exact hK _ _ (Below.refl _ _) rfl
    refine BOk.cons rfl [6] [] rfl rfl (by kernel_rfl) (by kernel_rfl) (fun qK qa wr hB qO qF hK => ?_) ?_
    · obtain ⟨u16, e16, r6⟩ := qF.1
      have e16 : qa.tmps[16]? = some (.bool (eqV x y)) := (show u16 = .bool (eqV x y) from r6) ▸ e16
      clear r6
      clear qO qF
      go_simp
      exact hK _ _ (Below.refl _ _) rfl
    exact BOk.nil
  intro vals wr hl hB hR
  match vals, hl with
  | [za10, za11, za12, za13, za14, za15, za16, za7, za8], _ =>
  have r7 : za7 = .bool true := hR 7 _ rfl
  subst r7
  have r8 : za8 = .bool (eqV x y) := hR 8 _ rfl
  subst r8
  clear hR
  simp only [List.cons_append, List.nil_append, putAll, Act.put, List.setIfInBounds_toArray, List.set_cons_zero, List.set_cons_succ]
  have k4 := k4.old hB
  have k5 := k5.old hB
  have k6 := k6.old hB
  have hbW := hbW.trans (hB.mono hbW.size)
  clear hB c40 c41 c50 c51
  have ⟨c40, c41, _, _⟩ := vcells k4
  have ⟨c50, c51, _, _⟩ := vcells k5
  rw [HEQ.out]
  go_wp2_with fail
  all_goals (
    refine (rtruth_any _ _).mono ?_
    rintro r w2 ⟨hr, hb2⟩
    have hr : r = .returned R.v := by
      rw [hr, ← HR.out]
      cases e <;> first | rfl | contradiction
    subst hr
    have k6 := k6.old hb2
    have hbW := hbW.trans (hb2.mono hbW.size)
    clear hb2
    obtain ⟨rk, rb⟩ := R
    simp only [V.v]
    have ⟨c0, c1, f0, f1⟩ := vcells k6
    have ⟨d0, d1, _, _⟩ := vcells (vput k6 (.int .i64 rk) (.int .u64 rb))
    go_wp2_with fail
    exact bodyPost_ret (v := .agg #[.int .i64 rk, .int .u64 rb]) (by simp [results, Try.results30, go_sem, d0, d1]) rfl ⟨rfl, (hbW.setCell (by simp; omega) _).setCell (by simp; omega) _⟩
    )
end Go.Proofs.Ytkfpmoilfillmaa
