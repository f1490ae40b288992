/- swapRange, rotate: rows of matches, by the program's library. No conditions. -/
import Derived.Test.YtbopndepklafgaaDoorSrtM
import Derived.BigQuiet
namespace Go.Proofs.YtbopndepklafgaaDoor
open Go.RowKit
set_option maxRecDepth 10000
set_option linter.unusedVariables false
set_option linter.unusedSimpArgs false

def swR3 (base g c n a b q : Nat) (ms2 : List MatV) (x y : MatV) : List Spec := [.is (.slice (some ⟨g, 0, none⟩) n c),
  .is (.int .i64 (a : Nat)),
  .is (.int .i64 (q : Nat)),
  .is (.int .i64 (a + q : Nat)),
  .is (.slice (some ⟨g, 0, none⟩) n c),
  .is (.int .i64 (b : Nat)),
  .is (.int .i64 (q : Nat)),
  .is (.int .i64 (b + q : Nat)),
  .is (.slice (some ⟨g, 0, none⟩) n c),
  .is (.int .i64 (b : Nat)),
  .is (.int .i64 (q : Nat)),
  .is (.int .i64 (b + q : Nat)),
  .is (.pointer (some ⟨g, (b + q) * 3, none⟩)),
  .is (y.val),
  .is (.slice (some ⟨g, 0, none⟩) n c),
  .is (.int .i64 (a : Nat)),
  .is (.int .i64 (q : Nat)),
  .is (.int .i64 (a + q : Nat)),
  .is (.pointer (some ⟨g, (a + q) * 3, none⟩)),
  .is (x.val),
  .is (.pointer (some ⟨g, (a + q) * 3, none⟩)),
  .st (fun v w => Row base g c n (ms2.set (a + q) y) w) (fun _ _ _ hb h => h.old hb),
  .is (.pointer (some ⟨g, (b + q) * 3, none⟩))]

set_option maxRecDepth 100000 in
set_option maxHeartbeats 4000000 in
theorem swap_any (base g c n a b k : Nat) (ms : List MatV) (f : Value) (w : World) (h : Row base g c n ms w) (hab : a + k ≤ b) (hbn : b + k ≤ n) (hn : n ≤ 3518437208880) :
    Calls Tryd.prog 62 #[.slice (some ⟨g, 0, none⟩) n c, .int .i64 a, .int .i64 b, .int .i64 k, f] w fun r w' => r = .returned (.tuple #[]) ∧ ∃ ms', SwapR ms ms' a b k ∧ Row base g c n ms' w' ∧ w.grownBy w' (some g) := by
  have HR := Lib.hid h
  clear h
  go_enter Tryd.func62, Tryd.ntmps62
  go_wp2
  go_loopw [10] (fun i wr => ∃ (q : Nat) (ms2 : List MatV), q ≤ k ∧ i = .int .i64 q ∧ Hid (SwapR ms ms2 a b q) ∧ Hid (Row base g c n ms2 wr) ∧ Hid (w.grownBy wr (some g))) (fun i _ => k - (intOf i).toNat)
  case atStart => exact ⟨0, ms, Nat.zero_le _, rfl, Lib.hid (SwapR.zero _ _ _), HR, Lib.hid (World.grownBy.refl _ _)⟩
  case round =>
    obtain ⟨q, ms2, hq, rfl, hsw, HROW, hgr⟩ := hrel
    by_cases hlt : q < k
    · as_aux_lemma =>
      obtain ⟨W, rfl⟩ : ∃ W : World, W = wr := ⟨_, rfl⟩
      obtain ⟨x, hx, hxm, hxc⟩ := HROW.out.cell (i := a + q) (by omega)
      obtain ⟨y, hy, hym, hyc⟩ := HROW.out.cell (i := b + q) (by omega)
      have HX := Lib.hid hxc
      have HY := Lib.hid hyc
      have HOKx := Lib.hid (HROW.out.ok x hxm)
      have HOKy := Lib.hid (HROW.out.ok y hym)
      have hgl : g < W.heap.size := by obtain ⟨cur, h0, _⟩ := HROW.out.bk; exact h0.lt
      have hlen := HR.out.len
      have HSW := Lib.hid (hsw.out.step (by omega) (by omega))
      have hsl := swapL_eq hx hy
      clear hxc hyc hxm hym hsw hx hy
      go_upto_region 3 with fail
      refine wp_region_l 23 21 (some g) (by decide) (by kernel_rfl) (fun qk => (swR3 base g c n a b q ms2 x y).getD qk .any) (by kernel_rfl) ?_ ?_
      · refine BOkL.cons rfl [] [0] rfl _ rfl (by kernel_rfl) rfl (by kernel_rfl) (by kernel_rfl) (fun qK qa wr hB qO qF hK => ?_) ?_
        · have e0 : qa.tmps[0]? = some (.slice (some ⟨g, 0, none⟩) n c) := qO.1.trans rfl
          clear qO qF
          exact op_move _ rfl (ev e0) (hK _ _ (Below.refl _ _) rfl)
        refine BOkL.cons rfl [] [1] rfl _ rfl (by kernel_rfl) rfl (by kernel_rfl) (by kernel_rfl) (fun qK qa wr hB qO qF hK => ?_) ?_
        · have e1 : qa.tmps[1]? = some (.int .i64 (a : Nat)) := qO.1.trans rfl
          clear qO qF
          exact op_move _ rfl (ev e1) (hK _ _ (Below.refl _ _) rfl)
        refine BOkL.cons rfl [] [10] rfl _ rfl (by kernel_rfl) rfl (by kernel_rfl) (by kernel_rfl) (fun qK qa wr hB qO qF hK => ?_) ?_
        · have e10 : qa.tmps[10]? = some (.int .i64 (q : Nat)) := qO.1.trans rfl
          clear qO qF
          exact op_move _ rfl (ev e10) (hK _ _ (Below.refl _ _) rfl)
        refine BOkL.cons rfl [1, 2] [] rfl _ rfl (by kernel_rfl) rfl (by kernel_rfl) (by kernel_rfl) (fun qK qa wr hB qO qF hK => ?_) ?_
        · have e17 : qa.tmps[17]? = some (.int .i64 (a : Nat)) := fis qF.1 rfl rfl
          have e18 : qa.tmps[18]? = some (.int .i64 (q : Nat)) := fis qF.2.1 rfl rfl
          clear qO qF
          exact op_add _ _ _ _ rfl (ev e17) (ev e18) (by omega) (by omega) (by omega) (hK _ _ (Below.refl _ _) rfl)
        refine BOkL.pure rfl [] [0] rfl rfl (by kernel_rfl) (by kernel_rfl) (.slice (some ⟨g, 0, none⟩) n c) rfl (fun qK qa wr qO qF hK => ?_) ?_
        · have e0 : qa.tmps[0]? = some (.slice (some ⟨g, 0, none⟩) n c) := qO.1.trans rfl
          clear qO qF
          exact op_move _ rfl (ev e0) (hK)
        refine BOkL.pure rfl [] [2] rfl rfl (by kernel_rfl) (by kernel_rfl) (.int .i64 (b : Nat)) rfl (fun qK qa wr qO qF hK => ?_) ?_
        · have e2 : qa.tmps[2]? = some (.int .i64 (b : Nat)) := qO.1.trans rfl
          clear qO qF
          exact op_move _ rfl (ev e2) (hK)
        refine BOkL.pure rfl [] [10] rfl rfl (by kernel_rfl) (by kernel_rfl) (.int .i64 (q : Nat)) rfl (fun qK qa wr qO qF hK => ?_) ?_
        · have e10 : qa.tmps[10]? = some (.int .i64 (q : Nat)) := qO.1.trans rfl
          clear qO qF
          exact op_move _ rfl (ev e10) (hK)
        refine BOkL.pure rfl [5, 6] [] rfl rfl (by kernel_rfl) (by kernel_rfl) (.int .i64 (b + q : Nat)) rfl (fun qK qa wr qO qF hK => ?_) ?_
        · have e21 : qa.tmps[21]? = some (.int .i64 (b : Nat)) := fisL qF.1 rfl rfl
          have e22 : qa.tmps[22]? = some (.int .i64 (q : Nat)) := fisL qF.2.1 rfl rfl
          clear qO qF
          exact op_add _ _ _ _ rfl (ev e21) (ev e22) (by omega) (by omega) (by omega) (hK)
        refine BOkL.cons rfl [] [0] rfl _ rfl (by kernel_rfl) rfl (by kernel_rfl) (by kernel_rfl) (fun qK qa wr hB qO qF hK => ?_) ?_
        · have e0 : qa.tmps[0]? = some (.slice (some ⟨g, 0, none⟩) n c) := qO.1.trans rfl
          clear qO qF
          exact op_move _ rfl (ev e0) (hK _ _ (Below.refl _ _) rfl)
        refine BOkL.cons rfl [] [2] rfl _ rfl (by kernel_rfl) rfl (by kernel_rfl) (by kernel_rfl) (fun qK qa wr hB qO qF hK => ?_) ?_
        · have e2 : qa.tmps[2]? = some (.int .i64 (b : Nat)) := qO.1.trans rfl
          clear qO qF
          exact op_move _ rfl (ev e2) (hK _ _ (Below.refl _ _) rfl)
        refine BOkL.cons rfl [] [10] rfl _ rfl (by kernel_rfl) rfl (by kernel_rfl) (by kernel_rfl) (fun qK qa wr hB qO qF hK => ?_) ?_
        · have e10 : qa.tmps[10]? = some (.int .i64 (q : Nat)) := qO.1.trans rfl
          clear qO qF
          exact op_move _ rfl (ev e10) (hK _ _ (Below.refl _ _) rfl)
        refine BOkL.cons rfl [9, 10] [] rfl _ rfl (by kernel_rfl) rfl (by kernel_rfl) (by kernel_rfl) (fun qK qa wr hB qO qF hK => ?_) ?_
        · have e25 : qa.tmps[25]? = some (.int .i64 (b : Nat)) := fis qF.1 rfl rfl
          have e26 : qa.tmps[26]? = some (.int .i64 (q : Nat)) := fis qF.2.1 rfl rfl
          clear qO qF
          exact op_add _ _ _ _ rfl (ev e25) (ev e26) (by omega) (by omega) (by omega) (hK _ _ (Below.refl _ _) rfl)
        refine BOkL.cons rfl [8, 11] [] rfl _ rfl (by kernel_rfl) rfl (by kernel_rfl) (by kernel_rfl) (fun qK qa wr hB qO qF hK => ?_) ?_
        · have e24 : qa.tmps[24]? = some (.slice (some ⟨g, 0, none⟩) n c) := fis qF.1 rfl rfl
          have e27 : qa.tmps[27]? = some (.int .i64 (b + q : Nat)) := fis qF.2.1 rfl rfl
          clear qO qF
          exact op_index _ _ rfl (ev e24) (ev e27) (by omega) (hK _ _ (Below.refl _ _) rfl)
        refine BOkL.cons rfl [12] [] rfl _ rfl (by kernel_rfl) rfl (by kernel_rfl) (by kernel_rfl) (fun qK qa wr hB qO qF hK => ?_) ?_
        · have e28 : qa.tmps[28]? = some (.pointer (some ⟨g, (b + q) * 3, none⟩)) := fis qF.1 rfl rfl
          clear qO qF
          exact op_load _ rfl (ev e28) (fun j u hu => (bcell hB _ _ hgl).trans (HY.out j u hu)) (hK _ _ (Below.refl _ _) rfl)
        refine BOkL.cons rfl [] [0] rfl _ rfl (by kernel_rfl) rfl (by kernel_rfl) (by kernel_rfl) (fun qK qa wr hB qO qF hK => ?_) ?_
        · have e0 : qa.tmps[0]? = some (.slice (some ⟨g, 0, none⟩) n c) := qO.1.trans rfl
          clear qO qF
          exact op_move _ rfl (ev e0) (hK _ _ (Below.refl _ _) rfl)
        refine BOkL.cons rfl [] [1] rfl _ rfl (by kernel_rfl) rfl (by kernel_rfl) (by kernel_rfl) (fun qK qa wr hB qO qF hK => ?_) ?_
        · have e1 : qa.tmps[1]? = some (.int .i64 (a : Nat)) := qO.1.trans rfl
          clear qO qF
          exact op_move _ rfl (ev e1) (hK _ _ (Below.refl _ _) rfl)
        refine BOkL.cons rfl [] [10] rfl _ rfl (by kernel_rfl) rfl (by kernel_rfl) (by kernel_rfl) (fun qK qa wr hB qO qF hK => ?_) ?_
        · have e10 : qa.tmps[10]? = some (.int .i64 (q : Nat)) := qO.1.trans rfl
          clear qO qF
          exact op_move _ rfl (ev e10) (hK _ _ (Below.refl _ _) rfl)
        refine BOkL.cons rfl [15, 16] [] rfl _ rfl (by kernel_rfl) rfl (by kernel_rfl) (by kernel_rfl) (fun qK qa wr hB qO qF hK => ?_) ?_
        · have e31 : qa.tmps[31]? = some (.int .i64 (a : Nat)) := fis qF.1 rfl rfl
          have e32 : qa.tmps[32]? = some (.int .i64 (q : Nat)) := fis qF.2.1 rfl rfl
          clear qO qF
          exact op_add _ _ _ _ rfl (ev e31) (ev e32) (by omega) (by omega) (by omega) (hK _ _ (Below.refl _ _) rfl)
        refine BOkL.cons rfl [14, 17] [] rfl _ rfl (by kernel_rfl) rfl (by kernel_rfl) (by kernel_rfl) (fun qK qa wr hB qO qF hK => ?_) ?_
        · have e30 : qa.tmps[30]? = some (.slice (some ⟨g, 0, none⟩) n c) := fis qF.1 rfl rfl
          have e33 : qa.tmps[33]? = some (.int .i64 (a + q : Nat)) := fis qF.2.1 rfl rfl
          clear qO qF
          exact op_index _ _ rfl (ev e30) (ev e33) (by omega) (hK _ _ (Below.refl _ _) rfl)
        refine BOkL.cons rfl [18] [] rfl _ rfl (by kernel_rfl) rfl (by kernel_rfl) (by kernel_rfl) (fun qK qa wr hB qO qF hK => ?_) ?_
        · have e34 : qa.tmps[34]? = some (.pointer (some ⟨g, (a + q) * 3, none⟩)) := fis qF.1 rfl rfl
          clear qO qF
          exact op_load _ rfl (ev e34) (fun j u hu => (bcell hB _ _ hgl).trans (HX.out j u hu)) (hK _ _ (Below.refl _ _) rfl)
        refine BOkL.cons rfl [0, 3] [] rfl _ rfl (by kernel_rfl) rfl (by kernel_rfl) (by kernel_rfl) (fun qK qa wr hB qO qF hK => ?_) ?_
        · have e16 : qa.tmps[16]? = some (.slice (some ⟨g, 0, none⟩) n c) := fis qF.1 rfl rfl
          have e19 : qa.tmps[19]? = some (.int .i64 (a + q : Nat)) := fis qF.2.1 rfl rfl
          clear qO qF
          exact op_index _ _ rfl (ev e16) (ev e19) (by omega) (hK _ _ (Below.refl _ _) rfl)
        refine BOkL.app rfl [13, 20] [] rfl (by kernel_rfl) (by kernel_rfl) (fun qK qa wr hB qO qF hK => ?_) ?_
        · have e29 : qa.tmps[29]? = some (y.val) := fis qF.1 rfl rfl
          have e36 : qa.tmps[36]? = some (.pointer (some ⟨g, (a + q) * 3, none⟩)) := fis qF.2.1 rfl rfl
          clear qO qF
          obtain ⟨w9, hr9, hw9, hg9, hz9⟩ := (HROW.out.old hB).put (i := a + q) (m := y) (by omega) (fun w2 h2 => HOKy.out w2 ((below_grown hB _).trans h2))
          exact op_ofu (by unfold execOp; simp only [ev e36, ev e29]) hr9 (hK undef w9 ((below_grown hB _).trans hg9) (by omega) hw9)
        refine BOkL.pure rfl [4, 7] [] rfl rfl (by kernel_rfl) (by kernel_rfl) (.pointer (some ⟨g, (b + q) * 3, none⟩)) rfl (fun qK qa wr qO qF hK => ?_) ?_
        · have e20 : qa.tmps[20]? = some (.slice (some ⟨g, 0, none⟩) n c) := fisL qF.1 rfl rfl
          have e23 : qa.tmps[23]? = some (.int .i64 (b + q : Nat)) := fisL qF.2.1 rfl rfl
          clear qO qF
          exact op_index _ _ rfl (ev e20) (ev e23) (by omega) (hK)
        exact BOkL.nil
      intro vals wr hl hG hR
      match vals, hl with
      | [u16, u17, u18, u19, u20, u21, u22, u23, u24, u25, u26, u27, u28, u29, u30, u31, u32, u33, u34, u35, u36, un21, u37], _ =>
      have r19 : u35 = x.val := hR 19 _ rfl
      subst r19
      have r21 : (fun v w => Row base g c n (ms2.set (a + q) y) w) un21 wr := both_at (hR 21 _ rfl)
      have r22 : u37 = .pointer (some ⟨g, (b + q) * 3, none⟩) := hR 22 _ rfl
      subst r22
      clear hR
      simp only [List.take_succ_cons, List.take_zero, List.drop_succ_cons, List.drop_zero, List.toList_toArray, List.cons_append, List.nil_append, putAll, Act.put, List.setIfInBounds_toArray, List.set_cons_zero, List.set_cons_succ]
      go_wp2_with (first | (refine wpList_putR rfl _ _ rfl rfl rfl r21 (by omega) (fun w2 h2 => HOKx.out w2 (hG.trans h2)) ?_; intro w9 p9 g9 z9))
      go_roundw
      case rel => exact ⟨q + 1, swapL ms2 (a + q) (b + q), by omega, by go_num, HSW, Lib.hid (by rw [hsl]; exact p9), Lib.hid (hgr.out.trans (hG.trans g9))⟩
      case measure => simp [intOf]; omega
    · obtain rfl : q = k := by omega
      go_wp2
      go_end0
      exact ⟨rfl, ms2, hsw.out, HROW.out, hgr.out⟩
end Go.Proofs.YtbopndepklafgaaDoor
