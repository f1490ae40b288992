/- insertionSort: rows of matches, by the program's library. No conditions. -/
import Derived.Test.YtbopndepklafgaaDoorSrtO
import Derived.Test.YtbopndepklafgaaDoorMatS
namespace Go.Proofs.YtbopndepklafgaaDoor
open Go.RowKit
set_option maxRecDepth 10000
set_option linter.unusedVariables false
set_option linter.unusedSimpArgs false

theorem cmp_lt : Cmp ltM := by
  refine ⟨fun x => ?_, fun x y h => ?_, fun x y z h1 h2 => ?_⟩
  · unfold ltM; have := ord_self x x rfl; simp; omega
  · unfold ltM at h ⊢; have := ord_neg x y; simp at h ⊢; omega
  · unfold Le ltM at h1 h2 ⊢
    simp at h1 h2 ⊢
    have e1 := ord_neg y x
    have e2 := ord_neg z y
    have e3 := ord_neg z x
    have := ord_le x y z (by omega) (by omega)
    omega
theorem Ins.step2 {l : List MatV} {a j i : Nat} (h : Ins ltM l a j i) (hj : a < j) (hji : j ≤ i) (hlen : i < l.length) {x y : MatV} (hx : l[j]? = some x) (hy : l[j - 1]? = some y) (hlt : ltM x y = true) : Ins ltM (swapL l j (j - 1)) a (j - 1) i := by
  obtain ⟨p, rfl⟩ : ∃ p, j = p + 1 := ⟨j - 1, by omega⟩
  rw [Nat.add_sub_cancel] at hy ⊢
  refine h.step cmp_lt.asym (by omega) hji hlen fun u v hu hv => ?_
  rw [hx] at hu; rw [hy] at hv
  injection hu with hu; injection hv with hv
  subst hu; subst hv; exact hlt
def inR4 (base g c n a b i j : Nat) (x y : MatV) (lb : Bool) : List Spec := [.is (.int .i64 (j : Nat)),
  .is (.int .i64 (a : Nat)),
  .is (.bool true),
  .is (.bool true),
  .is (.func (.func 13) #[] #[]),
  .is (.slice (some ⟨g, 0, none⟩) n c),
  .is (.int .i64 (j : Nat)),
  .is (.pointer (some ⟨g, (j) * 3, none⟩)),
  .is (x.val),
  .is (.slice (some ⟨g, 0, none⟩) n c),
  .is (.int .i64 (j : Nat)),
  .is (.int .i64 (j - 1 : Nat)),
  .is (.pointer (some ⟨g, (j - 1) * 3, none⟩)),
  .is (y.val),
  .is (.int .i64 (x.ord y)),
  .is (.bool lb),
  .is (.bool lb)]
def inR4f (base g c n a b i j : Nat) : List Spec := [.is (.int .i64 (j : Nat)),
  .is (.int .i64 (j : Nat)),
  .is (.bool false),
  .is (.bool false),
  .is (undef),
  .is (undef),
  .is (undef),
  .is (undef),
  .is (undef),
  .is (undef),
  .is (undef),
  .is (undef),
  .is (undef),
  .is (undef),
  .is (undef),
  .is (undef),
  .is (.bool false)]
def inR6 (base g c n a b i j : Nat) (ms3 : List MatV) (x y : MatV) : List Spec := [.is (.slice (some ⟨g, 0, none⟩) n c),
  .is (.int .i64 (j : Nat)),
  .is (.slice (some ⟨g, 0, none⟩) n c),
  .is (.int .i64 (j : Nat)),
  .is (.int .i64 (j - 1 : Nat)),
  .is (.slice (some ⟨g, 0, none⟩) n c),
  .is (.int .i64 (j : Nat)),
  .is (.int .i64 (j - 1 : Nat)),
  .is (.pointer (some ⟨g, (j - 1) * 3, none⟩)),
  .is (y.val),
  .is (.slice (some ⟨g, 0, none⟩) n c),
  .is (.int .i64 (j : Nat)),
  .is (.pointer (some ⟨g, (j) * 3, none⟩)),
  .is (x.val),
  .is (.pointer (some ⟨g, (j) * 3, none⟩)),
  .st (fun v w => Row base g c n (ms3.set (j) y) w) (fun _ _ _ hb h => h.old hb),
  .is (.pointer (some ⟨g, (j - 1) * 3, none⟩))]

set_option maxRecDepth 100000 in
set_option maxHeartbeats 8000000 in
theorem ins_any (base g c n a b : Nat) (ms : List MatV) (w : World) (h : Row base g c n ms w) (hab : a ≤ b) (hbn : b ≤ n) (hn : n ≤ 3518437208880) :
    Calls Tryd.prog 34 #[.slice (some ⟨g, 0, none⟩) n c, .int .i64 a, .int .i64 b, .func (.func 13) #[] #[]] w fun r w' => r = .returned (.tuple #[]) ∧ ∃ ms', Moved ms ms' a b ∧ Srt (Le ltM) ms' a b ∧ Row base g c n ms' w' ∧ w.grownBy w' (some g) := by
  have HR := Lib.hid h
  clear h
  go_enter Tryd.func34, Tryd.ntmps34
  go_wp2
  go_loopw [8] (fun o wr => ∃ (i : Nat) (ms2 : List MatV), a + 1 ≤ i ∧ (i ≤ b ∨ i = a + 1) ∧ o = .int .i64 i ∧ Hid (Moved ms ms2 a b) ∧ Hid (Srt (Le ltM) ms2 a i) ∧ Hid (Row base g c n ms2 wr) ∧ Hid (w.grownBy wr (some g))) (fun o _ => b + 1 - (intOf o).toNat)
  case atStart => exact ⟨a + 1, ms, by omega, by omega, by go_num, Lib.hid (Moved.refl _ _ _), Lib.hid (Srt.nil (by omega)), HR, Lib.hid (World.grownBy.refl _ _)⟩
  case round =>
    obtain ⟨i, ms2, hai, hib, rfl, hmv, hsrt, HROW2, hgr2⟩ := hrel
    by_cases hlt : i < b
    · as_aux_lemma =>
      go_wp2
      obtain ⟨W2, rfl⟩ : ∃ W2 : World, W2 = wr := ⟨_, rfl⟩
      go_loopw [9] (fun o wi => ∃ (j : Nat) (ms3 : List MatV), a ≤ j ∧ j ≤ i ∧ o = .int .i64 j ∧ Hid (Moved ms ms3 a b) ∧ Hid (Ins ltM ms3 a j i) ∧ Hid (Row base g c n ms3 wi) ∧ Hid (w.grownBy wi (some g))) (fun o _ => (intOf o).toNat)
      case atStart => exact ⟨i, ms2, by omega, Nat.le_refl _, rfl, hmv, Lib.hid (Ins.start hsrt.out), HROW2, hgr2⟩
      case round =>
        obtain ⟨j, ms3, hja, hji, rfl, HMV3, HINS, HROW3, HGR3⟩ := hrel
        obtain ⟨W, rfl⟩ : ∃ W : World, W = wr := ⟨_, rfl⟩
        clear hmv hsrt hib
        have hgl : g < W.heap.size := by obtain ⟨cur, h0, _⟩ := HROW3.out.bk; exact h0.lt
        have hlen := HROW3.out.len
        by_cases hj : a < j
        · as_aux_lemma =>
          obtain ⟨x, hx, hxm, hxc⟩ := HROW3.out.cell (i := j) (by omega)
          obtain ⟨y, hy, hym, hyc⟩ := HROW3.out.cell (i := j - 1) (by omega)
          have HX := Lib.hid hxc
          have HY := Lib.hid hyc
          have HORDxy : Hid (∀ wx : World, W.grownBy wx (some g) → Calls Tryd.prog 13 #[x.val, y.val] wx fun r w' => r = .returned (.int .i64 (x.ord y)) ∧ Below wx.heap.size wx w') := Lib.hid fun wx hg => ord_any x y wx (HROW3.out.ok x hxm wx hg) (HROW3.out.ok y hym wx hg)
          obtain ⟨lb, hlb⟩ : ∃ lb : Bool, ltM x y = lb := ⟨_, rfl⟩
          have HLB : Hid (decide (x.ord y < 0) = lb) := Lib.hid hlb
          have HX2 : Hid (ms3[j]? = some x) := Lib.hid hx
          have HY2 : Hid (ms3[j - 1]? = some y) := Lib.hid hy
          clear hxc hyc hx hy hlb hxm hym
          go_upto_region 4 with fail
          refine wp_region_b (by kernel_rfl) (fun qk => (inR4 base g c n a b i j x y lb).getD qk .any) (by kernel_rfl) ?_ ?_
          · refine BOk.cons rfl [] [9] rfl rfl (by kernel_rfl) (by kernel_rfl) (fun qK qa wr hB qO qF hK => ?_) ?_
            · have e9 : qa.tmps[9]? = some (.int .i64 (j : Nat)) := qO.1.trans rfl
              clear qO qF
              exact op_move _ rfl (ev e9) (hK _ _ (Below.refl _ _) rfl)
            refine BOk.cons rfl [] [1] rfl rfl (by kernel_rfl) (by kernel_rfl) (fun qK qa wr hB qO qF hK => ?_) ?_
            · have e1 : qa.tmps[1]? = some (.int .i64 (a : Nat)) := qO.1.trans rfl
              clear qO qF
              exact op_move _ rfl (ev e1) (hK _ _ (Below.refl _ _) rfl)
            refine BOk.cons rfl [0, 1] [] rfl rfl (by kernel_rfl) (by kernel_rfl) (fun qK qa wr hB qO qF hK => ?_) ?_
            · have e18 : qa.tmps[18]? = some (.int .i64 (j : Nat)) := fis qF.1 rfl rfl
              have e19 : qa.tmps[19]? = some (.int .i64 (a : Nat)) := fis qF.2.1 rfl rfl
              clear qO qF
              exact op_gtr _ _ _ _ rfl (ev e18) (ev e19) (by simp; omega) (hK _ _ (Below.refl _ _) rfl)
            refine BOk.cons rfl [2] [] rfl rfl (by kernel_rfl) (by kernel_rfl) (fun qK qa wr hB qO qF hK => ?_) ?_
            · have e20 : qa.tmps[20]? = some (.bool true) := fis qF.1 rfl rfl
              clear qO qF
              exact op_move _ rfl (ev e20) (hK _ _ (Below.refl _ _) rfl)
            refine BOk.yes rfl [] [3] rfl 3 true rfl rfl rfl (by kernel_rfl) (by kernel_rfl) (by kernel_rfl) (fun qK qa wr hB qO qF hK => ?_) ?_
            · have e3 : qa.tmps[3]? = some (.func (.func 13) #[] #[]) := qO.1.trans rfl
              clear qO qF
              exact op_move _ rfl (ev e3) (hK _ _ (Below.refl _ _) rfl)
            refine BOk.yes rfl [] [0] rfl 3 true rfl rfl rfl (by kernel_rfl) (by kernel_rfl) (by kernel_rfl) (fun qK qa wr hB qO qF hK => ?_) ?_
            · have e0 : qa.tmps[0]? = some (.slice (some ⟨g, 0, none⟩) n c) := qO.1.trans rfl
              clear qO qF
              exact op_move _ rfl (ev e0) (hK _ _ (Below.refl _ _) rfl)
            refine BOk.yes rfl [] [9] rfl 3 true rfl rfl rfl (by kernel_rfl) (by kernel_rfl) (by kernel_rfl) (fun qK qa wr hB qO qF hK => ?_) ?_
            · have e9 : qa.tmps[9]? = some (.int .i64 (j : Nat)) := qO.1.trans rfl
              clear qO qF
              exact op_move _ rfl (ev e9) (hK _ _ (Below.refl _ _) rfl)
            refine BOk.yes rfl [5, 6] [] rfl 3 true rfl rfl rfl (by kernel_rfl) (by kernel_rfl) (by kernel_rfl) (fun qK qa wr hB qO qF hK => ?_) ?_
            · have e23 : qa.tmps[23]? = some (.slice (some ⟨g, 0, none⟩) n c) := fis qF.1 rfl rfl
              have e24 : qa.tmps[24]? = some (.int .i64 (j : Nat)) := fis qF.2.1 rfl rfl
              clear qO qF
              exact op_index _ _ rfl (ev e23) (ev e24) (by omega) (hK _ _ (Below.refl _ _) rfl)
            refine BOk.yes rfl [7] [] rfl 3 true rfl rfl rfl (by kernel_rfl) (by kernel_rfl) (by kernel_rfl) (fun qK qa wr hB qO qF hK => ?_) ?_
            · have e25 : qa.tmps[25]? = some (.pointer (some ⟨g, (j) * 3, none⟩)) := fis qF.1 rfl rfl
              clear qO qF
              exact op_load _ rfl (ev e25) (fun j u hu => (bcell hB _ _ hgl).trans (HX.out j u hu)) (hK _ _ (Below.refl _ _) rfl)
            refine BOk.yes rfl [] [0] rfl 3 true rfl rfl rfl (by kernel_rfl) (by kernel_rfl) (by kernel_rfl) (fun qK qa wr hB qO qF hK => ?_) ?_
            · have e0 : qa.tmps[0]? = some (.slice (some ⟨g, 0, none⟩) n c) := qO.1.trans rfl
              clear qO qF
              exact op_move _ rfl (ev e0) (hK _ _ (Below.refl _ _) rfl)
            refine BOk.yes rfl [] [9] rfl 3 true rfl rfl rfl (by kernel_rfl) (by kernel_rfl) (by kernel_rfl) (fun qK qa wr hB qO qF hK => ?_) ?_
            · have e9 : qa.tmps[9]? = some (.int .i64 (j : Nat)) := qO.1.trans rfl
              clear qO qF
              exact op_move _ rfl (ev e9) (hK _ _ (Below.refl _ _) rfl)
            refine BOk.yes rfl [10] [] rfl 3 true rfl rfl rfl (by kernel_rfl) (by kernel_rfl) (by kernel_rfl) (fun qK qa wr hB qO qF hK => ?_) ?_
            · have e28 : qa.tmps[28]? = some (.int .i64 (j : Nat)) := fis qF.1 rfl rfl
              clear qO qF
              exact op_sub _ _ _ _ rfl (ev e28) rfl (by omega) (by omega) (by omega) (hK _ _ (Below.refl _ _) rfl)
            refine BOk.yes rfl [9, 11] [] rfl 3 true rfl rfl rfl (by kernel_rfl) (by kernel_rfl) (by kernel_rfl) (fun qK qa wr hB qO qF hK => ?_) ?_
            · have e27 : qa.tmps[27]? = some (.slice (some ⟨g, 0, none⟩) n c) := fis qF.1 rfl rfl
              have e29 : qa.tmps[29]? = some (.int .i64 (j - 1 : Nat)) := fis qF.2.1 rfl rfl
              clear qO qF
              exact op_index _ _ rfl (ev e27) (ev e29) (by omega) (hK _ _ (Below.refl _ _) rfl)
            refine BOk.yes rfl [12] [] rfl 3 true rfl rfl rfl (by kernel_rfl) (by kernel_rfl) (by kernel_rfl) (fun qK qa wr hB qO qF hK => ?_) ?_
            · have e30 : qa.tmps[30]? = some (.pointer (some ⟨g, (j - 1) * 3, none⟩)) := fis qF.1 rfl rfl
              clear qO qF
              exact op_load _ rfl (ev e30) (fun j u hu => (bcell hB _ _ hgl).trans (HY.out j u hu)) (hK _ _ (Below.refl _ _) rfl)
            refine BOk.yes rfl [4, 8, 13] [] rfl 3 true rfl rfl rfl (by kernel_rfl) (by kernel_rfl) (by kernel_rfl) (fun qK qa wr hB qO qF hK => ?_) ?_
            · have e22 : qa.tmps[22]? = some (.func (.func 13) #[] #[]) := fis qF.1 rfl rfl
              have e26 : qa.tmps[26]? = some (x.val) := fis qF.2.1 rfl rfl
              have e31 : qa.tmps[31]? = some (y.val) := fis qF.2.2.1 rfl rfl
              clear qO qF
              go_simp
              go_at_call 13
              refine (HORDxy.out wr (below_grown hB _)).mono ?_
              rintro r w2 ⟨rfl, hb2⟩
              exact hK _ _ hb2 rfl
            refine BOk.yes rfl [14] [] rfl 3 true rfl rfl rfl (by kernel_rfl) (by kernel_rfl) (by kernel_rfl) (fun qK qa wr hB qO qF hK => ?_) ?_
            · have e32 : qa.tmps[32]? = some (.int .i64 (x.ord y)) := fis qF.1 rfl rfl
              clear qO qF
              exact op_lss _ _ _ _ rfl (ev e32) rfl (HLB.out) (hK _ _ (Below.refl _ _) rfl)
            refine BOk.cons rfl [3, 15] [] rfl rfl (by kernel_rfl) (by kernel_rfl) (fun qK qa wr hB qO qF hK => ?_) ?_
            · have e21 : qa.tmps[21]? = some (.bool true) := fis qF.1 rfl rfl
              have e33 : qa.tmps[33]? = some (.bool lb) := fis qF.2.1 rfl rfl
              clear qO qF
              exact op_pick _ _ _ rfl (ev e21) (ev e33) rfl (hK _ _ (Below.refl _ _) rfl)
            exact BOk.nil
          intro vals W5 hl hB hR
          match vals, hl with
          | [u18, u19, u20, u21, u22, u23, u24, u25, u26, u27, u28, u29, u30, u31, u32, u33, u34], _ =>
          have r16 : u34 = .bool lb := hR 16 _ rfl
          subst r16
          clear hR
          simp only [List.cons_append, List.nil_append, putAll, Act.put, List.setIfInBounds_toArray, List.set_cons_zero, List.set_cons_succ]
          cases lb
          · as_aux_lemma =>
            have HROW4 := Lib.hid (HROW3.out.old hB)
            have HGR4 := Lib.hid (HGR3.out.trans (below_grown hB _))
            have HST : Hid (j = a ∨ ∃ k, j = k + 1 ∧ a ≤ k ∧ ∀ x y, ms3[k + 1]? = some x → ms3[k]? = some y → ltM x y = false) := Lib.hid (by
              obtain ⟨p, rfl⟩ : ∃ p, j = p + 1 := ⟨j - 1, by omega⟩
              refine .inr ⟨p, rfl, by omega, fun u v hu hv => ?_⟩
              have h1 := HX2.out
              have h2 := HY2.out
              rw [Nat.add_sub_cancel, hv] at h2
              rw [hu] at h1
              injection h1 with h1; injection h2 with h2
              subst h1; subst h2; exact HLB.out)
            clear HX HY HORDxy HLB HX2 HY2 hB hgl HROW3 HGR3
            clear HR HROW2 hgr2
            go_wp2
            go_roundw
            case rel => exact ⟨i + 1, ms3, by omega, by omega, by go_num, HMV3, Lib.hid (HINS.out.done cmp_lt.letr hja hji (by omega) HST.out), HROW4, HGR4⟩
            case measure => simp [intOf]; omega
          · as_aux_lemma =>
            have HROW := Lib.hid (HROW3.out.old hB)
            have HGR4 := Lib.hid (HGR3.out.trans (below_grown hB _))
            obtain ⟨x', hx', hxm', hxc'⟩ := HROW.out.cell (i := j) (by omega)
            obtain rfl : x = x' := by have := HX2.out; rw [hx'] at this; injection this with this; exact this.symm
            obtain ⟨y', hy', hym', hyc'⟩ := HROW.out.cell (i := j - 1) (by omega)
            obtain rfl : y = y' := by have := HY2.out; rw [hy'] at this; injection this with this; exact this.symm
            have HOKx := Lib.hid (HROW.out.ok x hxm')
            have HOKy := Lib.hid (HROW.out.ok y hym')
            have HIN2 := Lib.hid (HINS.out.step2 hj hji (by omega) HX2.out HY2.out HLB.out)
            have HMV4 := Lib.hid (HMV3.out.trans (swapL_moved (a := a) (b := b) (i := j) (j := j - 1) (by omega) (by omega) (by omega) (by omega) (by omega) (by omega)))
            have hsl := swapL_eq HX2.out HY2.out
            have hgl5 : g < W5.heap.size := Nat.lt_of_lt_of_le hgl hB.size
            clear HX HY HORDxy HLB HX2 HY2 hB hgl HROW3 HGR3 HINS HMV3 hx' hy' hxm' hym'
            have HX := Lib.hid hxc'
            have HY := Lib.hid hyc'
            clear hxc' hyc'
            have hgl := hgl5
            go_upto_region 6 with fail
            refine wp_region_l 17 15 (some g) (by decide) (by kernel_rfl) (fun qk => (inR6 base g c n a b i j ms3 x y).getD qk .any) (by kernel_rfl) ?_ ?_
            · refine BOkL.cons rfl [] [0] rfl _ rfl (by kernel_rfl) rfl (by kernel_rfl) (by kernel_rfl) (fun qK qa wr hB qO qF hK => ?_) ?_
              · have e0 : qa.tmps[0]? = some (.slice (some ⟨g, 0, none⟩) n c) := qO.1.trans rfl
                clear qO qF
                exact op_move _ rfl (ev e0) (hK _ _ (Below.refl _ _) rfl)
              refine BOkL.cons rfl [] [9] rfl _ rfl (by kernel_rfl) rfl (by kernel_rfl) (by kernel_rfl) (fun qK qa wr hB qO qF hK => ?_) ?_
              · have e9 : qa.tmps[9]? = some (.int .i64 (j : Nat)) := qO.1.trans rfl
                clear qO qF
                exact op_move _ rfl (ev e9) (hK _ _ (Below.refl _ _) rfl)
              refine BOkL.pure rfl [] [0] rfl rfl (by kernel_rfl) (by kernel_rfl) (.slice (some ⟨g, 0, none⟩) n c) rfl (fun qK qa wr qO qF hK => ?_) ?_
              · have e0 : qa.tmps[0]? = some (.slice (some ⟨g, 0, none⟩) n c) := qO.1.trans rfl
                clear qO qF
                exact op_move _ rfl (ev e0) (hK)
              refine BOkL.pure rfl [] [9] rfl rfl (by kernel_rfl) (by kernel_rfl) (.int .i64 (j : Nat)) rfl (fun qK qa wr qO qF hK => ?_) ?_
              · have e9 : qa.tmps[9]? = some (.int .i64 (j : Nat)) := qO.1.trans rfl
                clear qO qF
                exact op_move _ rfl (ev e9) (hK)
              refine BOkL.pure rfl [3] [] rfl rfl (by kernel_rfl) (by kernel_rfl) (.int .i64 (j - 1 : Nat)) rfl (fun qK qa wr qO qF hK => ?_) ?_
              · have e40 : qa.tmps[40]? = some (.int .i64 (j : Nat)) := fisL qF.1 rfl rfl
                clear qO qF
                exact op_sub _ _ _ _ rfl (ev e40) rfl (by omega) (by omega) (by omega) (hK)
              refine BOkL.cons rfl [] [0] rfl _ rfl (by kernel_rfl) rfl (by kernel_rfl) (by kernel_rfl) (fun qK qa wr hB qO qF hK => ?_) ?_
              · have e0 : qa.tmps[0]? = some (.slice (some ⟨g, 0, none⟩) n c) := qO.1.trans rfl
                clear qO qF
                exact op_move _ rfl (ev e0) (hK _ _ (Below.refl _ _) rfl)
              refine BOkL.cons rfl [] [9] rfl _ rfl (by kernel_rfl) rfl (by kernel_rfl) (by kernel_rfl) (fun qK qa wr hB qO qF hK => ?_) ?_
              · have e9 : qa.tmps[9]? = some (.int .i64 (j : Nat)) := qO.1.trans rfl
                clear qO qF
                exact op_move _ rfl (ev e9) (hK _ _ (Below.refl _ _) rfl)
              refine BOkL.cons rfl [6] [] rfl _ rfl (by kernel_rfl) rfl (by kernel_rfl) (by kernel_rfl) (fun qK qa wr hB qO qF hK => ?_) ?_
              · have e43 : qa.tmps[43]? = some (.int .i64 (j : Nat)) := fis qF.1 rfl rfl
                clear qO qF
                exact op_sub _ _ _ _ rfl (ev e43) rfl (by omega) (by omega) (by omega) (hK _ _ (Below.refl _ _) rfl)
              refine BOkL.cons rfl [5, 7] [] rfl _ rfl (by kernel_rfl) rfl (by kernel_rfl) (by kernel_rfl) (fun qK qa wr hB qO qF hK => ?_) ?_
              · have e42 : qa.tmps[42]? = some (.slice (some ⟨g, 0, none⟩) n c) := fis qF.1 rfl rfl
                have e44 : qa.tmps[44]? = some (.int .i64 (j - 1 : Nat)) := fis qF.2.1 rfl rfl
                clear qO qF
                exact op_index _ _ rfl (ev e42) (ev e44) (by omega) (hK _ _ (Below.refl _ _) rfl)
              refine BOkL.cons rfl [8] [] rfl _ rfl (by kernel_rfl) rfl (by kernel_rfl) (by kernel_rfl) (fun qK qa wr hB qO qF hK => ?_) ?_
              · have e45 : qa.tmps[45]? = some (.pointer (some ⟨g, (j - 1) * 3, none⟩)) := fis qF.1 rfl rfl
                clear qO qF
                exact op_load _ rfl (ev e45) (fun j u hu => (bcell hB _ _ hgl).trans (HY.out j u hu)) (hK _ _ (Below.refl _ _) rfl)
              refine BOkL.cons rfl [] [0] rfl _ rfl (by kernel_rfl) rfl (by kernel_rfl) (by kernel_rfl) (fun qK qa wr hB qO qF hK => ?_) ?_
              · have e0 : qa.tmps[0]? = some (.slice (some ⟨g, 0, none⟩) n c) := qO.1.trans rfl
                clear qO qF
                exact op_move _ rfl (ev e0) (hK _ _ (Below.refl _ _) rfl)
              refine BOkL.cons rfl [] [9] rfl _ rfl (by kernel_rfl) rfl (by kernel_rfl) (by kernel_rfl) (fun qK qa wr hB qO qF hK => ?_) ?_
              · have e9 : qa.tmps[9]? = some (.int .i64 (j : Nat)) := qO.1.trans rfl
                clear qO qF
                exact op_move _ rfl (ev e9) (hK _ _ (Below.refl _ _) rfl)
              refine BOkL.cons rfl [10, 11] [] rfl _ rfl (by kernel_rfl) rfl (by kernel_rfl) (by kernel_rfl) (fun qK qa wr hB qO qF hK => ?_) ?_
              · have e47 : qa.tmps[47]? = some (.slice (some ⟨g, 0, none⟩) n c) := fis qF.1 rfl rfl
                have e48 : qa.tmps[48]? = some (.int .i64 (j : Nat)) := fis qF.2.1 rfl rfl
                clear qO qF
                exact op_index _ _ rfl (ev e47) (ev e48) (by omega) (hK _ _ (Below.refl _ _) rfl)
              refine BOkL.cons rfl [12] [] rfl _ rfl (by kernel_rfl) rfl (by kernel_rfl) (by kernel_rfl) (fun qK qa wr hB qO qF hK => ?_) ?_
              · have e49 : qa.tmps[49]? = some (.pointer (some ⟨g, (j) * 3, none⟩)) := fis qF.1 rfl rfl
                clear qO qF
                exact op_load _ rfl (ev e49) (fun j u hu => (bcell hB _ _ hgl).trans (HX.out j u hu)) (hK _ _ (Below.refl _ _) rfl)
              refine BOkL.cons rfl [0, 1] [] rfl _ rfl (by kernel_rfl) rfl (by kernel_rfl) (by kernel_rfl) (fun qK qa wr hB qO qF hK => ?_) ?_
              · have e37 : qa.tmps[37]? = some (.slice (some ⟨g, 0, none⟩) n c) := fis qF.1 rfl rfl
                have e38 : qa.tmps[38]? = some (.int .i64 (j : Nat)) := fis qF.2.1 rfl rfl
                clear qO qF
                exact op_index _ _ rfl (ev e37) (ev e38) (by omega) (hK _ _ (Below.refl _ _) rfl)
              refine BOkL.app rfl [9, 14] [] rfl (by kernel_rfl) (by kernel_rfl) (fun qK qa wr hB qO qF hK => ?_) ?_
              · have e46 : qa.tmps[46]? = some (y.val) := fis qF.1 rfl rfl
                have e51 : qa.tmps[51]? = some (.pointer (some ⟨g, (j) * 3, none⟩)) := fis qF.2.1 rfl rfl
                clear qO qF
                obtain ⟨w9, hr9, hw9, hg9, hz9⟩ := (HROW.out.old hB).put (i := j) (m := y) (by omega) (fun w2 h2 => HOKy.out w2 ((below_grown hB _).trans h2))
                exact op_ofu (by unfold execOp; simp only [ev e51, ev e46]) hr9 (hK undef w9 ((below_grown hB _).trans hg9) (by omega) hw9)
              refine BOkL.pure rfl [2, 4] [] rfl rfl (by kernel_rfl) (by kernel_rfl) (.pointer (some ⟨g, (j - 1) * 3, none⟩)) rfl (fun qK qa wr qO qF hK => ?_) ?_
              · have e39 : qa.tmps[39]? = some (.slice (some ⟨g, 0, none⟩) n c) := fisL qF.1 rfl rfl
                have e41 : qa.tmps[41]? = some (.int .i64 (j - 1 : Nat)) := fisL qF.2.1 rfl rfl
                clear qO qF
                exact op_index _ _ rfl (ev e39) (ev e41) (by omega) (hK)
              exact BOkL.nil
            intro vals wr hl hG hR
            match vals, hl with
            | [q37, q38, q39, q40, q41, q42, q43, q44, q45, q46, q47, q48, q49, q50, q51, qn15, q52], _ =>
            have r13 : q50 = x.val := hR 13 _ rfl
            subst r13
            have r15 : (fun v w => Row base g c n (ms3.set (j) y) w) qn15 wr := both_at (hR 15 _ rfl)
            have r16 : q52 = .pointer (some ⟨g, (j - 1) * 3, none⟩) := hR 16 _ rfl
            subst r16
            clear hR
            simp only [List.take_succ_cons, List.take_zero, List.drop_succ_cons, List.drop_zero, List.toList_toArray, List.cons_append, List.nil_append, putAll, Act.put, List.setIfInBounds_toArray, List.set_cons_zero, List.set_cons_succ]
            go_wp2_with (first | (refine wpList_putR rfl _ _ rfl rfl rfl r15 (by omega) (fun w2 h2 => HOKx.out w2 (hG.trans h2)) ?_; intro w9 p9 g9 z9))
            go_roundw
            case rel => exact ⟨j - 1, swapL ms3 j (j - 1), by omega, by omega, by go_num, HMV4, HIN2, Lib.hid (by rw [hsl]; exact p9), Lib.hid (HGR4.out.trans (hG.trans g9))⟩
            case measure => simp [intOf]; omega
        · as_aux_lemma =>
          obtain rfl : j = a := by omega
          go_upto_region 4 with fail
          refine wp_region_b (by kernel_rfl) (fun qk => (inR4f base g c n j b i j).getD qk .any) (by kernel_rfl) ?_ ?_
          · refine BOk.cons rfl [] [9] rfl rfl (by kernel_rfl) (by kernel_rfl) (fun qK qa wr hB qO qF hK => ?_) ?_
            · have e9 : qa.tmps[9]? = some (.int .i64 (j : Nat)) := qO.1.trans rfl
              clear qO qF
              exact op_move _ rfl (ev e9) (hK _ _ (Below.refl _ _) rfl)
            refine BOk.cons rfl [] [1] rfl rfl (by kernel_rfl) (by kernel_rfl) (fun qK qa wr hB qO qF hK => ?_) ?_
            · have e1 : qa.tmps[1]? = some (.int .i64 (j : Nat)) := qO.1.trans rfl
              clear qO qF
              exact op_move _ rfl (ev e1) (hK _ _ (Below.refl _ _) rfl)
            refine BOk.cons rfl [0, 1] [] rfl rfl (by kernel_rfl) (by kernel_rfl) (fun qK qa wr hB qO qF hK => ?_) ?_
            · have e18 : qa.tmps[18]? = some (.int .i64 (j : Nat)) := fis qF.1 rfl rfl
              have e19 : qa.tmps[19]? = some (.int .i64 (j : Nat)) := fis qF.2.1 rfl rfl
              clear qO qF
              exact op_gtr _ _ _ _ rfl (ev e18) (ev e19) (by simp) (hK _ _ (Below.refl _ _) rfl)
            refine BOk.cons rfl [2] [] rfl rfl (by kernel_rfl) (by kernel_rfl) (fun qK qa wr hB qO qF hK => ?_) ?_
            · have e20 : qa.tmps[20]? = some (.bool false) := fis qF.1 rfl rfl
              clear qO qF
              exact op_move _ rfl (ev e20) (hK _ _ (Below.refl _ _) rfl)
            refine BOk.no rfl rfl 3 true rfl rfl rfl (by kernel_rfl) (fun _ => rfl) ?_
            refine BOk.no rfl rfl 3 true rfl rfl rfl (by kernel_rfl) (fun _ => rfl) ?_
            refine BOk.no rfl rfl 3 true rfl rfl rfl (by kernel_rfl) (fun _ => rfl) ?_
            refine BOk.no rfl rfl 3 true rfl rfl rfl (by kernel_rfl) (fun _ => rfl) ?_
            refine BOk.no rfl rfl 3 true rfl rfl rfl (by kernel_rfl) (fun _ => rfl) ?_
            refine BOk.no rfl rfl 3 true rfl rfl rfl (by kernel_rfl) (fun _ => rfl) ?_
            refine BOk.no rfl rfl 3 true rfl rfl rfl (by kernel_rfl) (fun _ => rfl) ?_
            refine BOk.no rfl rfl 3 true rfl rfl rfl (by kernel_rfl) (fun _ => rfl) ?_
            refine BOk.no rfl rfl 3 true rfl rfl rfl (by kernel_rfl) (fun _ => rfl) ?_
            refine BOk.no rfl rfl 3 true rfl rfl rfl (by kernel_rfl) (fun _ => rfl) ?_
            refine BOk.no rfl rfl 3 true rfl rfl rfl (by kernel_rfl) (fun _ => rfl) ?_
            refine BOk.no rfl rfl 3 true rfl rfl rfl (by kernel_rfl) (fun _ => rfl) ?_
            refine BOk.cons rfl [3] [] rfl rfl (by kernel_rfl) (by kernel_rfl) (fun qK qa wr hB qO qF hK => ?_) ?_
            · have e21 : qa.tmps[21]? = some (.bool false) := fis qF.1 rfl rfl
              clear qO qF
              exact op_pick _ _ _ rfl (ev e21) rfl rfl (hK _ _ (Below.refl _ _) rfl)
            exact BOk.nil
          intro vals W5 hl hB hR
          match vals, hl with
          | [u18, u19, u20, u21, u22, u23, u24, u25, u26, u27, u28, u29, u30, u31, u32, u33, u34], _ =>
          have r16 : u34 = .bool false := hR 16 _ rfl
          subst r16
          clear hR
          simp only [List.cons_append, List.nil_append, putAll, Act.put, List.setIfInBounds_toArray, List.set_cons_zero, List.set_cons_succ]
          have HROW4 := Lib.hid (HROW3.out.old hB)
          have HGR4 := Lib.hid (HGR3.out.trans (below_grown hB _))
          have HST : Hid (j = j ∨ ∃ k, j = k + 1 ∧ j ≤ k ∧ ∀ x y, ms3[k + 1]? = some x → ms3[k]? = some y → ltM x y = false) := Lib.hid (.inl rfl)
          clear hB hgl HROW3 HGR3
          clear HR HROW2 hgr2
          go_wp2
          go_roundw
          case rel => exact ⟨i + 1, ms3, by omega, by omega, by go_num, HMV3, Lib.hid (HINS.out.done cmp_lt.letr hja hji (by omega) HST.out), HROW4, HGR4⟩
          case measure => simp [intOf]; omega
    · go_wp2
      go_end0
      exact ⟨rfl, ms2, hmv.out, hsrt.out.sub (Nat.le_refl _) (by omega), HROW2.out, hgr2.out⟩
end Go.Proofs.YtbopndepklafgaaDoor
