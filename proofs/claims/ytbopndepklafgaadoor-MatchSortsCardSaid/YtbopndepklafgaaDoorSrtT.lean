/- symMerge, one on the left: rows of matches, by the program's library. No conditions. -/
import Derived.Test.YtbopndepklafgaaDoorSrtI
namespace Go.Proofs.YtbopndepklafgaaDoor
open Go.RowKit
set_option maxRecDepth 10000
set_option linter.unusedVariables false
set_option linter.unusedSimpArgs false
def smR5 (base g c n a h : Nat) (x y : MatV) (lb : Bool) : List Spec := [.is (.func (.func 13) #[] #[]),
  .is (.slice (some ⟨g, 0, none⟩) n c),
  .is (.int .i64 (h : Nat)),
  .is (.pointer (some ⟨g, (h) * 3, none⟩)),
  .is (x.val),
  .is (.slice (some ⟨g, 0, none⟩) n c),
  .is (.int .i64 (a : Nat)),
  .is (.pointer (some ⟨g, (a) * 3, none⟩)),
  .is (y.val),
  .is (.int .i64 (x.ord y)),
  .is (.bool lb)]
def smR11 (base g c n k : Nat) (ms2 : List MatV) (x y : MatV) : List Spec := [.is (.slice (some ⟨g, 0, none⟩) n c),
  .is (.int .i64 (k : Nat)),
  .is (.slice (some ⟨g, 0, none⟩) n c),
  .is (.int .i64 (k : Nat)),
  .is (.int .i64 (k + 1 : Nat)),
  .is (.slice (some ⟨g, 0, none⟩) n c),
  .is (.int .i64 (k : Nat)),
  .is (.int .i64 (k + 1 : Nat)),
  .is (.pointer (some ⟨g, (k + 1) * 3, none⟩)),
  .is (y.val),
  .is (.slice (some ⟨g, 0, none⟩) n c),
  .is (.int .i64 (k : Nat)),
  .is (.pointer (some ⟨g, (k) * 3, none⟩)),
  .is (x.val),
  .is (.pointer (some ⟨g, (k) * 3, none⟩)),
  .st (fun v w => Row base g c n (ms2.set (k) y) w) (fun _ _ _ hb h => h.old hb),
  .is (.pointer (some ⟨g, (k + 1) * 3, none⟩))]
theorem up_step {l l' : List MatV} {a k : Nat} (h : Up l l' a k) (hak : a ≤ k) (hlen : k + 1 < l.length) : Up l (swapL l' k (k + 1)) a (k + 1) := h.step hak hlen

set_option maxRecDepth 100000 in
set_option maxHeartbeats 8000000 in
theorem symone_any (base g c n a m b : Nat) (ms : List MatV) (w : World) (h : Row base g c n ms w) (hm : m = a + 1) (hmb : m < b) (hbn : b ≤ n) (hn : n ≤ 3518437208880) (hs1 : Srt (Le ltM) ms a m) (hs2 : Srt (Le ltM) ms m b) :
    Calls Tryd.prog 35 #[.slice (some ⟨g, 0, none⟩) n c, .int .i64 a, .int .i64 m, .int .i64 b, .func (.func 13) #[] #[]] w fun r w' => r = .returned (.tuple #[]) ∧ ∃ ms', Moved ms ms' a b ∧ Srt (Le ltM) ms' a b ∧ Row base g c n ms' w' ∧ w.grownBy w' (some g) := by
  have HR := Lib.hid h
  have HS1 := Lib.hid hs1
  have HS2 := Lib.hid hs2
  have hlen := h.len
  clear h hs1 hs2
  go_enter Tryd.func35, Tryd.ntmps35
  go_wp2
  go_loopw [10, 11] (fun p q wr => ∃ (i j : Nat), m ≤ i ∧ i ≤ j ∧ j ≤ b ∧ p = .int .i64 i ∧ q = .int .i64 j ∧ Hid (i = m ∨ ∀ u v, ms[i - 1]? = some u → ms[a]? = some v → ltM u v = true) ∧ Hid (j = b ∨ ∀ u v, ms[j]? = some u → ms[a]? = some v → ltM u v = false) ∧ Hid (Row base g c n ms wr) ∧ Hid (w.grownBy wr (some g))) (fun p q _ => (intOf q).toNat - (intOf p).toNat)
  case atStart => exact ⟨m, b, by omega, by omega, by omega, rfl, rfl, Lib.hid (.inl rfl), Lib.hid (.inl rfl), HR, Lib.hid (World.grownBy.refl _ _)⟩
  case round =>
    obtain ⟨i, j, hi, hij, hj, rfl, rfl, HI, HJ, HROW, HGR⟩ := hrel
    obtain ⟨W, rfl⟩ : ∃ W : World, W = wr := ⟨_, rfl⟩
    have hgl : g < W.heap.size := by obtain ⟨cur, h0, _⟩ := HROW.out.bk; exact h0.lt
    by_cases hlt : i < j
    · as_aux_lemma =>
      go_upto_region 5 with fail
      obtain ⟨h, hh⟩ : ∃ h, h = (i + j) / 2 := ⟨_, rfl⟩
      have ehI : ((i : Int) + (j : Int)) / 2 = (h : Int) := by omega
      simp only [ehI]
      have hih : i ≤ h := by omega
      have hhj : h < j := by omega
      have hhn : h < 3518437208880 := by omega
      clear ehI hh
      obtain ⟨x, hx, hxm, hxc⟩ := HROW.out.cell (i := h) (by omega)
      obtain ⟨y, hy, hym, hyc⟩ := HROW.out.cell (i := a) (by omega)
      have HX := Lib.hid hxc
      have HY := Lib.hid hyc
      have HORDxy : Hid (∀ wx : World, W.grownBy wx (some g) → Calls Tryd.prog 13 #[x.val, y.val] wx fun r w' => r = .returned (.int .i64 (x.ord y)) ∧ Below wx.heap.size wx w') := Lib.hid fun wx hg => ord_any x y wx (HROW.out.ok x hxm wx hg) (HROW.out.ok y hym wx hg)
      obtain ⟨lb, hlb⟩ : ∃ lb : Bool, ltM x y = lb := ⟨_, rfl⟩
      have HLB : Hid (decide (x.ord y < 0) = lb) := Lib.hid hlb
      have HX2 : Hid (ms[h]? = some x) := Lib.hid hx
      have HY2 : Hid (ms[a]? = some y) := Lib.hid hy
      clear hxc hyc hx hy hlb hxm hym
      refine wp_region_b (by kernel_rfl) (fun qk => (smR5 base g c n a h x y lb).getD qk .any) (by kernel_rfl) ?_ ?_
      · refine BOk.cons rfl [] [4] rfl rfl (by kernel_rfl) (by kernel_rfl) (fun qK qa wr hB qO qF hK => ?_) ?_
        · have e4 : qa.tmps[4]? = some (.func (.func 13) #[] #[]) := qO.1.trans rfl
          clear qO qF
          exact op_move _ rfl (ev e4) (hK _ _ (Below.refl _ _) rfl)
        refine BOk.cons rfl [] [0] rfl rfl (by kernel_rfl) (by kernel_rfl) (fun qK qa wr hB qO qF hK => ?_) ?_
        · have e0 : qa.tmps[0]? = some (.slice (some ⟨g, 0, none⟩) n c) := qO.1.trans rfl
          clear qO qF
          exact op_move _ rfl (ev e0) (hK _ _ (Below.refl _ _) rfl)
        refine BOk.cons rfl [] [12] rfl rfl (by kernel_rfl) (by kernel_rfl) (fun qK qa wr hB qO qF hK => ?_) ?_
        · have e12 : qa.tmps[12]? = some (.int .i64 (h : Nat)) := qO.1.trans rfl
          clear qO qF
          exact op_move _ rfl (ev e12) (hK _ _ (Below.refl _ _) rfl)
        refine BOk.cons rfl [1, 2] [] rfl rfl (by kernel_rfl) (by kernel_rfl) (fun qK qa wr hB qO qF hK => ?_) ?_
        · have e41 : qa.tmps[41]? = some (.slice (some ⟨g, 0, none⟩) n c) := fis qF.1 rfl rfl
          have e42 : qa.tmps[42]? = some (.int .i64 (h : Nat)) := fis qF.2.1 rfl rfl
          clear qO qF
          exact op_index _ _ rfl (ev e41) (ev e42) (by omega) (hK _ _ (Below.refl _ _) rfl)
        refine BOk.cons rfl [3] [] rfl rfl (by kernel_rfl) (by kernel_rfl) (fun qK qa wr hB qO qF hK => ?_) ?_
        · have e43 : qa.tmps[43]? = some (.pointer (some ⟨g, (h) * 3, none⟩)) := fis qF.1 rfl rfl
          clear qO qF
          exact op_load _ rfl (ev e43) (fun j u hu => (bcell hB _ _ hgl).trans (HX.out j u hu)) (hK _ _ (Below.refl _ _) rfl)
        refine BOk.cons rfl [] [0] rfl rfl (by kernel_rfl) (by kernel_rfl) (fun qK qa wr hB qO qF hK => ?_) ?_
        · have e0 : qa.tmps[0]? = some (.slice (some ⟨g, 0, none⟩) n c) := qO.1.trans rfl
          clear qO qF
          exact op_move _ rfl (ev e0) (hK _ _ (Below.refl _ _) rfl)
        refine BOk.cons rfl [] [1] rfl rfl (by kernel_rfl) (by kernel_rfl) (fun qK qa wr hB qO qF hK => ?_) ?_
        · have e1 : qa.tmps[1]? = some (.int .i64 (a : Nat)) := qO.1.trans rfl
          clear qO qF
          exact op_move _ rfl (ev e1) (hK _ _ (Below.refl _ _) rfl)
        refine BOk.cons rfl [5, 6] [] rfl rfl (by kernel_rfl) (by kernel_rfl) (fun qK qa wr hB qO qF hK => ?_) ?_
        · have e45 : qa.tmps[45]? = some (.slice (some ⟨g, 0, none⟩) n c) := fis qF.1 rfl rfl
          have e46 : qa.tmps[46]? = some (.int .i64 (a : Nat)) := fis qF.2.1 rfl rfl
          clear qO qF
          exact op_index _ _ rfl (ev e45) (ev e46) (by omega) (hK _ _ (Below.refl _ _) rfl)
        refine BOk.cons rfl [7] [] rfl rfl (by kernel_rfl) (by kernel_rfl) (fun qK qa wr hB qO qF hK => ?_) ?_
        · have e47 : qa.tmps[47]? = some (.pointer (some ⟨g, (a) * 3, none⟩)) := fis qF.1 rfl rfl
          clear qO qF
          exact op_load _ rfl (ev e47) (fun j u hu => (bcell hB _ _ hgl).trans (HY.out j u hu)) (hK _ _ (Below.refl _ _) rfl)
        refine BOk.cons rfl [0, 4, 8] [] rfl rfl (by kernel_rfl) (by kernel_rfl) (fun qK qa wr hB qO qF hK => ?_) ?_
        · have e40 : qa.tmps[40]? = some (.func (.func 13) #[] #[]) := fis qF.1 rfl rfl
          have e44 : qa.tmps[44]? = some (x.val) := fis qF.2.1 rfl rfl
          have e48 : qa.tmps[48]? = some (y.val) := fis qF.2.2.1 rfl rfl
          clear qO qF
          go_simp
          go_at_call 13
          refine (HORDxy.out wr (below_grown hB _)).mono ?_
          rintro r w2 ⟨rfl, hb2⟩
          exact hK _ _ hb2 rfl
        refine BOk.cons rfl [9] [] rfl rfl (by kernel_rfl) (by kernel_rfl) (fun qK qa wr hB qO qF hK => ?_) ?_
        · have e49 : qa.tmps[49]? = some (.int .i64 (x.ord y)) := fis qF.1 rfl rfl
          clear qO qF
          exact op_lss _ _ _ _ rfl (ev e49) rfl (HLB.out) (hK _ _ (Below.refl _ _) rfl)
        exact BOk.nil
      intro vals W5 hl hB hR
      match vals, hl with
      | [u40, u41, u42, u43, u44, u45, u46, u47, u48, u49, u50], _ =>
      have r10 : u50 = .bool lb := hR 10 _ rfl
      subst r10
      clear hR
      simp only [List.cons_append, List.nil_append, putAll, Act.put, List.setIfInBounds_toArray, List.set_cons_zero, List.set_cons_succ]
      cases lb
      · as_aux_lemma =>
        have HROW4 := Lib.hid (HROW.out.old hB)
        have HGR4 := Lib.hid (HGR.out.trans (below_grown hB _))
        have HNJ : Hid (h = b ∨ ∀ u v, ms[h]? = some u → ms[a]? = some v → ltM u v = false) := Lib.hid (.inr fun u v hu hv => by
          have h1 := HX2.out
          have h2 := HY2.out
          rw [hu] at h1
          rw [hv] at h2
          injection h1 with h1; injection h2 with h2
          subst h1; subst h2; exact HLB.out)
        clear HX HY HORDxy HLB HX2 HY2 hB hgl HROW HGR hlen HS1 HS2
        go_wp2
        go_roundw
        case rel => exact ⟨i, h, by omega, by omega, by omega, rfl, rfl, HI, HNJ, HROW4, HGR4⟩
        case measure => simp [intOf]; omega
      · as_aux_lemma =>
        have HROW4 := Lib.hid (HROW.out.old hB)
        have HGR4 := Lib.hid (HGR.out.trans (below_grown hB _))
        have HNI : Hid (h + 1 = m ∨ ∀ u v, ms[h + 1 - 1]? = some u → ms[a]? = some v → ltM u v = true) := Lib.hid (.inr fun u v hu hv => by
          rw [Nat.add_sub_cancel] at hu
          have h1 := HX2.out
          have h2 := HY2.out
          rw [hu] at h1
          rw [hv] at h2
          injection h1 with h1; injection h2 with h2
          subst h1; subst h2; exact HLB.out)
        clear HX HY HORDxy HLB HX2 HY2 hB hgl HROW HGR hlen HS1 HS2
        go_wp2
        go_roundw
        case rel => exact ⟨h + 1, j, by omega, by omega, by omega, by go_num, rfl, HNI, HJ, HROW4, HGR4⟩
        case measure => simp [intOf]; omega
    · obtain rfl : i = j := by omega
      go_wp2
      go_loopw [13] (fun p wi => ∃ (k : Nat) (ms2 : List MatV), a ≤ k ∧ k ≤ i - 1 ∧ p = .int .i64 k ∧ Hid (Up ms ms2 a k) ∧ Hid (Row base g c n ms2 wi) ∧ Hid (w.grownBy wi (some g))) (fun p _ => i - (intOf p).toNat)
      case atStart => exact ⟨a, ms, by omega, by omega, rfl, Lib.hid (Up.zero _ _), HROW, HGR⟩
      case round =>
        obtain ⟨k, ms2, hk1, hk2, rfl, HUP, HROW2, HGR2⟩ := hrel
        clear hgl
        obtain ⟨W2, rfl⟩ : ∃ W2 : World, W2 = wr := ⟨_, rfl⟩
        by_cases hlt2 : k < i - 1
        · as_aux_lemma =>
          clear HROW HGR hlt
          obtain ⟨W, rfl⟩ : ∃ W : World, W = W2 := ⟨_, rfl⟩
          obtain ⟨HROW, HGR⟩ : Hid (Row base g c n ms2 W) ∧ Hid (w.grownBy W (some g)) := ⟨HROW2, HGR2⟩
          have hgl : g < W.heap.size := by obtain ⟨cur, h0, _⟩ := HROW.out.bk; exact h0.lt
          have hlen2 := HROW.out.len
          obtain ⟨x, hx, hxm, hxc⟩ := HROW.out.cell (i := k) (by omega)
          obtain ⟨y, hy, hym, hyc⟩ := HROW.out.cell (i := k + 1) (by omega)
          have HX := Lib.hid hxc
          have HY := Lib.hid hyc
          have HOKx := Lib.hid (HROW.out.ok x hxm)
          have HOKy := Lib.hid (HROW.out.ok y hym)
          have HSW := Lib.hid (HUP.out.step (by omega) (by omega))
          have hsl := swapL_eq hx hy
          clear hxc hyc hxm hym hx hy HUP HROW2 HGR2
          go_upto_region 11 with fail
          refine wp_region_l 17 15 (some g) (by decide) (by kernel_rfl) (fun qk => (smR11 base g c n k ms2 x y).getD qk .any) (by kernel_rfl) ?_ ?_
          · refine BOkL.cons rfl [] [0] rfl _ rfl (by kernel_rfl) rfl (by kernel_rfl) (by kernel_rfl) (fun qK qa wr hB qO qF hK => ?_) ?_
            · have e0 : qa.tmps[0]? = some (.slice (some ⟨g, 0, none⟩) n c) := qO.1.trans rfl
              clear qO qF
              exact op_move _ rfl (ev e0) (hK _ _ (Below.refl _ _) rfl)
            refine BOkL.cons rfl [] [13] rfl _ rfl (by kernel_rfl) rfl (by kernel_rfl) (by kernel_rfl) (fun qK qa wr hB qO qF hK => ?_) ?_
            · have e13 : qa.tmps[13]? = some (.int .i64 (k : Nat)) := qO.1.trans rfl
              clear qO qF
              exact op_move _ rfl (ev e13) (hK _ _ (Below.refl _ _) rfl)
            refine BOkL.pure rfl [] [0] rfl rfl (by kernel_rfl) (by kernel_rfl) (.slice (some ⟨g, 0, none⟩) n c) rfl (fun qK qa wr qO qF hK => ?_) ?_
            · have e0 : qa.tmps[0]? = some (.slice (some ⟨g, 0, none⟩) n c) := qO.1.trans rfl
              clear qO qF
              exact op_move _ rfl (ev e0) (hK)
            refine BOkL.pure rfl [] [13] rfl rfl (by kernel_rfl) (by kernel_rfl) (.int .i64 (k : Nat)) rfl (fun qK qa wr qO qF hK => ?_) ?_
            · have e13 : qa.tmps[13]? = some (.int .i64 (k : Nat)) := qO.1.trans rfl
              clear qO qF
              exact op_move _ rfl (ev e13) (hK)
            refine BOkL.pure rfl [3] [] rfl rfl (by kernel_rfl) (by kernel_rfl) (.int .i64 (k + 1 : Nat)) rfl (fun qK qa wr qO qF hK => ?_) ?_
            · have e64 : qa.tmps[64]? = some (.int .i64 (k : Nat)) := fisL qF.1 rfl rfl
              clear qO qF
              exact op_add _ _ _ _ rfl (ev e64) rfl (by omega) (by omega) (by omega) (hK)
            refine BOkL.cons rfl [] [0] rfl _ rfl (by kernel_rfl) rfl (by kernel_rfl) (by kernel_rfl) (fun qK qa wr hB qO qF hK => ?_) ?_
            · have e0 : qa.tmps[0]? = some (.slice (some ⟨g, 0, none⟩) n c) := qO.1.trans rfl
              clear qO qF
              exact op_move _ rfl (ev e0) (hK _ _ (Below.refl _ _) rfl)
            refine BOkL.cons rfl [] [13] rfl _ rfl (by kernel_rfl) rfl (by kernel_rfl) (by kernel_rfl) (fun qK qa wr hB qO qF hK => ?_) ?_
            · have e13 : qa.tmps[13]? = some (.int .i64 (k : Nat)) := qO.1.trans rfl
              clear qO qF
              exact op_move _ rfl (ev e13) (hK _ _ (Below.refl _ _) rfl)
            refine BOkL.cons rfl [6] [] rfl _ rfl (by kernel_rfl) rfl (by kernel_rfl) (by kernel_rfl) (fun qK qa wr hB qO qF hK => ?_) ?_
            · have e67 : qa.tmps[67]? = some (.int .i64 (k : Nat)) := fis qF.1 rfl rfl
              clear qO qF
              exact op_add _ _ _ _ rfl (ev e67) rfl (by omega) (by omega) (by omega) (hK _ _ (Below.refl _ _) rfl)
            refine BOkL.cons rfl [5, 7] [] rfl _ rfl (by kernel_rfl) rfl (by kernel_rfl) (by kernel_rfl) (fun qK qa wr hB qO qF hK => ?_) ?_
            · have e66 : qa.tmps[66]? = some (.slice (some ⟨g, 0, none⟩) n c) := fis qF.1 rfl rfl
              have e68 : qa.tmps[68]? = some (.int .i64 (k + 1 : Nat)) := fis qF.2.1 rfl rfl
              clear qO qF
              exact op_index _ _ rfl (ev e66) (ev e68) (by omega) (hK _ _ (Below.refl _ _) rfl)
            refine BOkL.cons rfl [8] [] rfl _ rfl (by kernel_rfl) rfl (by kernel_rfl) (by kernel_rfl) (fun qK qa wr hB qO qF hK => ?_) ?_
            · have e69 : qa.tmps[69]? = some (.pointer (some ⟨g, (k + 1) * 3, none⟩)) := fis qF.1 rfl rfl
              clear qO qF
              exact op_load _ rfl (ev e69) (fun j u hu => (bcell hB _ _ hgl).trans (HY.out j u hu)) (hK _ _ (Below.refl _ _) rfl)
            refine BOkL.cons rfl [] [0] rfl _ rfl (by kernel_rfl) rfl (by kernel_rfl) (by kernel_rfl) (fun qK qa wr hB qO qF hK => ?_) ?_
            · have e0 : qa.tmps[0]? = some (.slice (some ⟨g, 0, none⟩) n c) := qO.1.trans rfl
              clear qO qF
              exact op_move _ rfl (ev e0) (hK _ _ (Below.refl _ _) rfl)
            refine BOkL.cons rfl [] [13] rfl _ rfl (by kernel_rfl) rfl (by kernel_rfl) (by kernel_rfl) (fun qK qa wr hB qO qF hK => ?_) ?_
            · have e13 : qa.tmps[13]? = some (.int .i64 (k : Nat)) := qO.1.trans rfl
              clear qO qF
              exact op_move _ rfl (ev e13) (hK _ _ (Below.refl _ _) rfl)
            refine BOkL.cons rfl [10, 11] [] rfl _ rfl (by kernel_rfl) rfl (by kernel_rfl) (by kernel_rfl) (fun qK qa wr hB qO qF hK => ?_) ?_
            · have e71 : qa.tmps[71]? = some (.slice (some ⟨g, 0, none⟩) n c) := fis qF.1 rfl rfl
              have e72 : qa.tmps[72]? = some (.int .i64 (k : Nat)) := fis qF.2.1 rfl rfl
              clear qO qF
              exact op_index _ _ rfl (ev e71) (ev e72) (by omega) (hK _ _ (Below.refl _ _) rfl)
            refine BOkL.cons rfl [12] [] rfl _ rfl (by kernel_rfl) rfl (by kernel_rfl) (by kernel_rfl) (fun qK qa wr hB qO qF hK => ?_) ?_
            · have e73 : qa.tmps[73]? = some (.pointer (some ⟨g, (k) * 3, none⟩)) := fis qF.1 rfl rfl
              clear qO qF
              exact op_load _ rfl (ev e73) (fun j u hu => (bcell hB _ _ hgl).trans (HX.out j u hu)) (hK _ _ (Below.refl _ _) rfl)
            refine BOkL.cons rfl [0, 1] [] rfl _ rfl (by kernel_rfl) rfl (by kernel_rfl) (by kernel_rfl) (fun qK qa wr hB qO qF hK => ?_) ?_
            · have e61 : qa.tmps[61]? = some (.slice (some ⟨g, 0, none⟩) n c) := fis qF.1 rfl rfl
              have e62 : qa.tmps[62]? = some (.int .i64 (k : Nat)) := fis qF.2.1 rfl rfl
              clear qO qF
              exact op_index _ _ rfl (ev e61) (ev e62) (by omega) (hK _ _ (Below.refl _ _) rfl)
            refine BOkL.app rfl [9, 14] [] rfl (by kernel_rfl) (by kernel_rfl) (fun qK qa wr hB qO qF hK => ?_) ?_
            · have e70 : qa.tmps[70]? = some (y.val) := fis qF.1 rfl rfl
              have e75 : qa.tmps[75]? = some (.pointer (some ⟨g, (k) * 3, none⟩)) := fis qF.2.1 rfl rfl
              clear qO qF
              obtain ⟨w9, hr9, hw9, hg9, hz9⟩ := (HROW.out.old hB).put (i := k) (m := y) (by omega) (fun w2 h2 => HOKy.out w2 ((below_grown hB _).trans h2))
              exact op_ofu (by unfold execOp; simp only [ev e75, ev e70]) hr9 (hK undef w9 ((below_grown hB _).trans hg9) (by omega) hw9)
            refine BOkL.pure rfl [2, 4] [] rfl rfl (by kernel_rfl) (by kernel_rfl) (.pointer (some ⟨g, (k + 1) * 3, none⟩)) rfl (fun qK qa wr qO qF hK => ?_) ?_
            · have e63 : qa.tmps[63]? = some (.slice (some ⟨g, 0, none⟩) n c) := fisL qF.1 rfl rfl
              have e65 : qa.tmps[65]? = some (.int .i64 (k + 1 : Nat)) := fisL qF.2.1 rfl rfl
              clear qO qF
              exact op_index _ _ rfl (ev e63) (ev e65) (by omega) (hK)
            exact BOkL.nil
          intro vals wr hl hG hR
          match vals, hl with
          | [q61, q62, q63, q64, q65, q66, q67, q68, q69, q70, q71, q72, q73, q74, q75, qn15, q76], _ =>
          have r13 : q74 = x.val := hR 13 _ rfl
          subst r13
          have r15 : (fun v w => Row base g c n (ms2.set (k) y) w) qn15 wr := both_at (hR 15 _ rfl)
          have r16 : q76 = .pointer (some ⟨g, (k + 1) * 3, none⟩) := hR 16 _ rfl
          subst r16
          clear hR
          simp only [List.take_succ_cons, List.take_zero, List.drop_succ_cons, List.drop_zero, List.toList_toArray, List.cons_append, List.nil_append, putAll, Act.put, List.setIfInBounds_toArray, List.set_cons_zero, List.set_cons_succ]
          go_wp2_with (first | (refine wpList_putR rfl _ _ rfl rfl rfl r15 (by omega) (fun w2 h2 => HOKx.out w2 (hG.trans h2)) ?_; intro w9 p9 g9 z9))
          go_roundw
          case rel => exact ⟨k + 1, by omega, by omega, by omega, swapL ms2 k (k + 1), HSW, Lib.hid (by rw [hsl]; exact p9), Lib.hid (HGR.out.trans (hG.trans g9))⟩
          case measure => simp [intOf]; omega
        · have hkb : k = i - 1 := by omega
          go_wp2
          refine bodyPost_ret (v := .tuple #[]) (by simp [results, Tryd.results35, go_sem]) rfl ?_
          rw [hkb] at HUP
          exact ⟨rfl, ms2, HUP.out.moved.wide (Nat.le_refl _) (by omega), up_found cmp_lt (by omega) (by omega) (by omega) (by rw [← hm]; exact HS2.out) HUP.out (by rw [← hm]; exact HI.out) HJ.out, HROW2.out, HGR2.out⟩
end Go.Proofs.YtbopndepklafgaaDoor
