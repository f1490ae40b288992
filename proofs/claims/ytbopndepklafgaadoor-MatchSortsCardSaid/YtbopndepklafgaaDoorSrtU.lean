/- symMerge, one on the right: rows of matches, by the program's library. No conditions. -/
import Derived.Test.YtbopndepklafgaaDoorSrtI
namespace Go.Proofs.YtbopndepklafgaaDoor
open Go.RowKit
set_option maxRecDepth 10000
set_option linter.unusedVariables false
set_option linter.unusedSimpArgs false
def smR17 (base g c n m h : Nat) (x y : MatV) (lb : Bool) : List Spec := [.is (.func (.func 13) #[] #[]),
  .is (.slice (some ⟨g, 0, none⟩) n c),
  .is (.int .i64 (m : Nat)),
  .is (.pointer (some ⟨g, (m) * 3, none⟩)),
  .is (x.val),
  .is (.slice (some ⟨g, 0, none⟩) n c),
  .is (.int .i64 (h : Nat)),
  .is (.pointer (some ⟨g, (h) * 3, none⟩)),
  .is (y.val),
  .is (.int .i64 (x.ord y)),
  .is (.bool lb),
  .is (.bool (!lb))]
def smR23 (base g c n k : Nat) (ms2 : List MatV) (x y : MatV) : List Spec := [.is (.slice (some ⟨g, 0, none⟩) n c),
  .is (.int .i64 (k : Nat)),
  .is (.slice (some ⟨g, 0, none⟩) n c),
  .is (.int .i64 (k : Nat)),
  .is (.int .i64 (k - 1 : Nat)),
  .is (.slice (some ⟨g, 0, none⟩) n c),
  .is (.int .i64 (k : Nat)),
  .is (.int .i64 (k - 1 : Nat)),
  .is (.pointer (some ⟨g, (k - 1) * 3, none⟩)),
  .is (y.val),
  .is (.slice (some ⟨g, 0, none⟩) n c),
  .is (.int .i64 (k : Nat)),
  .is (.pointer (some ⟨g, (k) * 3, none⟩)),
  .is (x.val),
  .is (.pointer (some ⟨g, (k) * 3, none⟩)),
  .st (fun v w => Row base g c n (ms2.set (k) y) w) (fun _ _ _ hb h => h.old hb),
  .is (.pointer (some ⟨g, (k - 1) * 3, none⟩))]
theorem dn_step {l l' : List MatV} {k m : Nat} (h : Dn l l' k m) (hk : 0 < k) (hkm : k ≤ m) (hlen : m < l.length) : Dn l (swapL l' k (k - 1)) (k - 1) m := by
  obtain ⟨p, rfl⟩ : ∃ p, k = p + 1 := ⟨k - 1, by omega⟩
  exact h.step hkm hlen

set_option maxRecDepth 100000 in
set_option maxHeartbeats 8000000 in
theorem symlast_any (base g c n a m b : Nat) (ms : List MatV) (w : World) (h : Row base g c n ms w) (ham : a + 1 < m) (hm : b = m + 1) (hbn : b ≤ n) (hn : n ≤ 3518437208880) (hs1 : Srt (Le ltM) ms a m) (hs2 : Srt (Le ltM) ms m b) :
    Calls Tryd.prog 35 #[.slice (some ⟨g, 0, none⟩) n c, .int .i64 a, .int .i64 m, .int .i64 b, .func (.func 13) #[] #[]] w fun r w' => r = .returned (.tuple #[]) ∧ ∃ ms', Moved ms ms' a b ∧ Srt (Le ltM) ms' a b ∧ Row base g c n ms' w' ∧ w.grownBy w' (some g) := by
  have HR := Lib.hid h
  have HS1 := Lib.hid hs1
  have HS2 := Lib.hid hs2
  have hlen := h.len
  clear h hs1 hs2
  go_enter Tryd.func35, Tryd.ntmps35
  go_wp2
  go_loopw [14, 15] (fun p q wr => ∃ (i j : Nat), a ≤ i ∧ i ≤ j ∧ j ≤ m ∧ p = .int .i64 i ∧ q = .int .i64 j ∧ Hid (i = a ∨ ∀ u v, ms[i - 1]? = some u → ms[m]? = some v → ltM v u = false) ∧ Hid (j = m ∨ ∀ u v, ms[j]? = some u → ms[m]? = some v → ltM v u = true) ∧ Hid (Row base g c n ms wr) ∧ Hid (w.grownBy wr (some g))) (fun p q _ => (intOf q).toNat - (intOf p).toNat)
  case atStart => exact ⟨a, m, by omega, by omega, by omega, rfl, rfl, Lib.hid (.inl rfl), Lib.hid (.inl rfl), HR, Lib.hid (World.grownBy.refl _ _)⟩
  case round =>
    obtain ⟨i, j, hi, hij, hj, rfl, rfl, HI, HJ, HROW, HGR⟩ := hrel
    obtain ⟨W, rfl⟩ : ∃ W : World, W = wr := ⟨_, rfl⟩
    have hgl : g < W.heap.size := by obtain ⟨cur, h0, _⟩ := HROW.out.bk; exact h0.lt
    by_cases hlt : i < j
    · as_aux_lemma =>
      go_upto_region 17 with fail
      obtain ⟨h, hh⟩ : ∃ h, h = (i + j) / 2 := ⟨_, rfl⟩
      have ehI : ((i : Int) + (j : Int)) / 2 = (h : Int) := by omega
      simp only [ehI]
      have hih : i ≤ h := by omega
      have hhj : h < j := by omega
      have hhn : h < 3518437208880 := by omega
      clear ehI hh
      obtain ⟨x, hx, hxm, hxc⟩ := HROW.out.cell (i := m) (by omega)
      obtain ⟨y, hy, hym, hyc⟩ := HROW.out.cell (i := h) (by omega)
      have HX := Lib.hid hxc
      have HY := Lib.hid hyc
      have HORDxy : Hid (∀ wx : World, W.grownBy wx (some g) → Calls Tryd.prog 13 #[x.val, y.val] wx fun r w' => r = .returned (.int .i64 (x.ord y)) ∧ Below wx.heap.size wx w') := Lib.hid fun wx hg => ord_any x y wx (HROW.out.ok x hxm wx hg) (HROW.out.ok y hym wx hg)
      obtain ⟨lb, hlb⟩ : ∃ lb : Bool, ltM x y = lb := ⟨_, rfl⟩
      have HLB : Hid (decide (x.ord y < 0) = lb) := Lib.hid hlb
      have HX2 : Hid (ms[m]? = some x) := Lib.hid hx
      have HY2 : Hid (ms[h]? = some y) := Lib.hid hy
      clear hxc hyc hx hy hlb hxm hym
      refine wp_region_b (by kernel_rfl) (fun qk => (smR17 base g c n m h x y lb).getD qk .any) (by kernel_rfl) ?_ ?_
      · refine BOk.cons rfl [] [4] rfl rfl (by kernel_rfl) (by kernel_rfl) (fun qK qa wr hB qO qF hK => ?_) ?_
        · have e4 : qa.tmps[4]? = some (.func (.func 13) #[] #[]) := qO.1.trans rfl
          clear qO qF
          exact op_move _ rfl (ev e4) (hK _ _ (Below.refl _ _) rfl)
        refine BOk.cons rfl [] [0] rfl rfl (by kernel_rfl) (by kernel_rfl) (fun qK qa wr hB qO qF hK => ?_) ?_
        · have e0 : qa.tmps[0]? = some (.slice (some ⟨g, 0, none⟩) n c) := qO.1.trans rfl
          clear qO qF
          exact op_move _ rfl (ev e0) (hK _ _ (Below.refl _ _) rfl)
        refine BOk.cons rfl [] [2] rfl rfl (by kernel_rfl) (by kernel_rfl) (fun qK qa wr hB qO qF hK => ?_) ?_
        · have e2 : qa.tmps[2]? = some (.int .i64 (m : Nat)) := qO.1.trans rfl
          clear qO qF
          exact op_move _ rfl (ev e2) (hK _ _ (Below.refl _ _) rfl)
        refine BOk.cons rfl [1, 2] [] rfl rfl (by kernel_rfl) (by kernel_rfl) (fun qK qa wr hB qO qF hK => ?_) ?_
        · have e93 : qa.tmps[93]? = some (.slice (some ⟨g, 0, none⟩) n c) := fis qF.1 rfl rfl
          have e94 : qa.tmps[94]? = some (.int .i64 (m : Nat)) := fis qF.2.1 rfl rfl
          clear qO qF
          exact op_index _ _ rfl (ev e93) (ev e94) (by omega) (hK _ _ (Below.refl _ _) rfl)
        refine BOk.cons rfl [3] [] rfl rfl (by kernel_rfl) (by kernel_rfl) (fun qK qa wr hB qO qF hK => ?_) ?_
        · have e95 : qa.tmps[95]? = some (.pointer (some ⟨g, (m) * 3, none⟩)) := fis qF.1 rfl rfl
          clear qO qF
          exact op_load _ rfl (ev e95) (fun j u hu => (bcell hB _ _ hgl).trans (HX.out j u hu)) (hK _ _ (Below.refl _ _) rfl)
        refine BOk.cons rfl [] [0] rfl rfl (by kernel_rfl) (by kernel_rfl) (fun qK qa wr hB qO qF hK => ?_) ?_
        · have e0 : qa.tmps[0]? = some (.slice (some ⟨g, 0, none⟩) n c) := qO.1.trans rfl
          clear qO qF
          exact op_move _ rfl (ev e0) (hK _ _ (Below.refl _ _) rfl)
        refine BOk.cons rfl [] [16] rfl rfl (by kernel_rfl) (by kernel_rfl) (fun qK qa wr hB qO qF hK => ?_) ?_
        · have e16 : qa.tmps[16]? = some (.int .i64 (h : Nat)) := qO.1.trans rfl
          clear qO qF
          exact op_move _ rfl (ev e16) (hK _ _ (Below.refl _ _) rfl)
        refine BOk.cons rfl [5, 6] [] rfl rfl (by kernel_rfl) (by kernel_rfl) (fun qK qa wr hB qO qF hK => ?_) ?_
        · have e97 : qa.tmps[97]? = some (.slice (some ⟨g, 0, none⟩) n c) := fis qF.1 rfl rfl
          have e98 : qa.tmps[98]? = some (.int .i64 (h : Nat)) := fis qF.2.1 rfl rfl
          clear qO qF
          exact op_index _ _ rfl (ev e97) (ev e98) (by omega) (hK _ _ (Below.refl _ _) rfl)
        refine BOk.cons rfl [7] [] rfl rfl (by kernel_rfl) (by kernel_rfl) (fun qK qa wr hB qO qF hK => ?_) ?_
        · have e99 : qa.tmps[99]? = some (.pointer (some ⟨g, (h) * 3, none⟩)) := fis qF.1 rfl rfl
          clear qO qF
          exact op_load _ rfl (ev e99) (fun j u hu => (bcell hB _ _ hgl).trans (HY.out j u hu)) (hK _ _ (Below.refl _ _) rfl)
        refine BOk.cons rfl [0, 4, 8] [] rfl rfl (by kernel_rfl) (by kernel_rfl) (fun qK qa wr hB qO qF hK => ?_) ?_
        · have e92 : qa.tmps[92]? = some (.func (.func 13) #[] #[]) := fis qF.1 rfl rfl
          have e96 : qa.tmps[96]? = some (x.val) := fis qF.2.1 rfl rfl
          have e100 : qa.tmps[100]? = some (y.val) := fis qF.2.2.1 rfl rfl
          clear qO qF
          go_simp
          go_at_call 13
          refine (HORDxy.out wr (below_grown hB _)).mono ?_
          rintro r w2 ⟨rfl, hb2⟩
          exact hK _ _ hb2 rfl
        refine BOk.cons rfl [9] [] rfl rfl (by kernel_rfl) (by kernel_rfl) (fun qK qa wr hB qO qF hK => ?_) ?_
        · have e101 : qa.tmps[101]? = some (.int .i64 (x.ord y)) := fis qF.1 rfl rfl
          clear qO qF
          exact op_lss _ _ _ _ rfl (ev e101) rfl (HLB.out) (hK _ _ (Below.refl _ _) rfl)
        refine BOk.cons rfl [10] [] rfl rfl (by kernel_rfl) (by kernel_rfl) (fun qK qa wr hB qO qF hK => ?_) ?_
        · have e102 : qa.tmps[102]? = some (.bool lb) := fis qF.1 rfl rfl
          clear qO qF
          exact op_not _ _ rfl (ev e102) (hK _ _ (Below.refl _ _) rfl)
        exact BOk.nil
      intro vals W5 hl hB hR
      match vals, hl with
      | [u92, u93, u94, u95, u96, u97, u98, u99, u100, u101, u102, u103], _ =>
      have r11 : u103 = .bool (!lb) := hR 11 _ rfl
      subst r11
      clear hR
      simp only [List.cons_append, List.nil_append, putAll, Act.put, List.setIfInBounds_toArray, List.set_cons_zero, List.set_cons_succ]
      cases lb
      · as_aux_lemma =>
        have HROW4 := Lib.hid (HROW.out.old hB)
        have HGR4 := Lib.hid (HGR.out.trans (below_grown hB _))
        have HNI : Hid (h + 1 = a ∨ ∀ u v, ms[h + 1 - 1]? = some u → ms[m]? = some v → ltM v u = false) := Lib.hid (.inr fun u v hu hv => by
          rw [Nat.add_sub_cancel] at hu
          have h1 := HX2.out
          have h2 := HY2.out
          rw [hv] at h1
          rw [hu] at h2
          injection h1 with h1; injection h2 with h2
          subst h1; subst h2; exact HLB.out)
        clear HX HY HORDxy HLB HX2 HY2 hB hgl HROW HGR hlen HS1 HS2
        go_wp2
        go_roundw
        case rel => exact ⟨h + 1, j, by omega, by omega, by omega, by go_num, rfl, HNI, HJ, HROW4, HGR4⟩
        case measure => simp [intOf]; omega
      · as_aux_lemma =>
        have HROW4 := Lib.hid (HROW.out.old hB)
        have HGR4 := Lib.hid (HGR.out.trans (below_grown hB _))
        have HNJ : Hid (h = m ∨ ∀ u v, ms[h]? = some u → ms[m]? = some v → ltM v u = true) := Lib.hid (.inr fun u v hu hv => by
          have h1 := HX2.out
          have h2 := HY2.out
          rw [hv] at h1
          rw [hu] at h2
          injection h1 with h1; injection h2 with h2
          subst h1; subst h2; exact HLB.out)
        clear HX HY HORDxy HLB HX2 HY2 hB hgl HROW HGR hlen HS1 HS2
        go_wp2
        go_roundw
        case rel => exact ⟨i, h, by omega, by omega, by omega, rfl, rfl, HI, HNJ, HROW4, HGR4⟩
        case measure => simp [intOf]; omega
    · obtain rfl : i = j := by omega
      go_wp2
      go_loopw [17] (fun p wi => ∃ (k : Nat) (ms2 : List MatV), i ≤ k ∧ k ≤ m ∧ p = .int .i64 k ∧ Hid (Dn ms ms2 k m) ∧ Hid (Row base g c n ms2 wi) ∧ Hid (w.grownBy wi (some g))) (fun p _ => (intOf p).toNat)
      case atStart => exact ⟨m, ms, by omega, by omega, rfl, Lib.hid (Dn.zero _ _), HROW, HGR⟩
      case round =>
        obtain ⟨k, ms2, hk1, hk2, rfl, HUP, HROW2, HGR2⟩ := hrel
        clear hgl
        obtain ⟨W2, rfl⟩ : ∃ W2 : World, W2 = wr := ⟨_, rfl⟩
        by_cases hlt2 : i < k
        · as_aux_lemma =>
          clear HROW HGR hlt
          obtain ⟨W, rfl⟩ : ∃ W : World, W = W2 := ⟨_, rfl⟩
          obtain ⟨HROW, HGR⟩ : Hid (Row base g c n ms2 W) ∧ Hid (w.grownBy W (some g)) := ⟨HROW2, HGR2⟩
          have hgl : g < W.heap.size := by obtain ⟨cur, h0, _⟩ := HROW.out.bk; exact h0.lt
          have hlen2 := HROW.out.len
          obtain ⟨x, hx, hxm, hxc⟩ := HROW.out.cell (i := k) (by omega)
          obtain ⟨y, hy, hym, hyc⟩ := HROW.out.cell (i := k - 1) (by omega)
          have HX := Lib.hid hxc
          have HY := Lib.hid hyc
          have HOKx := Lib.hid (HROW.out.ok x hxm)
          have HOKy := Lib.hid (HROW.out.ok y hym)
          have HSW := Lib.hid (dn_step HUP.out (by omega) (by omega) (by omega))
          have hsl := swapL_eq hx hy
          clear hxc hyc hxm hym hx hy HUP HROW2 HGR2
          go_upto_region 23 with fail
          refine wp_region_l 17 15 (some g) (by decide) (by kernel_rfl) (fun qk => (smR23 base g c n k ms2 x y).getD qk .any) (by kernel_rfl) ?_ ?_
          · refine BOkL.cons rfl [] [0] rfl _ rfl (by kernel_rfl) rfl (by kernel_rfl) (by kernel_rfl) (fun qK qa wr hB qO qF hK => ?_) ?_
            · have e0 : qa.tmps[0]? = some (.slice (some ⟨g, 0, none⟩) n c) := qO.1.trans rfl
              clear qO qF
              exact op_move _ rfl (ev e0) (hK _ _ (Below.refl _ _) rfl)
            refine BOkL.cons rfl [] [17] rfl _ rfl (by kernel_rfl) rfl (by kernel_rfl) (by kernel_rfl) (fun qK qa wr hB qO qF hK => ?_) ?_
            · have e17 : qa.tmps[17]? = some (.int .i64 (k : Nat)) := qO.1.trans rfl
              clear qO qF
              exact op_move _ rfl (ev e17) (hK _ _ (Below.refl _ _) rfl)
            refine BOkL.pure rfl [] [0] rfl rfl (by kernel_rfl) (by kernel_rfl) (.slice (some ⟨g, 0, none⟩) n c) rfl (fun qK qa wr qO qF hK => ?_) ?_
            · have e0 : qa.tmps[0]? = some (.slice (some ⟨g, 0, none⟩) n c) := qO.1.trans rfl
              clear qO qF
              exact op_move _ rfl (ev e0) (hK)
            refine BOkL.pure rfl [] [17] rfl rfl (by kernel_rfl) (by kernel_rfl) (.int .i64 (k : Nat)) rfl (fun qK qa wr qO qF hK => ?_) ?_
            · have e17 : qa.tmps[17]? = some (.int .i64 (k : Nat)) := qO.1.trans rfl
              clear qO qF
              exact op_move _ rfl (ev e17) (hK)
            refine BOkL.pure rfl [3] [] rfl rfl (by kernel_rfl) (by kernel_rfl) (.int .i64 (k - 1 : Nat)) rfl (fun qK qa wr qO qF hK => ?_) ?_
            · have e116 : qa.tmps[116]? = some (.int .i64 (k : Nat)) := fisL qF.1 rfl rfl
              clear qO qF
              exact op_sub _ _ _ _ rfl (ev e116) rfl (by omega) (by omega) (by omega) (hK)
            refine BOkL.cons rfl [] [0] rfl _ rfl (by kernel_rfl) rfl (by kernel_rfl) (by kernel_rfl) (fun qK qa wr hB qO qF hK => ?_) ?_
            · have e0 : qa.tmps[0]? = some (.slice (some ⟨g, 0, none⟩) n c) := qO.1.trans rfl
              clear qO qF
              exact op_move _ rfl (ev e0) (hK _ _ (Below.refl _ _) rfl)
            refine BOkL.cons rfl [] [17] rfl _ rfl (by kernel_rfl) rfl (by kernel_rfl) (by kernel_rfl) (fun qK qa wr hB qO qF hK => ?_) ?_
            · have e17 : qa.tmps[17]? = some (.int .i64 (k : Nat)) := qO.1.trans rfl
              clear qO qF
              exact op_move _ rfl (ev e17) (hK _ _ (Below.refl _ _) rfl)
            refine BOkL.cons rfl [6] [] rfl _ rfl (by kernel_rfl) rfl (by kernel_rfl) (by kernel_rfl) (fun qK qa wr hB qO qF hK => ?_) ?_
            · have e119 : qa.tmps[119]? = some (.int .i64 (k : Nat)) := fis qF.1 rfl rfl
              clear qO qF
              exact op_sub _ _ _ _ rfl (ev e119) rfl (by omega) (by omega) (by omega) (hK _ _ (Below.refl _ _) rfl)
            refine BOkL.cons rfl [5, 7] [] rfl _ rfl (by kernel_rfl) rfl (by kernel_rfl) (by kernel_rfl) (fun qK qa wr hB qO qF hK => ?_) ?_
            · have e118 : qa.tmps[118]? = some (.slice (some ⟨g, 0, none⟩) n c) := fis qF.1 rfl rfl
              have e120 : qa.tmps[120]? = some (.int .i64 (k - 1 : Nat)) := fis qF.2.1 rfl rfl
              clear qO qF
              exact op_index _ _ rfl (ev e118) (ev e120) (by omega) (hK _ _ (Below.refl _ _) rfl)
            refine BOkL.cons rfl [8] [] rfl _ rfl (by kernel_rfl) rfl (by kernel_rfl) (by kernel_rfl) (fun qK qa wr hB qO qF hK => ?_) ?_
            · have e121 : qa.tmps[121]? = some (.pointer (some ⟨g, (k - 1) * 3, none⟩)) := fis qF.1 rfl rfl
              clear qO qF
              exact op_load _ rfl (ev e121) (fun j u hu => (bcell hB _ _ hgl).trans (HY.out j u hu)) (hK _ _ (Below.refl _ _) rfl)
            refine BOkL.cons rfl [] [0] rfl _ rfl (by kernel_rfl) rfl (by kernel_rfl) (by kernel_rfl) (fun qK qa wr hB qO qF hK => ?_) ?_
            · have e0 : qa.tmps[0]? = some (.slice (some ⟨g, 0, none⟩) n c) := qO.1.trans rfl
              clear qO qF
              exact op_move _ rfl (ev e0) (hK _ _ (Below.refl _ _) rfl)
            refine BOkL.cons rfl [] [17] rfl _ rfl (by kernel_rfl) rfl (by kernel_rfl) (by kernel_rfl) (fun qK qa wr hB qO qF hK => ?_) ?_
            · have e17 : qa.tmps[17]? = some (.int .i64 (k : Nat)) := qO.1.trans rfl
              clear qO qF
              exact op_move _ rfl (ev e17) (hK _ _ (Below.refl _ _) rfl)
            refine BOkL.cons rfl [10, 11] [] rfl _ rfl (by kernel_rfl) rfl (by kernel_rfl) (by kernel_rfl) (fun qK qa wr hB qO qF hK => ?_) ?_
            · have e123 : qa.tmps[123]? = some (.slice (some ⟨g, 0, none⟩) n c) := fis qF.1 rfl rfl
              have e124 : qa.tmps[124]? = some (.int .i64 (k : Nat)) := fis qF.2.1 rfl rfl
              clear qO qF
              exact op_index _ _ rfl (ev e123) (ev e124) (by omega) (hK _ _ (Below.refl _ _) rfl)
            refine BOkL.cons rfl [12] [] rfl _ rfl (by kernel_rfl) rfl (by kernel_rfl) (by kernel_rfl) (fun qK qa wr hB qO qF hK => ?_) ?_
            · have e125 : qa.tmps[125]? = some (.pointer (some ⟨g, (k) * 3, none⟩)) := fis qF.1 rfl rfl
              clear qO qF
              exact op_load _ rfl (ev e125) (fun j u hu => (bcell hB _ _ hgl).trans (HX.out j u hu)) (hK _ _ (Below.refl _ _) rfl)
            refine BOkL.cons rfl [0, 1] [] rfl _ rfl (by kernel_rfl) rfl (by kernel_rfl) (by kernel_rfl) (fun qK qa wr hB qO qF hK => ?_) ?_
            · have e113 : qa.tmps[113]? = some (.slice (some ⟨g, 0, none⟩) n c) := fis qF.1 rfl rfl
              have e114 : qa.tmps[114]? = some (.int .i64 (k : Nat)) := fis qF.2.1 rfl rfl
              clear qO qF
              exact op_index _ _ rfl (ev e113) (ev e114) (by omega) (hK _ _ (Below.refl _ _) rfl)
            refine BOkL.app rfl [9, 14] [] rfl (by kernel_rfl) (by kernel_rfl) (fun qK qa wr hB qO qF hK => ?_) ?_
            · have e122 : qa.tmps[122]? = some (y.val) := fis qF.1 rfl rfl
              have e127 : qa.tmps[127]? = some (.pointer (some ⟨g, (k) * 3, none⟩)) := fis qF.2.1 rfl rfl
              clear qO qF
              obtain ⟨w9, hr9, hw9, hg9, hz9⟩ := (HROW.out.old hB).put (i := k) (m := y) (by omega) (fun w2 h2 => HOKy.out w2 ((below_grown hB _).trans h2))
              exact op_ofu (by unfold execOp; simp only [ev e127, ev e122]) hr9 (hK undef w9 ((below_grown hB _).trans hg9) (by omega) hw9)
            refine BOkL.pure rfl [2, 4] [] rfl rfl (by kernel_rfl) (by kernel_rfl) (.pointer (some ⟨g, (k - 1) * 3, none⟩)) rfl (fun qK qa wr qO qF hK => ?_) ?_
            · have e115 : qa.tmps[115]? = some (.slice (some ⟨g, 0, none⟩) n c) := fisL qF.1 rfl rfl
              have e117 : qa.tmps[117]? = some (.int .i64 (k - 1 : Nat)) := fisL qF.2.1 rfl rfl
              clear qO qF
              exact op_index _ _ rfl (ev e115) (ev e117) (by omega) (hK)
            exact BOkL.nil
          intro vals wr hl hG hR
          match vals, hl with
          | [q113, q114, q115, q116, q117, q118, q119, q120, q121, q122, q123, q124, q125, q126, q127, qn15, q128], _ =>
          have r13 : q126 = x.val := hR 13 _ rfl
          subst r13
          have r15 : (fun v w => Row base g c n (ms2.set (k) y) w) qn15 wr := both_at (hR 15 _ rfl)
          have r16 : q128 = .pointer (some ⟨g, (k - 1) * 3, none⟩) := hR 16 _ rfl
          subst r16
          clear hR
          simp only [List.take_succ_cons, List.take_zero, List.drop_succ_cons, List.drop_zero, List.toList_toArray, List.cons_append, List.nil_append, putAll, Act.put, List.setIfInBounds_toArray, List.set_cons_zero, List.set_cons_succ]
          go_wp2_with (first | (refine wpList_putR rfl _ _ rfl rfl rfl r15 (by omega) (fun w2 h2 => HOKx.out w2 (hG.trans h2)) ?_; intro w9 p9 g9 z9))
          go_roundw
          case rel => exact ⟨k - 1, by omega, by omega, by omega, swapL ms2 k (k - 1), HSW, Lib.hid (by rw [hsl]; exact p9), Lib.hid (HGR.out.trans (hG.trans g9))⟩
          case measure => simp [intOf]; omega
        · have hkb : k = i := by omega
          go_wp2
          refine bodyPost_ret (v := .tuple #[]) (by simp [results, Tryd.results35, go_sem]) rfl ?_
          rw [hkb] at HUP
          exact ⟨rfl, ms2, HUP.out.moved.wide (by omega) (by omega), by rw [hm]; exact dn_found cmp_lt (by omega) (by omega) (by omega) HS1.out HUP.out HI.out HJ.out, HROW2.out, HGR2.out⟩
end Go.Proofs.YtbopndepklafgaaDoor
