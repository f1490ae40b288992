/- symMerge, by halves: rows of matches, by the program's library. No conditions. -/
import Derived.Test.YtbopndepklafgaaDoorSrtT
import Derived.Test.YtbopndepklafgaaDoorSrtU
namespace Go.Proofs.YtbopndepklafgaaDoor
open Go.RowKit
set_option maxRecDepth 10000
set_option linter.unusedVariables false
set_option linter.unusedSimpArgs false
def smR35 (base g c n p h : Nat) (x y : MatV) (lb : Bool) : List Spec := [.is (.func (.func 13) #[] #[]),
  .is (.slice (some ⟨g, 0, none⟩) n c),
  .is (.int .i64 (p : Nat)),
  .is (.int .i64 (h : Nat)),
  .is (.int .i64 (p - h : Nat)),
  .is (.pointer (some ⟨g, (p - h) * 3, none⟩)),
  .is (x.val),
  .is (.slice (some ⟨g, 0, none⟩) n c),
  .is (.int .i64 (h : Nat)),
  .is (.pointer (some ⟨g, (h) * 3, none⟩)),
  .is (y.val),
  .is (.int .i64 (x.ord y)),
  .is (.bool lb),
  .is (.bool (!lb))]

/-- symMerge puts in order what is no longer than d. -/
def SymOk (base g c n d : Nat) : Prop := ∀ (a m b : Nat) (ms : List MatV) (w : World) (pa pm pb : Int), pa = a → pm = m → pb = b → b - a ≤ d → a < m → m < b → b ≤ n → Row base g c n ms w → Srt (Le ltM) ms a m → Srt (Le ltM) ms m b →
  Calls Tryd.prog 35 #[.slice (some ⟨g, 0, none⟩) n c, .int .i64 pa, .int .i64 pm, .int .i64 pb, .func (.func 13) #[] #[]] w fun r w' => r = .returned (.tuple #[]) ∧ ∃ ms', Moved ms ms' a b ∧ Srt (Le ltM) ms' a b ∧ Row base g c n ms' w' ∧ w.grownBy w' (some g)
theorem rot_int (base g c n a m b : Nat) (ms : List MatV) (f : Value) (w : World) (pa pm pb : Int) (ha : pa = a) (hm : pm = m) (hb : pb = b) (h : Row base g c n ms w) (ham : a < m) (hmb : m < b) (hbn : b ≤ n) (hn : n ≤ 3518437208880) :
    Calls Tryd.prog 47 #[.slice (some ⟨g, 0, none⟩) n c, .int .i64 pa, .int .i64 pm, .int .i64 pb, f] w fun r w' => r = .returned (.tuple #[]) ∧ ∃ ms', Rotated ms ms' a m b ∧ Row base g c n ms' w' ∧ w.grownBy w' (some g) := by
  subst ha; subst hm; subst hb
  exact rot_any base g c n a m b ms f w h ham hmb hbn hn
theorem merge_step2 {l l' : List MatV} {a m b s mid lo hi : Nat} (hmid : mid = (a + b) / 2) (hlo' : lo = low0 a m b) (hhi' : hi = high0 a m b) (ham : a + 2 ≤ m) (hmb : m + 2 ≤ b) (hlen : b ≤ l.length) (h1 : Srt (Le ltM) l a m) (h2 : Srt (Le ltM) l m b) (hs1 : lo ≤ s) (hs2 : s ≤ hi)
    (hlo : s = lo ∨ ∀ x y, l[mid + m - 1 - (s - 1)]? = some x → l[s - 1]? = some y → ltM x y = false) (hhi : s = hi ∨ ∀ x y, l[mid + m - 1 - s]? = some x → l[s]? = some y → ltM x y = true)
    (hr : Rotated l l' s m (mid + m - s)) : Srt (Le ltM) l' a s ∧ Srt (Le ltM) l' s mid ∧ Srt (Le ltM) l' mid (mid + m - s) ∧ Srt (Le ltM) l' (mid + m - s) b ∧ Split (Le ltM) l' a mid b := by
  subst hmid; subst hlo'; subst hhi'
  have h := merge_step cmp_lt ham hmb hlen h1 h2 hs1 hs2 hlo hhi hr
  exact ⟨h.2.2.2.2.2.1, h.2.2.2.2.2.2.1, h.2.2.2.2.2.2.2.1, h.2.2.2.2.2.2.2.2.1, h.2.2.2.2.2.2.2.2.2⟩
theorem join_up {ms l1 l2 l3 : List MatV} {a s e mid b : Nat} (has : a ≤ s) (heb : e ≤ b) (h0 : Moved ms l1 s e) (hs : Split (Le ltM) l1 a mid b) (h1 : Moved l1 l2 a mid) (h2 : Srt (Le ltM) l2 a mid) (h3 : Moved l2 l3 mid b) (h4 : Srt (Le ltM) l3 mid b) (ham : a ≤ mid) (hmb : mid ≤ b) : Moved ms l3 a b ∧ Srt (Le ltM) l3 a b :=
  ⟨(h0.wide has heb).trans ((h1.wide (Nat.le_refl _) hmb).trans (h3.wide ham (Nat.le_refl _))), (h2.same fun i _ hi => h3.out i (.inl hi)).join h4 (hs.moved h1 h3)⟩

set_option maxRecDepth 100000 in
set_option maxHeartbeats 16000000 in
theorem symmore_any (base g c n a m b d : Nat) (ms : List MatV) (w : World) (IH : SymOk base g c n d) (hd : b - a ≤ d + 1) (h : Row base g c n ms w) (ham : a + 2 ≤ m) (hmb : m + 2 ≤ b) (hbn : b ≤ n) (hn : n ≤ 3518437208880) (hs1 : Srt (Le ltM) ms a m) (hs2 : Srt (Le ltM) ms m b) :
    Calls Tryd.prog 35 #[.slice (some ⟨g, 0, none⟩) n c, .int .i64 a, .int .i64 m, .int .i64 b, .func (.func 13) #[] #[]] w fun r w' => r = .returned (.tuple #[]) ∧ ∃ ms', Moved ms ms' a b ∧ Srt (Le ltM) ms' a b ∧ Row base g c n ms' w' ∧ w.grownBy w' (some g) := by
  have HR := Lib.hid h
  have HIH := Lib.hid IH
  have HS1 := Lib.hid hs1
  have HS2 := Lib.hid hs2
  have hlen := h.len
  clear h hs1 hs2 IH
  go_enter Tryd.func35, Tryd.ntmps35
  go_upto_region 25 with fail
  obtain ⟨mid, hmid⟩ : ∃ mid, mid = (a + b) / 2 := ⟨_, rfl⟩
  have eI : ((a : Int) + (b : Int)) / 2 = (mid : Int) := by omega
  simp only [eI]
  have hm1 : 2 * mid ≤ a + b := by omega
  have hm2 : a + b ≤ 2 * mid + 1 := by omega
  have HMID := Lib.hid hmid
  clear eI hmid
  by_cases hmm : mid < m
  · obtain ⟨lo, hlo⟩ : ∃ lo, lo = mid + m - b := ⟨_, rfl⟩
    obtain ⟨hq, hhi⟩ : ∃ hq, hq = mid := ⟨_, rfl⟩
    have HLO : Hid (lo = low0 a m b) := Lib.hid (by unfold low0; rw [← HMID.out, hlo]; simp [hmm])
    have HHI : Hid (hq = high0 a m b) := Lib.hid (by unfold high0; rw [← HMID.out, hhi]; simp [hmm])
    go_wp2
    obtain ⟨p, hp⟩ : ∃ p, p = mid + m - 1 := ⟨_, rfl⟩
    have epI : (mid : Int) + (m : Int) - 1 = (p : Int) := by omega
    simp only [epI]
    clear epI
    go_loopw [20, 21] (fun p q wr => ∃ (i j : Nat), lo ≤ i ∧ i ≤ j ∧ j ≤ hq ∧ p = .int .i64 i ∧ q = .int .i64 j ∧ Hid (i = lo ∨ ∀ u v, ms[mid + m - 1 - (i - 1)]? = some u → ms[i - 1]? = some v → ltM u v = false) ∧ Hid (j = hq ∨ ∀ u v, ms[mid + m - 1 - j]? = some u → ms[j]? = some v → ltM u v = true) ∧ Hid (Row base g c n ms wr) ∧ Hid (w.grownBy wr (some g))) (fun p q _ => (intOf q).toNat - (intOf p).toNat)
    case atStart => exact ⟨lo, hq, by omega, by omega, by omega, by go_num, by go_num, Lib.hid (.inl rfl), Lib.hid (.inl rfl), HR, Lib.hid (World.grownBy.refl _ _)⟩
    case round =>
      obtain ⟨i, j, hi, hij, hj, rfl, rfl, HI, HJ, HROW, HGR⟩ := hrel
      obtain ⟨W, rfl⟩ : ∃ W : World, W = wr := ⟨_, rfl⟩
      have hgl : g < W.heap.size := by obtain ⟨cur, h0, _⟩ := HROW.out.bk; exact h0.lt
      by_cases hlt : i < j
      · as_aux_lemma =>
        go_upto_region 35 with fail
        obtain ⟨h, hh⟩ : ∃ h, h = (i + j) / 2 := ⟨_, rfl⟩
        have ehI : ((i : Int) + (j : Int)) / 2 = (h : Int) := by omega
        simp only [ehI]
        have hih : i ≤ h := by omega
        have hhj : h < j := by omega
        have hhn : h < 3518437208880 := by omega
        clear ehI hh
        obtain ⟨x, hx, hxm, hxc⟩ := HROW.out.cell (i := p - h) (by omega)
        obtain ⟨y, hy, hym, hyc⟩ := HROW.out.cell (i := h) (by omega)
        have HX := Lib.hid hxc
        have HY := Lib.hid hyc
        have HORDxy : Hid (∀ wx : World, W.grownBy wx (some g) → Calls Tryd.prog 13 #[x.val, y.val] wx fun r w' => r = .returned (.int .i64 (x.ord y)) ∧ Below wx.heap.size wx w') := Lib.hid fun wx hg => ord_any x y wx (HROW.out.ok x hxm wx hg) (HROW.out.ok y hym wx hg)
        obtain ⟨lb, hlb⟩ : ∃ lb : Bool, ltM x y = lb := ⟨_, rfl⟩
        have HLB : Hid (decide (x.ord y < 0) = lb) := Lib.hid hlb
        have HX2 : Hid (ms[p - h]? = some x) := Lib.hid hx
        have HY2 : Hid (ms[h]? = some y) := Lib.hid hy
        clear hxc hyc hx hy hlb hxm hym
        refine wp_region_b (by kernel_rfl) (fun qk => (smR35 base g c n p h x y lb).getD qk .any) (by kernel_rfl) ?_ ?_
        · refine BOk.cons rfl [] [4] rfl rfl (by kernel_rfl) (by kernel_rfl) (fun qK qa wr hB qO qF hK => ?_) ?_
          · have e4 : qa.tmps[4]? = some (.func (.func 13) #[] #[]) := qO.1.trans rfl
            clear qO qF
            exact op_move _ rfl (ev e4) (hK _ _ (Below.refl _ _) rfl)
          refine BOk.cons rfl [] [0] rfl rfl (by kernel_rfl) (by kernel_rfl) (fun qK qa wr hB qO qF hK => ?_) ?_
          · have e0 : qa.tmps[0]? = some (.slice (some ⟨g, 0, none⟩) n c) := qO.1.trans rfl
            clear qO qF
            exact op_move _ rfl (ev e0) (hK _ _ (Below.refl _ _) rfl)
          refine BOk.cons rfl [] [22] rfl rfl (by kernel_rfl) (by kernel_rfl) (fun qK qa wr hB qO qF hK => ?_) ?_
          · have e22 : qa.tmps[22]? = some (.int .i64 (p : Nat)) := qO.1.trans rfl
            clear qO qF
            exact op_move _ rfl (ev e22) (hK _ _ (Below.refl _ _) rfl)
          refine BOk.cons rfl [] [23] rfl rfl (by kernel_rfl) (by kernel_rfl) (fun qK qa wr hB qO qF hK => ?_) ?_
          · have e23 : qa.tmps[23]? = some (.int .i64 (h : Nat)) := qO.1.trans rfl
            clear qO qF
            exact op_move _ rfl (ev e23) (hK _ _ (Below.refl _ _) rfl)
          refine BOk.cons rfl [2, 3] [] rfl rfl (by kernel_rfl) (by kernel_rfl) (fun qK qa wr hB qO qF hK => ?_) ?_
          · have e160 : qa.tmps[160]? = some (.int .i64 (p : Nat)) := fis qF.1 rfl rfl
            have e161 : qa.tmps[161]? = some (.int .i64 (h : Nat)) := fis qF.2.1 rfl rfl
            clear qO qF
            exact op_sub _ _ _ _ rfl (ev e160) (ev e161) (by omega) (by omega) (by omega) (hK _ _ (Below.refl _ _) rfl)
          refine BOk.cons rfl [1, 4] [] rfl rfl (by kernel_rfl) (by kernel_rfl) (fun qK qa wr hB qO qF hK => ?_) ?_
          · have e159 : qa.tmps[159]? = some (.slice (some ⟨g, 0, none⟩) n c) := fis qF.1 rfl rfl
            have e162 : qa.tmps[162]? = some (.int .i64 (p - h : Nat)) := fis qF.2.1 rfl rfl
            clear qO qF
            exact op_index _ _ rfl (ev e159) (ev e162) (by omega) (hK _ _ (Below.refl _ _) rfl)
          refine BOk.cons rfl [5] [] rfl rfl (by kernel_rfl) (by kernel_rfl) (fun qK qa wr hB qO qF hK => ?_) ?_
          · have e163 : qa.tmps[163]? = some (.pointer (some ⟨g, (p - h) * 3, none⟩)) := fis qF.1 rfl rfl
            clear qO qF
            exact op_load _ rfl (ev e163) (fun j u hu => (bcell hB _ _ hgl).trans (HX.out j u hu)) (hK _ _ (Below.refl _ _) rfl)
          refine BOk.cons rfl [] [0] rfl rfl (by kernel_rfl) (by kernel_rfl) (fun qK qa wr hB qO qF hK => ?_) ?_
          · have e0 : qa.tmps[0]? = some (.slice (some ⟨g, 0, none⟩) n c) := qO.1.trans rfl
            clear qO qF
            exact op_move _ rfl (ev e0) (hK _ _ (Below.refl _ _) rfl)
          refine BOk.cons rfl [] [23] rfl rfl (by kernel_rfl) (by kernel_rfl) (fun qK qa wr hB qO qF hK => ?_) ?_
          · have e23 : qa.tmps[23]? = some (.int .i64 (h : Nat)) := qO.1.trans rfl
            clear qO qF
            exact op_move _ rfl (ev e23) (hK _ _ (Below.refl _ _) rfl)
          refine BOk.cons rfl [7, 8] [] rfl rfl (by kernel_rfl) (by kernel_rfl) (fun qK qa wr hB qO qF hK => ?_) ?_
          · have e165 : qa.tmps[165]? = some (.slice (some ⟨g, 0, none⟩) n c) := fis qF.1 rfl rfl
            have e166 : qa.tmps[166]? = some (.int .i64 (h : Nat)) := fis qF.2.1 rfl rfl
            clear qO qF
            exact op_index _ _ rfl (ev e165) (ev e166) (by omega) (hK _ _ (Below.refl _ _) rfl)
          refine BOk.cons rfl [9] [] rfl rfl (by kernel_rfl) (by kernel_rfl) (fun qK qa wr hB qO qF hK => ?_) ?_
          · have e167 : qa.tmps[167]? = some (.pointer (some ⟨g, (h) * 3, none⟩)) := fis qF.1 rfl rfl
            clear qO qF
            exact op_load _ rfl (ev e167) (fun j u hu => (bcell hB _ _ hgl).trans (HY.out j u hu)) (hK _ _ (Below.refl _ _) rfl)
          refine BOk.cons rfl [0, 6, 10] [] rfl rfl (by kernel_rfl) (by kernel_rfl) (fun qK qa wr hB qO qF hK => ?_) ?_
          · have e158 : qa.tmps[158]? = some (.func (.func 13) #[] #[]) := fis qF.1 rfl rfl
            have e164 : qa.tmps[164]? = some (x.val) := fis qF.2.1 rfl rfl
            have e168 : qa.tmps[168]? = some (y.val) := fis qF.2.2.1 rfl rfl
            clear qO qF
            go_simp
            go_at_call 13
            refine (HORDxy.out wr (below_grown hB _)).mono ?_
            rintro r w2 ⟨rfl, hb2⟩
            exact hK _ _ hb2 rfl
          refine BOk.cons rfl [11] [] rfl rfl (by kernel_rfl) (by kernel_rfl) (fun qK qa wr hB qO qF hK => ?_) ?_
          · have e169 : qa.tmps[169]? = some (.int .i64 (x.ord y)) := fis qF.1 rfl rfl
            clear qO qF
            exact op_lss _ _ _ _ rfl (ev e169) rfl (HLB.out) (hK _ _ (Below.refl _ _) rfl)
          refine BOk.cons rfl [12] [] rfl rfl (by kernel_rfl) (by kernel_rfl) (fun qK qa wr hB qO qF hK => ?_) ?_
          · have e170 : qa.tmps[170]? = some (.bool lb) := fis qF.1 rfl rfl
            clear qO qF
            exact op_not _ _ rfl (ev e170) (hK _ _ (Below.refl _ _) rfl)
          exact BOk.nil
        intro vals W5 hl hB hR
        match vals, hl with
        | [u158, u159, u160, u161, u162, u163, u164, u165, u166, u167, u168, u169, u170, u171], _ =>
        have r13 : u171 = .bool (!lb) := hR 13 _ rfl
        subst r13
        clear hR
        simp only [List.cons_append, List.nil_append, putAll, Act.put, List.setIfInBounds_toArray, List.set_cons_zero, List.set_cons_succ]
        cases lb
        · as_aux_lemma =>
          have HROW4 := Lib.hid (HROW.out.old hB)
          have HGR4 := Lib.hid (HGR.out.trans (below_grown hB _))
          have HNI : Hid (h + 1 = lo ∨ ∀ u v, ms[mid + m - 1 - (h + 1 - 1)]? = some u → ms[h + 1 - 1]? = some v → ltM u v = false) := Lib.hid (.inr fun u v hu hv => by
            rw [Nat.add_sub_cancel] at hu hv
            have h1 := HX2.out
            have h2 := HY2.out
            rw [show p - h = mid + m - 1 - h by omega] at h1
            rw [hu] at h1
            rw [hv] at h2
            injection h1 with h1; injection h2 with h2
            subst h1; subst h2; exact HLB.out)
          clear HX HY HORDxy HLB HX2 HY2 hB hgl HROW HGR hlen HS1 HS2 HIH HLO HHI HMID
          go_wp2
          go_roundw
          case rel => exact ⟨h + 1, j, by omega, by omega, by omega, by go_num, rfl, HNI, HJ, HROW4, HGR4⟩
          case measure => simp [intOf]; omega
        · as_aux_lemma =>
          have HROW4 := Lib.hid (HROW.out.old hB)
          have HGR4 := Lib.hid (HGR.out.trans (below_grown hB _))
          have HNJ : Hid (h = hq ∨ ∀ u v, ms[mid + m - 1 - h]? = some u → ms[h]? = some v → ltM u v = true) := Lib.hid (.inr fun u v hu hv => by
            have h1 := HX2.out
            have h2 := HY2.out
            rw [show p - h = mid + m - 1 - h by omega] at h1
            rw [hu] at h1
            rw [hv] at h2
            injection h1 with h1; injection h2 with h2
            subst h1; subst h2; exact HLB.out)
          clear HX HY HORDxy HLB HX2 HY2 hB hgl HROW HGR hlen HS1 HS2 HIH HLO HHI HMID
          go_wp2
          go_roundw
          case rel => exact ⟨i, h, by omega, by omega, by omega, rfl, rfl, HI, HNJ, HROW4, HGR4⟩
          case measure => simp [intOf]; omega
      · obtain rfl : i = j := by omega
        clear HR
        by_cases h1 : i < m
        · by_cases h2 : i < mid
          · by_cases h3 : a < i
            · by_cases h4 : mid + m - i < b
              · as_aux_lemma =>
                go_wp2_with fail
                refine (rot_int base g c n i m (mid + m - i) ms _ _ _ _ _ (by omega) (by omega) (by omega) HROW.out (by omega) (by omega) (by omega) hn).mono ?_
                rintro r w2 ⟨rfl, l1, hrt, hrow1, hg1⟩
                have HROW1 := Lib.hid hrow1
                have HRT := Lib.hid hrt
                have HGR1 := Lib.hid (HGR.out.trans hg1)
                clear hrt hrow1 hg1 HROW HGR
                have HM := Lib.hid (merge_step2 HMID.out HLO.out HHI.out ham hmb (by omega) HS1.out HS2.out hi hj HI.out HJ.out HRT.out)
                go_wp2_with fail
                refine (HIH.out a i mid l1 _ _ _ _ (by omega) (by omega) (by omega) (by omega) (by omega) (by omega) (by omega) HROW1.out HM.out.1 HM.out.2.1).mono ?_
                rintro r w3 ⟨rfl, l2, hmv2, hs2, hrow2, hg2⟩
                have HROW2 := Lib.hid hrow2
                have HMV2 := Lib.hid hmv2
                have HSR2 := Lib.hid hs2
                have HGR2 := Lib.hid (HGR1.out.trans hg2)
                clear hmv2 hs2 hrow2 hg2 HROW1 HGR1
                have HE1 : Hid (Srt (Le ltM) l2 mid (mid + m - i)) := Lib.hid (HM.out.2.2.1.same fun x hx _ => HMV2.out.out x (.inr hx))
                have HE2 : Hid (Srt (Le ltM) l2 (mid + m - i) b) := Lib.hid (HM.out.2.2.2.1.same fun x hx _ => HMV2.out.out x (.inr (by omega)))
                go_wp2_with fail
                refine (HIH.out mid (mid + m - i) b l2 _ _ _ _ (by omega) (by omega) (by omega) (by omega) (by omega) (by omega) (by omega) HROW2.out HE1.out HE2.out).mono ?_
                rintro r w4 ⟨rfl, l3, hmv3, hs3, hrow3, hg3⟩
                have HROW3 := Lib.hid hrow3
                have HMV3 := Lib.hid hmv3
                have HSR3 := Lib.hid hs3
                have HGR3 := Lib.hid (HGR2.out.trans hg3)
                clear hmv3 hs3 hrow3 hg3 HROW2 HGR2
                have HJN := Lib.hid (join_up (by omega) (by omega) HRT.out.moved HM.out.2.2.2.2 HMV2.out HSR2.out HMV3.out HSR3.out (by omega) (by omega))
                clear HM HRT HMV2 HSR2 HE1 HE2 HMV3 HSR3 HI HJ HS1 HS2 HIH
                go_wp2
                go_end0
                exact ⟨rfl, l3, HJN.out.1, HJN.out.2, HROW3.out, HGR3.out⟩
              · as_aux_lemma =>
                go_wp2_with fail
                refine (rot_int base g c n i m (mid + m - i) ms _ _ _ _ _ (by omega) (by omega) (by omega) HROW.out (by omega) (by omega) (by omega) hn).mono ?_
                rintro r w2 ⟨rfl, l1, hrt, hrow1, hg1⟩
                have HROW1 := Lib.hid hrow1
                have HRT := Lib.hid hrt
                have HGR1 := Lib.hid (HGR.out.trans hg1)
                clear hrt hrow1 hg1 HROW HGR
                have HM := Lib.hid (merge_step2 HMID.out HLO.out HHI.out ham hmb (by omega) HS1.out HS2.out hi hj HI.out HJ.out HRT.out)
                go_wp2_with fail
                refine (HIH.out a i mid l1 _ _ _ _ (by omega) (by omega) (by omega) (by omega) (by omega) (by omega) (by omega) HROW1.out HM.out.1 HM.out.2.1).mono ?_
                rintro r w3 ⟨rfl, l2, hmv2, hs2, hrow2, hg2⟩
                have HROW2 := Lib.hid hrow2
                have HMV2 := Lib.hid hmv2
                have HSR2 := Lib.hid hs2
                have HGR2 := Lib.hid (HGR1.out.trans hg2)
                clear hmv2 hs2 hrow2 hg2 HROW1 HGR1
                have HE1 : Hid (Srt (Le ltM) l2 mid (mid + m - i)) := Lib.hid (HM.out.2.2.1.same fun x hx _ => HMV2.out.out x (.inr hx))
                have HE2 : Hid (Srt (Le ltM) l2 (mid + m - i) b) := Lib.hid (HM.out.2.2.2.1.same fun x hx _ => HMV2.out.out x (.inr (by omega)))
                obtain ⟨l3, hl3⟩ : ∃ l3, l3 = l2 := ⟨_, rfl⟩
                have HMV3 : Hid (Moved l2 l3 mid b) := Lib.hid (by rw [hl3]; exact Moved.refl _ _ _)
                have HSR3 : Hid (Srt (Le ltM) l3 mid b) := Lib.hid (by
                  rw [hl3]
                  rcases Nat.lt_or_ge i m with hx | hx
                  · have e : mid + m - i = b := by omega
                    have := HE1.out; rwa [e] at this
                  · have e : mid + m - i = mid := by omega
                    have := HE2.out; rwa [e] at this)
                have HROW3 := HROW2
                have HGR3 := HGR2
                rw [← hl3] at HROW3
                clear HROW2 HGR2
                have HJN := Lib.hid (join_up (by omega) (by omega) HRT.out.moved HM.out.2.2.2.2 HMV2.out HSR2.out HMV3.out HSR3.out (by omega) (by omega))
                clear HM HRT HMV2 HSR2 HE1 HE2 HMV3 HSR3 HI HJ HS1 HS2 HIH
                go_wp2
                go_end0
                exact ⟨rfl, l3, HJN.out.1, HJN.out.2, HROW3.out, HGR3.out⟩
            · by_cases h4 : mid + m - i < b
              · as_aux_lemma =>
                exfalso; omega
              · as_aux_lemma =>
                go_wp2_with fail
                refine (rot_int base g c n i m (mid + m - i) ms _ _ _ _ _ (by omega) (by omega) (by omega) HROW.out (by omega) (by omega) (by omega) hn).mono ?_
                rintro r w2 ⟨rfl, l1, hrt, hrow1, hg1⟩
                have HROW1 := Lib.hid hrow1
                have HRT := Lib.hid hrt
                have HGR1 := Lib.hid (HGR.out.trans hg1)
                clear hrt hrow1 hg1 HROW HGR
                have HM := Lib.hid (merge_step2 HMID.out HLO.out HHI.out ham hmb (by omega) HS1.out HS2.out hi hj HI.out HJ.out HRT.out)
                obtain ⟨l2, hl2⟩ : ∃ l2, l2 = l1 := ⟨_, rfl⟩
                have HMV2 : Hid (Moved l1 l2 a mid) := Lib.hid (by rw [hl2]; exact Moved.refl _ _ _)
                have HSR2 : Hid (Srt (Le ltM) l2 a mid) := Lib.hid (by
                  rw [hl2]
                  rcases Nat.lt_or_ge a i with hx | hx
                  · have e : i = mid := by omega
                    have := HM.out.1; rwa [e] at this
                  · have e : i = a := by omega
                    have := HM.out.2.1; rwa [e] at this)
                have HROW2 := HROW1
                have HGR2 := HGR1
                rw [← hl2] at HROW2
                clear HROW1 HGR1
                have HE1 : Hid (Srt (Le ltM) l2 mid (mid + m - i)) := Lib.hid (HM.out.2.2.1.same fun x hx _ => HMV2.out.out x (.inr hx))
                have HE2 : Hid (Srt (Le ltM) l2 (mid + m - i) b) := Lib.hid (HM.out.2.2.2.1.same fun x hx _ => HMV2.out.out x (.inr (by omega)))
                obtain ⟨l3, hl3⟩ : ∃ l3, l3 = l2 := ⟨_, rfl⟩
                have HMV3 : Hid (Moved l2 l3 mid b) := Lib.hid (by rw [hl3]; exact Moved.refl _ _ _)
                have HSR3 : Hid (Srt (Le ltM) l3 mid b) := Lib.hid (by
                  rw [hl3]
                  rcases Nat.lt_or_ge i m with hx | hx
                  · have e : mid + m - i = b := by omega
                    have := HE1.out; rwa [e] at this
                  · have e : mid + m - i = mid := by omega
                    have := HE2.out; rwa [e] at this)
                have HROW3 := HROW2
                have HGR3 := HGR2
                rw [← hl3] at HROW3
                clear HROW2 HGR2
                have HJN := Lib.hid (join_up (by omega) (by omega) HRT.out.moved HM.out.2.2.2.2 HMV2.out HSR2.out HMV3.out HSR3.out (by omega) (by omega))
                clear HM HRT HMV2 HSR2 HE1 HE2 HMV3 HSR3 HI HJ HS1 HS2 HIH
                go_wp2
                go_end0
                exact ⟨rfl, l3, HJN.out.1, HJN.out.2, HROW3.out, HGR3.out⟩
          · by_cases h4 : mid + m - i < b
            · as_aux_lemma =>
              obtain ⟨l1, hl1⟩ : ∃ l1, l1 = ms := ⟨_, rfl⟩
              have HRT : Hid (Rotated ms l1 i m (mid + m - i)) := Lib.hid (by rw [hl1]; exact Rotated.none (by omega) (by omega) (by omega))
              have HROW1 : Hid (Row base g c n l1 W) := by rw [hl1]; exact HROW
              have HGR1 := HGR
              clear HROW HGR hl1
              have HM := Lib.hid (merge_step2 HMID.out HLO.out HHI.out ham hmb (by omega) HS1.out HS2.out hi hj HI.out HJ.out HRT.out)
              obtain ⟨l2, hl2⟩ : ∃ l2, l2 = l1 := ⟨_, rfl⟩
              have HMV2 : Hid (Moved l1 l2 a mid) := Lib.hid (by rw [hl2]; exact Moved.refl _ _ _)
              have HSR2 : Hid (Srt (Le ltM) l2 a mid) := Lib.hid (by
                rw [hl2]
                rcases Nat.lt_or_ge a i with hx | hx
                · have e : i = mid := by omega
                  have := HM.out.1; rwa [e] at this
                · have e : i = a := by omega
                  have := HM.out.2.1; rwa [e] at this)
              have HROW2 := HROW1
              have HGR2 := HGR1
              rw [← hl2] at HROW2
              clear HROW1 HGR1
              have HE1 : Hid (Srt (Le ltM) l2 mid (mid + m - i)) := Lib.hid (HM.out.2.2.1.same fun x hx _ => HMV2.out.out x (.inr hx))
              have HE2 : Hid (Srt (Le ltM) l2 (mid + m - i) b) := Lib.hid (HM.out.2.2.2.1.same fun x hx _ => HMV2.out.out x (.inr (by omega)))
              go_wp2_with fail
              refine (HIH.out mid (mid + m - i) b l2 _ _ _ _ (by omega) (by omega) (by omega) (by omega) (by omega) (by omega) (by omega) HROW2.out HE1.out HE2.out).mono ?_
              rintro r w4 ⟨rfl, l3, hmv3, hs3, hrow3, hg3⟩
              have HROW3 := Lib.hid hrow3
              have HMV3 := Lib.hid hmv3
              have HSR3 := Lib.hid hs3
              have HGR3 := Lib.hid (HGR2.out.trans hg3)
              clear hmv3 hs3 hrow3 hg3 HROW2 HGR2
              have HJN := Lib.hid (join_up (by omega) (by omega) HRT.out.moved HM.out.2.2.2.2 HMV2.out HSR2.out HMV3.out HSR3.out (by omega) (by omega))
              clear HM HRT HMV2 HSR2 HE1 HE2 HMV3 HSR3 HI HJ HS1 HS2 HIH
              go_wp2
              go_end0
              exact ⟨rfl, l3, HJN.out.1, HJN.out.2, HROW3.out, HGR3.out⟩
            · as_aux_lemma =>
              exfalso; omega
        · by_cases h2 : i < mid
          · as_aux_lemma =>
            exfalso; omega
          · as_aux_lemma =>
            exfalso; omega
  · obtain ⟨lo, hlo⟩ : ∃ lo, lo = a := ⟨_, rfl⟩
    obtain ⟨hq, hhi⟩ : ∃ hq, hq = m := ⟨_, rfl⟩
    have HLO : Hid (lo = low0 a m b) := Lib.hid (by unfold low0; rw [← HMID.out, hlo]; simp [hmm])
    have HHI : Hid (hq = high0 a m b) := Lib.hid (by unfold high0; rw [← HMID.out, hhi]; simp [hmm])
    go_wp2
    obtain ⟨p, hp⟩ : ∃ p, p = mid + m - 1 := ⟨_, rfl⟩
    have epI : (mid : Int) + (m : Int) - 1 = (p : Int) := by omega
    simp only [epI]
    clear epI
    go_loopw [20, 21] (fun p q wr => ∃ (i j : Nat), lo ≤ i ∧ i ≤ j ∧ j ≤ hq ∧ p = .int .i64 i ∧ q = .int .i64 j ∧ Hid (i = lo ∨ ∀ u v, ms[mid + m - 1 - (i - 1)]? = some u → ms[i - 1]? = some v → ltM u v = false) ∧ Hid (j = hq ∨ ∀ u v, ms[mid + m - 1 - j]? = some u → ms[j]? = some v → ltM u v = true) ∧ Hid (Row base g c n ms wr) ∧ Hid (w.grownBy wr (some g))) (fun p q _ => (intOf q).toNat - (intOf p).toNat)
    case atStart => exact ⟨lo, hq, by omega, by omega, by omega, by go_num, by go_num, Lib.hid (.inl rfl), Lib.hid (.inl rfl), HR, Lib.hid (World.grownBy.refl _ _)⟩
    case round =>
      obtain ⟨i, j, hi, hij, hj, rfl, rfl, HI, HJ, HROW, HGR⟩ := hrel
      obtain ⟨W, rfl⟩ : ∃ W : World, W = wr := ⟨_, rfl⟩
      have hgl : g < W.heap.size := by obtain ⟨cur, h0, _⟩ := HROW.out.bk; exact h0.lt
      by_cases hlt : i < j
      · as_aux_lemma =>
        go_upto_region 35 with fail
        obtain ⟨h, hh⟩ : ∃ h, h = (i + j) / 2 := ⟨_, rfl⟩
        have ehI : ((i : Int) + (j : Int)) / 2 = (h : Int) := by omega
        simp only [ehI]
        have hih : i ≤ h := by omega
        have hhj : h < j := by omega
        have hhn : h < 3518437208880 := by omega
        clear ehI hh
        obtain ⟨x, hx, hxm, hxc⟩ := HROW.out.cell (i := p - h) (by omega)
        obtain ⟨y, hy, hym, hyc⟩ := HROW.out.cell (i := h) (by omega)
        have HX := Lib.hid hxc
        have HY := Lib.hid hyc
        have HORDxy : Hid (∀ wx : World, W.grownBy wx (some g) → Calls Tryd.prog 13 #[x.val, y.val] wx fun r w' => r = .returned (.int .i64 (x.ord y)) ∧ Below wx.heap.size wx w') := Lib.hid fun wx hg => ord_any x y wx (HROW.out.ok x hxm wx hg) (HROW.out.ok y hym wx hg)
        obtain ⟨lb, hlb⟩ : ∃ lb : Bool, ltM x y = lb := ⟨_, rfl⟩
        have HLB : Hid (decide (x.ord y < 0) = lb) := Lib.hid hlb
        have HX2 : Hid (ms[p - h]? = some x) := Lib.hid hx
        have HY2 : Hid (ms[h]? = some y) := Lib.hid hy
        clear hxc hyc hx hy hlb hxm hym
        refine wp_region_b (by kernel_rfl) (fun qk => (smR35 base g c n p h x y lb).getD qk .any) (by kernel_rfl) ?_ ?_
        · refine BOk.cons rfl [] [4] rfl rfl (by kernel_rfl) (by kernel_rfl) (fun qK qa wr hB qO qF hK => ?_) ?_
          · have e4 : qa.tmps[4]? = some (.func (.func 13) #[] #[]) := qO.1.trans rfl
            clear qO qF
            exact op_move _ rfl (ev e4) (hK _ _ (Below.refl _ _) rfl)
          refine BOk.cons rfl [] [0] rfl rfl (by kernel_rfl) (by kernel_rfl) (fun qK qa wr hB qO qF hK => ?_) ?_
          · have e0 : qa.tmps[0]? = some (.slice (some ⟨g, 0, none⟩) n c) := qO.1.trans rfl
            clear qO qF
            exact op_move _ rfl (ev e0) (hK _ _ (Below.refl _ _) rfl)
          refine BOk.cons rfl [] [22] rfl rfl (by kernel_rfl) (by kernel_rfl) (fun qK qa wr hB qO qF hK => ?_) ?_
          · have e22 : qa.tmps[22]? = some (.int .i64 (p : Nat)) := qO.1.trans rfl
            clear qO qF
            exact op_move _ rfl (ev e22) (hK _ _ (Below.refl _ _) rfl)
          refine BOk.cons rfl [] [23] rfl rfl (by kernel_rfl) (by kernel_rfl) (fun qK qa wr hB qO qF hK => ?_) ?_
          · have e23 : qa.tmps[23]? = some (.int .i64 (h : Nat)) := qO.1.trans rfl
            clear qO qF
            exact op_move _ rfl (ev e23) (hK _ _ (Below.refl _ _) rfl)
          refine BOk.cons rfl [2, 3] [] rfl rfl (by kernel_rfl) (by kernel_rfl) (fun qK qa wr hB qO qF hK => ?_) ?_
          · have e160 : qa.tmps[160]? = some (.int .i64 (p : Nat)) := fis qF.1 rfl rfl
            have e161 : qa.tmps[161]? = some (.int .i64 (h : Nat)) := fis qF.2.1 rfl rfl
            clear qO qF
            exact op_sub _ _ _ _ rfl (ev e160) (ev e161) (by omega) (by omega) (by omega) (hK _ _ (Below.refl _ _) rfl)
          refine BOk.cons rfl [1, 4] [] rfl rfl (by kernel_rfl) (by kernel_rfl) (fun qK qa wr hB qO qF hK => ?_) ?_
          · have e159 : qa.tmps[159]? = some (.slice (some ⟨g, 0, none⟩) n c) := fis qF.1 rfl rfl
            have e162 : qa.tmps[162]? = some (.int .i64 (p - h : Nat)) := fis qF.2.1 rfl rfl
            clear qO qF
            exact op_index _ _ rfl (ev e159) (ev e162) (by omega) (hK _ _ (Below.refl _ _) rfl)
          refine BOk.cons rfl [5] [] rfl rfl (by kernel_rfl) (by kernel_rfl) (fun qK qa wr hB qO qF hK => ?_) ?_
          · have e163 : qa.tmps[163]? = some (.pointer (some ⟨g, (p - h) * 3, none⟩)) := fis qF.1 rfl rfl
            clear qO qF
            exact op_load _ rfl (ev e163) (fun j u hu => (bcell hB _ _ hgl).trans (HX.out j u hu)) (hK _ _ (Below.refl _ _) rfl)
          refine BOk.cons rfl [] [0] rfl rfl (by kernel_rfl) (by kernel_rfl) (fun qK qa wr hB qO qF hK => ?_) ?_
          · have e0 : qa.tmps[0]? = some (.slice (some ⟨g, 0, none⟩) n c) := qO.1.trans rfl
            clear qO qF
            exact op_move _ rfl (ev e0) (hK _ _ (Below.refl _ _) rfl)
          refine BOk.cons rfl [] [23] rfl rfl (by kernel_rfl) (by kernel_rfl) (fun qK qa wr hB qO qF hK => ?_) ?_
          · have e23 : qa.tmps[23]? = some (.int .i64 (h : Nat)) := qO.1.trans rfl
            clear qO qF
            exact op_move _ rfl (ev e23) (hK _ _ (Below.refl _ _) rfl)
          refine BOk.cons rfl [7, 8] [] rfl rfl (by kernel_rfl) (by kernel_rfl) (fun qK qa wr hB qO qF hK => ?_) ?_
          · have e165 : qa.tmps[165]? = some (.slice (some ⟨g, 0, none⟩) n c) := fis qF.1 rfl rfl
            have e166 : qa.tmps[166]? = some (.int .i64 (h : Nat)) := fis qF.2.1 rfl rfl
            clear qO qF
            exact op_index _ _ rfl (ev e165) (ev e166) (by omega) (hK _ _ (Below.refl _ _) rfl)
          refine BOk.cons rfl [9] [] rfl rfl (by kernel_rfl) (by kernel_rfl) (fun qK qa wr hB qO qF hK => ?_) ?_
          · have e167 : qa.tmps[167]? = some (.pointer (some ⟨g, (h) * 3, none⟩)) := fis qF.1 rfl rfl
            clear qO qF
            exact op_load _ rfl (ev e167) (fun j u hu => (bcell hB _ _ hgl).trans (HY.out j u hu)) (hK _ _ (Below.refl _ _) rfl)
          refine BOk.cons rfl [0, 6, 10] [] rfl rfl (by kernel_rfl) (by kernel_rfl) (fun qK qa wr hB qO qF hK => ?_) ?_
          · have e158 : qa.tmps[158]? = some (.func (.func 13) #[] #[]) := fis qF.1 rfl rfl
            have e164 : qa.tmps[164]? = some (x.val) := fis qF.2.1 rfl rfl
            have e168 : qa.tmps[168]? = some (y.val) := fis qF.2.2.1 rfl rfl
            clear qO qF
            go_simp
            go_at_call 13
            refine (HORDxy.out wr (below_grown hB _)).mono ?_
            rintro r w2 ⟨rfl, hb2⟩
            exact hK _ _ hb2 rfl
          refine BOk.cons rfl [11] [] rfl rfl (by kernel_rfl) (by kernel_rfl) (fun qK qa wr hB qO qF hK => ?_) ?_
          · have e169 : qa.tmps[169]? = some (.int .i64 (x.ord y)) := fis qF.1 rfl rfl
            clear qO qF
            exact op_lss _ _ _ _ rfl (ev e169) rfl (HLB.out) (hK _ _ (Below.refl _ _) rfl)
          refine BOk.cons rfl [12] [] rfl rfl (by kernel_rfl) (by kernel_rfl) (fun qK qa wr hB qO qF hK => ?_) ?_
          · have e170 : qa.tmps[170]? = some (.bool lb) := fis qF.1 rfl rfl
            clear qO qF
            exact op_not _ _ rfl (ev e170) (hK _ _ (Below.refl _ _) rfl)
          exact BOk.nil
        intro vals W5 hl hB hR
        match vals, hl with
        | [u158, u159, u160, u161, u162, u163, u164, u165, u166, u167, u168, u169, u170, u171], _ =>
        have r13 : u171 = .bool (!lb) := hR 13 _ rfl
        subst r13
        clear hR
        simp only [List.cons_append, List.nil_append, putAll, Act.put, List.setIfInBounds_toArray, List.set_cons_zero, List.set_cons_succ]
        cases lb
        · as_aux_lemma =>
          have HROW4 := Lib.hid (HROW.out.old hB)
          have HGR4 := Lib.hid (HGR.out.trans (below_grown hB _))
          have HNI : Hid (h + 1 = lo ∨ ∀ u v, ms[mid + m - 1 - (h + 1 - 1)]? = some u → ms[h + 1 - 1]? = some v → ltM u v = false) := Lib.hid (.inr fun u v hu hv => by
            rw [Nat.add_sub_cancel] at hu hv
            have h1 := HX2.out
            have h2 := HY2.out
            rw [show p - h = mid + m - 1 - h by omega] at h1
            rw [hu] at h1
            rw [hv] at h2
            injection h1 with h1; injection h2 with h2
            subst h1; subst h2; exact HLB.out)
          clear HX HY HORDxy HLB HX2 HY2 hB hgl HROW HGR hlen HS1 HS2 HIH HLO HHI HMID
          go_wp2
          go_roundw
          case rel => exact ⟨h + 1, j, by omega, by omega, by omega, by go_num, rfl, HNI, HJ, HROW4, HGR4⟩
          case measure => simp [intOf]; omega
        · as_aux_lemma =>
          have HROW4 := Lib.hid (HROW.out.old hB)
          have HGR4 := Lib.hid (HGR.out.trans (below_grown hB _))
          have HNJ : Hid (h = hq ∨ ∀ u v, ms[mid + m - 1 - h]? = some u → ms[h]? = some v → ltM u v = true) := Lib.hid (.inr fun u v hu hv => by
            have h1 := HX2.out
            have h2 := HY2.out
            rw [show p - h = mid + m - 1 - h by omega] at h1
            rw [hu] at h1
            rw [hv] at h2
            injection h1 with h1; injection h2 with h2
            subst h1; subst h2; exact HLB.out)
          clear HX HY HORDxy HLB HX2 HY2 hB hgl HROW HGR hlen HS1 HS2 HIH HLO HHI HMID
          go_wp2
          go_roundw
          case rel => exact ⟨i, h, by omega, by omega, by omega, rfl, rfl, HI, HNJ, HROW4, HGR4⟩
          case measure => simp [intOf]; omega
      · obtain rfl : i = j := by omega
        clear HR
        by_cases h1 : i < m
        · by_cases h2 : i < mid
          · by_cases h3 : a < i
            · by_cases h4 : mid + m - i < b
              · as_aux_lemma =>
                go_wp2_with fail
                refine (rot_int base g c n i m (mid + m - i) ms _ _ _ _ _ (by omega) (by omega) (by omega) HROW.out (by omega) (by omega) (by omega) hn).mono ?_
                rintro r w2 ⟨rfl, l1, hrt, hrow1, hg1⟩
                have HROW1 := Lib.hid hrow1
                have HRT := Lib.hid hrt
                have HGR1 := Lib.hid (HGR.out.trans hg1)
                clear hrt hrow1 hg1 HROW HGR
                have HM := Lib.hid (merge_step2 HMID.out HLO.out HHI.out ham hmb (by omega) HS1.out HS2.out hi hj HI.out HJ.out HRT.out)
                go_wp2_with fail
                refine (HIH.out a i mid l1 _ _ _ _ (by omega) (by omega) (by omega) (by omega) (by omega) (by omega) (by omega) HROW1.out HM.out.1 HM.out.2.1).mono ?_
                rintro r w3 ⟨rfl, l2, hmv2, hs2, hrow2, hg2⟩
                have HROW2 := Lib.hid hrow2
                have HMV2 := Lib.hid hmv2
                have HSR2 := Lib.hid hs2
                have HGR2 := Lib.hid (HGR1.out.trans hg2)
                clear hmv2 hs2 hrow2 hg2 HROW1 HGR1
                have HE1 : Hid (Srt (Le ltM) l2 mid (mid + m - i)) := Lib.hid (HM.out.2.2.1.same fun x hx _ => HMV2.out.out x (.inr hx))
                have HE2 : Hid (Srt (Le ltM) l2 (mid + m - i) b) := Lib.hid (HM.out.2.2.2.1.same fun x hx _ => HMV2.out.out x (.inr (by omega)))
                go_wp2_with fail
                refine (HIH.out mid (mid + m - i) b l2 _ _ _ _ (by omega) (by omega) (by omega) (by omega) (by omega) (by omega) (by omega) HROW2.out HE1.out HE2.out).mono ?_
                rintro r w4 ⟨rfl, l3, hmv3, hs3, hrow3, hg3⟩
                have HROW3 := Lib.hid hrow3
                have HMV3 := Lib.hid hmv3
                have HSR3 := Lib.hid hs3
                have HGR3 := Lib.hid (HGR2.out.trans hg3)
                clear hmv3 hs3 hrow3 hg3 HROW2 HGR2
                have HJN := Lib.hid (join_up (by omega) (by omega) HRT.out.moved HM.out.2.2.2.2 HMV2.out HSR2.out HMV3.out HSR3.out (by omega) (by omega))
                clear HM HRT HMV2 HSR2 HE1 HE2 HMV3 HSR3 HI HJ HS1 HS2 HIH
                go_wp2
                go_end0
                exact ⟨rfl, l3, HJN.out.1, HJN.out.2, HROW3.out, HGR3.out⟩
              · as_aux_lemma =>
                exfalso; omega
            · by_cases h4 : mid + m - i < b
              · as_aux_lemma =>
                go_wp2_with fail
                refine (rot_int base g c n i m (mid + m - i) ms _ _ _ _ _ (by omega) (by omega) (by omega) HROW.out (by omega) (by omega) (by omega) hn).mono ?_
                rintro r w2 ⟨rfl, l1, hrt, hrow1, hg1⟩
                have HROW1 := Lib.hid hrow1
                have HRT := Lib.hid hrt
                have HGR1 := Lib.hid (HGR.out.trans hg1)
                clear hrt hrow1 hg1 HROW HGR
                have HM := Lib.hid (merge_step2 HMID.out HLO.out HHI.out ham hmb (by omega) HS1.out HS2.out hi hj HI.out HJ.out HRT.out)
                obtain ⟨l2, hl2⟩ : ∃ l2, l2 = l1 := ⟨_, rfl⟩
                have HMV2 : Hid (Moved l1 l2 a mid) := Lib.hid (by rw [hl2]; exact Moved.refl _ _ _)
                have HSR2 : Hid (Srt (Le ltM) l2 a mid) := Lib.hid (by
                  rw [hl2]
                  rcases Nat.lt_or_ge a i with hx | hx
                  · have e : i = mid := by omega
                    have := HM.out.1; rwa [e] at this
                  · have e : i = a := by omega
                    have := HM.out.2.1; rwa [e] at this)
                have HROW2 := HROW1
                have HGR2 := HGR1
                rw [← hl2] at HROW2
                clear HROW1 HGR1
                have HE1 : Hid (Srt (Le ltM) l2 mid (mid + m - i)) := Lib.hid (HM.out.2.2.1.same fun x hx _ => HMV2.out.out x (.inr hx))
                have HE2 : Hid (Srt (Le ltM) l2 (mid + m - i) b) := Lib.hid (HM.out.2.2.2.1.same fun x hx _ => HMV2.out.out x (.inr (by omega)))
                go_wp2_with fail
                refine (HIH.out mid (mid + m - i) b l2 _ _ _ _ (by omega) (by omega) (by omega) (by omega) (by omega) (by omega) (by omega) HROW2.out HE1.out HE2.out).mono ?_
                rintro r w4 ⟨rfl, l3, hmv3, hs3, hrow3, hg3⟩
                have HROW3 := Lib.hid hrow3
                have HMV3 := Lib.hid hmv3
                have HSR3 := Lib.hid hs3
                have HGR3 := Lib.hid (HGR2.out.trans hg3)
                clear hmv3 hs3 hrow3 hg3 HROW2 HGR2
                have HJN := Lib.hid (join_up (by omega) (by omega) HRT.out.moved HM.out.2.2.2.2 HMV2.out HSR2.out HMV3.out HSR3.out (by omega) (by omega))
                clear HM HRT HMV2 HSR2 HE1 HE2 HMV3 HSR3 HI HJ HS1 HS2 HIH
                go_wp2
                go_end0
                exact ⟨rfl, l3, HJN.out.1, HJN.out.2, HROW3.out, HGR3.out⟩
              · as_aux_lemma =>
                go_wp2_with fail
                refine (rot_int base g c n i m (mid + m - i) ms _ _ _ _ _ (by omega) (by omega) (by omega) HROW.out (by omega) (by omega) (by omega) hn).mono ?_
                rintro r w2 ⟨rfl, l1, hrt, hrow1, hg1⟩
                have HROW1 := Lib.hid hrow1
                have HRT := Lib.hid hrt
                have HGR1 := Lib.hid (HGR.out.trans hg1)
                clear hrt hrow1 hg1 HROW HGR
                have HM := Lib.hid (merge_step2 HMID.out HLO.out HHI.out ham hmb (by omega) HS1.out HS2.out hi hj HI.out HJ.out HRT.out)
                obtain ⟨l2, hl2⟩ : ∃ l2, l2 = l1 := ⟨_, rfl⟩
                have HMV2 : Hid (Moved l1 l2 a mid) := Lib.hid (by rw [hl2]; exact Moved.refl _ _ _)
                have HSR2 : Hid (Srt (Le ltM) l2 a mid) := Lib.hid (by
                  rw [hl2]
                  rcases Nat.lt_or_ge a i with hx | hx
                  · have e : i = mid := by omega
                    have := HM.out.1; rwa [e] at this
                  · have e : i = a := by omega
                    have := HM.out.2.1; rwa [e] at this)
                have HROW2 := HROW1
                have HGR2 := HGR1
                rw [← hl2] at HROW2
                clear HROW1 HGR1
                have HE1 : Hid (Srt (Le ltM) l2 mid (mid + m - i)) := Lib.hid (HM.out.2.2.1.same fun x hx _ => HMV2.out.out x (.inr hx))
                have HE2 : Hid (Srt (Le ltM) l2 (mid + m - i) b) := Lib.hid (HM.out.2.2.2.1.same fun x hx _ => HMV2.out.out x (.inr (by omega)))
                obtain ⟨l3, hl3⟩ : ∃ l3, l3 = l2 := ⟨_, rfl⟩
                have HMV3 : Hid (Moved l2 l3 mid b) := Lib.hid (by rw [hl3]; exact Moved.refl _ _ _)
                have HSR3 : Hid (Srt (Le ltM) l3 mid b) := Lib.hid (by
                  rw [hl3]
                  rcases Nat.lt_or_ge i m with hx | hx
                  · have e : mid + m - i = b := by omega
                    have := HE1.out; rwa [e] at this
                  · have e : mid + m - i = mid := by omega
                    have := HE2.out; rwa [e] at this)
                have HROW3 := HROW2
                have HGR3 := HGR2
                rw [← hl3] at HROW3
                clear HROW2 HGR2
                have HJN := Lib.hid (join_up (by omega) (by omega) HRT.out.moved HM.out.2.2.2.2 HMV2.out HSR2.out HMV3.out HSR3.out (by omega) (by omega))
                clear HM HRT HMV2 HSR2 HE1 HE2 HMV3 HSR3 HI HJ HS1 HS2 HIH
                go_wp2
                go_end0
                exact ⟨rfl, l3, HJN.out.1, HJN.out.2, HROW3.out, HGR3.out⟩
          · by_cases h4 : mid + m - i < b
            · as_aux_lemma =>
              exfalso; omega
            · as_aux_lemma =>
              exfalso; omega
        · by_cases h2 : i < mid
          · as_aux_lemma =>
            obtain ⟨l1, hl1⟩ : ∃ l1, l1 = ms := ⟨_, rfl⟩
            have HRT : Hid (Rotated ms l1 i m (mid + m - i)) := Lib.hid (by rw [hl1]; exact Rotated.none (by omega) (by omega) (by omega))
            have HROW1 : Hid (Row base g c n l1 W) := by rw [hl1]; exact HROW
            have HGR1 := HGR
            clear HROW HGR hl1
            have HM := Lib.hid (merge_step2 HMID.out HLO.out HHI.out ham hmb (by omega) HS1.out HS2.out hi hj HI.out HJ.out HRT.out)
            go_wp2_with fail
            refine (HIH.out a i mid l1 _ _ _ _ (by omega) (by omega) (by omega) (by omega) (by omega) (by omega) (by omega) HROW1.out HM.out.1 HM.out.2.1).mono ?_
            rintro r w3 ⟨rfl, l2, hmv2, hs2, hrow2, hg2⟩
            have HROW2 := Lib.hid hrow2
            have HMV2 := Lib.hid hmv2
            have HSR2 := Lib.hid hs2
            have HGR2 := Lib.hid (HGR1.out.trans hg2)
            clear hmv2 hs2 hrow2 hg2 HROW1 HGR1
            have HE1 : Hid (Srt (Le ltM) l2 mid (mid + m - i)) := Lib.hid (HM.out.2.2.1.same fun x hx _ => HMV2.out.out x (.inr hx))
            have HE2 : Hid (Srt (Le ltM) l2 (mid + m - i) b) := Lib.hid (HM.out.2.2.2.1.same fun x hx _ => HMV2.out.out x (.inr (by omega)))
            obtain ⟨l3, hl3⟩ : ∃ l3, l3 = l2 := ⟨_, rfl⟩
            have HMV3 : Hid (Moved l2 l3 mid b) := Lib.hid (by rw [hl3]; exact Moved.refl _ _ _)
            have HSR3 : Hid (Srt (Le ltM) l3 mid b) := Lib.hid (by
              rw [hl3]
              rcases Nat.lt_or_ge i m with hx | hx
              · have e : mid + m - i = b := by omega
                have := HE1.out; rwa [e] at this
              · have e : mid + m - i = mid := by omega
                have := HE2.out; rwa [e] at this)
            have HROW3 := HROW2
            have HGR3 := HGR2
            rw [← hl3] at HROW3
            clear HROW2 HGR2
            have HJN := Lib.hid (join_up (by omega) (by omega) HRT.out.moved HM.out.2.2.2.2 HMV2.out HSR2.out HMV3.out HSR3.out (by omega) (by omega))
            clear HM HRT HMV2 HSR2 HE1 HE2 HMV3 HSR3 HI HJ HS1 HS2 HIH
            go_wp2
            go_end0
            exact ⟨rfl, l3, HJN.out.1, HJN.out.2, HROW3.out, HGR3.out⟩
          · as_aux_lemma =>
            obtain ⟨l1, hl1⟩ : ∃ l1, l1 = ms := ⟨_, rfl⟩
            have HRT : Hid (Rotated ms l1 i m (mid + m - i)) := Lib.hid (by rw [hl1]; exact Rotated.none (by omega) (by omega) (by omega))
            have HROW1 : Hid (Row base g c n l1 W) := by rw [hl1]; exact HROW
            have HGR1 := HGR
            clear HROW HGR hl1
            have HM := Lib.hid (merge_step2 HMID.out HLO.out HHI.out ham hmb (by omega) HS1.out HS2.out hi hj HI.out HJ.out HRT.out)
            obtain ⟨l2, hl2⟩ : ∃ l2, l2 = l1 := ⟨_, rfl⟩
            have HMV2 : Hid (Moved l1 l2 a mid) := Lib.hid (by rw [hl2]; exact Moved.refl _ _ _)
            have HSR2 : Hid (Srt (Le ltM) l2 a mid) := Lib.hid (by
              rw [hl2]
              rcases Nat.lt_or_ge a i with hx | hx
              · have e : i = mid := by omega
                have := HM.out.1; rwa [e] at this
              · have e : i = a := by omega
                have := HM.out.2.1; rwa [e] at this)
            have HROW2 := HROW1
            have HGR2 := HGR1
            rw [← hl2] at HROW2
            clear HROW1 HGR1
            have HE1 : Hid (Srt (Le ltM) l2 mid (mid + m - i)) := Lib.hid (HM.out.2.2.1.same fun x hx _ => HMV2.out.out x (.inr hx))
            have HE2 : Hid (Srt (Le ltM) l2 (mid + m - i) b) := Lib.hid (HM.out.2.2.2.1.same fun x hx _ => HMV2.out.out x (.inr (by omega)))
            obtain ⟨l3, hl3⟩ : ∃ l3, l3 = l2 := ⟨_, rfl⟩
            have HMV3 : Hid (Moved l2 l3 mid b) := Lib.hid (by rw [hl3]; exact Moved.refl _ _ _)
            have HSR3 : Hid (Srt (Le ltM) l3 mid b) := Lib.hid (by
              rw [hl3]
              rcases Nat.lt_or_ge i m with hx | hx
              · have e : mid + m - i = b := by omega
                have := HE1.out; rwa [e] at this
              · have e : mid + m - i = mid := by omega
                have := HE2.out; rwa [e] at this)
            have HROW3 := HROW2
            have HGR3 := HGR2
            rw [← hl3] at HROW3
            clear HROW2 HGR2
            have HJN := Lib.hid (join_up (by omega) (by omega) HRT.out.moved HM.out.2.2.2.2 HMV2.out HSR2.out HMV3.out HSR3.out (by omega) (by omega))
            clear HM HRT HMV2 HSR2 HE1 HE2 HMV3 HSR3 HI HJ HS1 HS2 HIH
            go_wp2
            go_end0
            exact ⟨rfl, l3, HJN.out.1, HJN.out.2, HROW3.out, HGR3.out⟩

/-- symMerge, whole. -/
theorem sym_any (base g c n : Nat) (hn : n ≤ 3518437208880) : ∀ d, SymOk base g c n d
  | 0 => fun a m b ms w pa pm pb ha hm hb hd ham hmb hbn h h1 h2 => by omega
  | d + 1 => fun a m b ms w pa pm pb ha hm hb hd ham hmb hbn h h1 h2 => by
    subst ha; subst hm; subst hb
    by_cases e1 : m = a + 1
    · exact symone_any base g c n a m b ms w h e1 hmb hbn hn h1 h2
    · by_cases e2 : b = m + 1
      · exact symlast_any base g c n a m b ms w h (by omega) e2 hbn hn h1 h2
      · exact symmore_any base g c n a m b d ms w (sym_any base g c n hn d) hd h (by omega) (by omega) hbn hn h1 h2
end Go.Proofs.YtbopndepklafgaaDoor
