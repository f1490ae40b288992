/- rotate: rows of matches, by the program's library. No conditions. -/
import Derived.Test.YtbopndepklafgaaDoorSrtN
namespace Go.Proofs.YtbopndepklafgaaDoor
open Go.RowKit
set_option maxRecDepth 10000
set_option linter.unusedVariables false
set_option linter.unusedSimpArgs false

theorem swap_int (base g c n a b k : Nat) (ms : List MatV) (f : Value) (w : World) (pa pb pk : Int) (ha : pa = a) (hb : pb = b) (hk : pk = k) (h : Row base g c n ms w) (hab : a + k ≤ b) (hbn : b + k ≤ n) (hn : n ≤ 3518437208880) :
    Calls Tryd.prog 62 #[.slice (some ⟨g, 0, none⟩) n c, .int .i64 pa, .int .i64 pb, .int .i64 pk, f] w fun r w' => r = .returned (.tuple #[]) ∧ ∃ ms', SwapR ms ms' a b k ∧ Row base g c n ms' w' ∧ w.grownBy w' (some g) := by
  subst ha; subst hb; subst hk
  exact swap_any base g c n a b k ms f w h hab hbn hn

set_option maxRecDepth 100000 in
set_option maxHeartbeats 4000000 in
theorem rot_any (base g c n a m b : Nat) (ms : List MatV) (f : Value) (w : World) (h : Row base g c n ms w) (ham : a < m) (hmb : m < b) (hbn : b ≤ n) (hn : n ≤ 3518437208880) :
    Calls Tryd.prog 47 #[.slice (some ⟨g, 0, none⟩) n c, .int .i64 a, .int .i64 m, .int .i64 b, f] w fun r w' => r = .returned (.tuple #[]) ∧ ∃ ms', Rotated ms ms' a m b ∧ Row base g c n ms' w' ∧ w.grownBy w' (some g) := by
  have HR := Lib.hid h
  clear h
  go_enter Tryd.func47, Tryd.ntmps47
  go_wp2
  go_loopw [10, 11] (fun p q wr => ∃ (i j : Nat) (ms2 : List MatV), 0 < i ∧ 0 < j ∧ i ≤ m ∧ m + j ≤ n ∧ p = .int .i64 i ∧ q = .int .i64 j ∧ Hid (∀ l', Rotated ms2 l' (m - i) m (m + j) → Rotated ms l' a m b) ∧ Hid (Row base g c n ms2 wr) ∧ Hid (w.grownBy wr (some g))) (fun p q _ => (intOf p).toNat + (intOf q).toNat)
  case atStart =>
    refine ⟨m - a, b - m, ms, by omega, by omega, by omega, by omega, by go_num, by go_num, Lib.hid (fun l' h => ?_), HR, Lib.hid (World.grownBy.refl _ _)⟩
    rwa [show m - (m - a) = a by omega, show m + (b - m) = b by omega] at h
  case round =>
    obtain ⟨i, j, ms2, hi0, hj0, him, hjn, rfl, rfl, hrot, HROW, hgr⟩ := hrel
    obtain ⟨W, rfl⟩ : ∃ W : World, W = wr := ⟨_, rfl⟩
    by_cases hij : i = j
    · subst hij
      go_wp2_with fail
      refine (swap_int base g c n (m - i) m i ms2 _ _ _ _ _ (by omega) rfl rfl HROW.out (by omega) (by omega) hn).mono ?_
      rintro r w2 ⟨rfl, l1, hsw, hrow, hg2⟩
      go_wp2
      go_end0
      exact ⟨rfl, l1, hrot.out _ (rot_same him hsw), hrow, hgr.out.trans hg2⟩
    · by_cases hlt : j < i
      · as_aux_lemma =>
        go_wp2_with fail
        refine (swap_int base g c n (m - i) m j ms2 _ _ _ _ _ (by omega) rfl rfl HROW.out (by omega) (by omega) hn).mono ?_
        rintro r w2 ⟨rfl, l1, hsw, hrow, hg2⟩
        have HRT := hrot
        have HRO := Lib.hid hrow
        have HSW := Lib.hid hsw
        have HG := Lib.hid (hgr.out.trans hg2)
        clear hrow hsw hg2 hgr hrot
        go_wp2
        go_roundw
        case rel => exact ⟨i - j, j, l1, by omega, by omega, by omega, by omega, by go_num, rfl, Lib.hid (fun l' h => HRT.out l' (rot_left hlt him HSW.out h)), HRO, HG⟩
        case measure => simp [intOf]; omega
      · as_aux_lemma =>
        have hlt2 : i < j := by omega
        go_wp2_with fail
        refine (swap_int base g c n (m - i) (m + j - i) i ms2 _ _ _ _ _ (by omega) (by omega) rfl HROW.out (by omega) (by omega) hn).mono ?_
        rintro r w2 ⟨rfl, l1, hsw, hrow, hg2⟩
        have HRT := hrot
        have HRO := Lib.hid hrow
        have HSW := Lib.hid hsw
        have HG := Lib.hid (hgr.out.trans hg2)
        clear hrow hsw hg2 hgr hrot
        go_wp2
        go_roundw
        case rel => exact ⟨i, j - i, l1, by omega, by omega, by omega, by omega, rfl, by go_num, Lib.hid (fun l' h => HRT.out l' (rot_right hlt2 him HSW.out h)), HRO, HG⟩
        case measure => simp [intOf]; omega
end Go.Proofs.YtbopndepklafgaaDoor
