/- The stable sort: blocks put in order, and merged two by two. No conditions. -/
import Derived.Test.YtbopndepklafgaaDoorSrtV
namespace Go.Proofs.YtbopndepklafgaaDoor
open Go.RowKit
set_option maxRecDepth 10000
set_option linter.unusedVariables false
set_option linter.unusedSimpArgs false

section
variable {α : Type} {le : α → α → Prop} {l l' : List α} {bs k n a : Nat}
/-- In blocks of bs all is in order. -/
def Full (le : α → α → Prop) (l : List α) (bs n : Nat) : Prop := ∀ q, Srt le l (q * bs) (min (q * bs + bs) n)
/-- In blocks of bs the first k are. -/
def First (le : α → α → Prop) (l : List α) (bs k : Nat) : Prop := ∀ q, q < k → Srt le l (q * bs) (q * bs + bs)
theorem blk_le (bs : Nat) {q k : Nat} (h : q < k) : q * bs + bs ≤ k * bs := by
  have := Nat.mul_le_mul_right bs (show q + 1 ≤ k from h)
  rwa [Nat.succ_mul] at this
theorem First.step (h : First le l bs k) (ha : a = k * bs) (hm : Moved l l' a (a + bs)) (hs : Srt le l' a (a + bs)) : First le l' bs (k + 1) := by
  intro q hq
  by_cases hqk : q = k
  · subst hqk; rw [← ha]; exact hs
  · have := blk_le bs (show q < k by omega)
    exact (h q (by omega)).same fun i _ hi => hm.out i (.inl (by omega))
theorem First.full (h : First le l bs k) (ha : a = k * bs) (hm : Moved l l' a n) (hs : Srt le l' a n) (hk : a ≤ n) (hb : n < a + bs) : Full le l' bs n := by
  intro q
  rcases Nat.lt_trichotomy q k with hq | hq | hq
  · have := blk_le bs hq
    exact ((h q hq).sub (Nat.le_refl _) (by omega)).same fun i _ hi => hm.out i (.inl (by omega))
  · subst hq; rw [← ha]
    exact hs.sub (Nat.le_refl _) (by omega)
  · have := blk_le bs hq
    exact Srt.nil (by omega)
/-- Of the blocks of bs the first k pairs are merged. -/
structure Half (le : α → α → Prop) (l : List α) (bs k n : Nat) : Prop where
  done : First le l (2 * bs) k
  todo : ∀ q, 2 * k ≤ q → Srt le l (q * bs) (min (q * bs + bs) n)
theorem Half.start (h : Full le l bs n) : Half le l bs 0 n := ⟨fun q hq => by omega, fun q _ => h q⟩
theorem Half.pair (h : Half le l bs k n) (ha : a = k * (2 * bs)) : Srt le l a (min (a + bs) n) ∧ Srt le l (a + bs) (min (a + bs + bs) n) := by
  have e1 : 2 * k * bs = a := by rw [ha]; simp [Nat.mul_assoc, Nat.mul_comm, Nat.mul_left_comm]
  have h1 := h.todo (2 * k) (Nat.le_refl _)
  have h2 := h.todo (2 * k + 1) (by omega)
  rw [Nat.succ_mul, e1] at h2
  rw [e1] at h1
  exact ⟨h1, h2⟩
theorem Half.step (h : Half le l bs k n) (ha : a = k * (2 * bs)) (hm : Moved l l' a (a + 2 * bs)) (hs : Srt le l' a (a + 2 * bs)) : Half le l' bs (k + 1) n := by
  refine ⟨h.done.step ha hm hs, fun q hq => ?_⟩
  have e1 : 2 * (k + 1) * bs = a + 2 * bs := by rw [ha, Nat.mul_comm 2 (k + 1), Nat.mul_assoc, Nat.succ_mul]
  have := Nat.mul_le_mul_right bs hq
  exact (h.todo q (by omega)).same fun i hi _ => hm.out i (.inr (by omega))
theorem Half.full (h : Half le l bs k n) (ha : a = k * (2 * bs)) (hm : Moved l l' a n) (hs : Srt le l' a n) (hk : a ≤ n) (hb : n < a + 2 * bs) : Full le l' (2 * bs) n := h.done.full ha hm hs hk hb
theorem Full.all (h : Full le l bs n) (hb : n ≤ bs) : Srt le l 0 n := by
  have := h 0
  rw [Nat.zero_mul, Nat.zero_add, Nat.min_eq_right hb] at this
  exact this
end
theorem ins_int (base g c n a b : Nat) (ms : List MatV) (w : World) (pa pb : Int) (ha : pa = a) (hb : pb = b) (h : Row base g c n ms w) (hab : a ≤ b) (hbn : b ≤ n) (hn : n ≤ 3518437208880) :
    Calls Tryd.prog 34 #[.slice (some ⟨g, 0, none⟩) n c, .int .i64 pa, .int .i64 pb, .func (.func 13) #[] #[]] w fun r w' => r = .returned (.tuple #[]) ∧ ∃ ms', Moved ms ms' a b ∧ Srt (Le ltM) ms' a b ∧ Row base g c n ms' w' ∧ w.grownBy w' (some g) := by
  subst ha; subst hb
  exact ins_any base g c n a b ms w h hab hbn hn
theorem ins_zero (v f : Value) (w : World) : Calls Tryd.prog 34 #[v, .int .i64 0, .int .i64 0, f] w fun r w' => r = .returned (.tuple #[]) ∧ w' = w := by
  go_enter Tryd.func34, Tryd.ntmps34
  go_wp2
  go_loopw [8] (fun o wr => o = .int .i64 1 ∧ wr = w) (fun o _ => 0)
  case atStart => exact ⟨rfl, rfl⟩
  case round =>
    obtain ⟨rfl, rfl⟩ := hrel
    go_wp2
    go_end0
    exact ⟨rfl, rfl⟩

set_option maxRecDepth 100000 in
set_option maxHeartbeats 8000000 in
theorem stable_any (base g c n : Nat) (ms : List MatV) (w : World) (h : Row base g c n ms w) (hn : n ≤ 3518437208880) :
    Calls Tryd.prog 25 #[.slice (some ⟨g, 0, none⟩) n c, .int .i64 n, .func (.func 13) #[] #[]] w fun r w' => r = .returned (.tuple #[]) ∧ ∃ ms', Moved ms ms' 0 n ∧ Srt (Le ltM) ms' 0 n ∧ Row base g c n ms' w' ∧ w.grownBy w' (some g) := by
  have HR := Lib.hid h
  clear h
  go_enter Tryd.func25, Tryd.ntmps25
  go_wp2
  go_loopw [7, 8] (fun p q wr => ∃ (k a : Nat) (ms2 : List MatV), a ≤ n ∧ p = .int .i64 a ∧ q = .int .i64 (a + 20 : Nat) ∧ Hid (a = k * 20) ∧ Hid (First (Le ltM) ms2 20 k) ∧ Hid (Moved ms ms2 0 n) ∧ Hid (Row base g c n ms2 wr) ∧ Hid (w.grownBy wr (some g))) (fun p q _ => n + 1 - (intOf p).toNat)
  case atStart => exact ⟨0, 0, ms, by omega, rfl, rfl, Lib.hid rfl, Lib.hid (fun q hq => by omega), Lib.hid (Moved.refl _ _ _), HR, Lib.hid (World.grownBy.refl _ _)⟩
  case round =>
    obtain ⟨k, a, ms2, han, rfl, rfl, HA, HF, HMV, HROW, HGR⟩ := hrel
    by_cases hlt : a + 20 ≤ n
    · as_aux_lemma =>
      go_wp2_with fail
      refine (ins_int base g c n a (a + 20) ms2 _ _ _ rfl (by omega) HROW.out (by omega) hlt hn).mono ?_
      rintro r w2 ⟨rfl, l1, hmv, hs, hrow, hg⟩
      have HROW1 := Lib.hid hrow
      have HF1 := Lib.hid (HF.out.step HA.out hmv hs)
      have HMV1 := Lib.hid (HMV.out.trans (hmv.wide (Nat.zero_le _) hlt))
      have HGR1 := Lib.hid (HGR.out.trans hg)
      have HA1 : Hid (a + 20 = (k + 1) * 20) := Lib.hid (by have := HA.out; omega)
      clear hmv hs hrow hg HROW HF HMV HGR HA HR
      go_wp2
      go_roundw
      case rel => exact ⟨k + 1, a + 20, l1, by omega, by go_num, by go_num, HA1, HF1, HMV1, HROW1, HGR1⟩
      case measure => simp [intOf]; omega
    · go_wp2_with fail
      refine (ins_int base g c n a n ms2 _ _ _ rfl rfl HROW.out han (Nat.le_refl _) hn).mono ?_
      rintro r w2 ⟨rfl, l1, hmv, hs, hrow, hg⟩
      have HROW1 := Lib.hid hrow
      have HF1 := Lib.hid (HF.out.full HA.out hmv hs han (by omega))
      have HMV1 := Lib.hid (HMV.out.trans (hmv.wide (Nat.zero_le _) (Nat.le_refl _)))
      have HGR1 := Lib.hid (HGR.out.trans hg)
      clear hmv hs hrow hg HROW HF HMV HGR HA HR han hlt
      go_wp2
      go_loopw [6] (fun o wr => ∃ (bs : Nat) (ms3 : List MatV), 1 ≤ bs ∧ bs ≤ 7036874417760 ∧ o = .int .i64 bs ∧ Hid (Full (Le ltM) ms3 bs n) ∧ Hid (Moved ms ms3 0 n) ∧ Hid (Row base g c n ms3 wr) ∧ Hid (w.grownBy wr (some g))) (fun o _ => n - (intOf o).toNat)
      case atStart => exact ⟨20, l1, by omega, by omega, rfl, HF1, HMV1, HROW1, HGR1⟩
      case round =>
        obtain ⟨bs, ms3, hb1, hb2, rfl, HF3, HMV3, HROW3, HGR3⟩ := hrel
        clear HF1 HMV1 HROW1 HGR1
        by_cases hlt : bs < n
        · as_aux_lemma =>
          go_wp2
          go_loopw [7, 8] (fun p q wi => ∃ (k2 a2 : Nat) (ms4 : List MatV), a2 ≤ n ∧ p = .int .i64 a2 ∧ q = .int .i64 (a2 + 2 * bs : Nat) ∧ Hid (a2 = k2 * (2 * bs)) ∧ Hid (Half (Le ltM) ms4 bs k2 n) ∧ Hid (Moved ms ms4 0 n) ∧ Hid (Row base g c n ms4 wi) ∧ Hid (w.grownBy wi (some g))) (fun p q _ => n + 1 - (intOf p).toNat)
          case atStart => exact ⟨0, 0, ms3, by omega, rfl, by go_num, Lib.hid (by omega), Lib.hid (Half.start HF3.out), HMV3, HROW3, HGR3⟩
          case round =>
            obtain ⟨k2, a2, ms4, han, rfl, rfl, HA, HH, HMV4, HROW4, HGR4⟩ := hrel
            clear HF3 HMV3 HROW3 HGR3
            by_cases hlt2 : a2 + 2 * bs ≤ n
            · as_aux_lemma =>
              have HP := HH.out.pair HA.out
              rw [Nat.min_eq_left (by omega), Nat.min_eq_left (by omega)] at HP
              go_wp2_with fail
              refine (sym_any base g c n hn (2 * bs) a2 (a2 + bs) (a2 + 2 * bs) ms4 _ _ _ _ (by omega) (by omega) (by omega) (by omega) (by omega) (by omega) (by omega) HROW4.out HP.1 (by rw [show a2 + 2 * bs = a2 + bs + bs by omega]; exact HP.2)).mono ?_
              rintro r w4 ⟨rfl, l5, hmv, hs, hrow, hg⟩
              have HROW5 := Lib.hid hrow
              have HH5 := Lib.hid (HH.out.step HA.out hmv hs)
              have HMV5 := Lib.hid (HMV4.out.trans (hmv.wide (Nat.zero_le _) hlt2))
              have HGR5 := Lib.hid (HGR4.out.trans hg)
              have HA5 : Hid (a2 + 2 * bs = (k2 + 1) * (2 * bs)) := Lib.hid (by rw [Nat.succ_mul k2 (2 * bs), ← HA.out])
              clear hmv hs hrow hg HROW4 HH HMV4 HGR4 HA HP
              go_wp2
              go_roundw
              case rel => exact ⟨k2 + 1, a2 + 2 * bs, l5, by omega, by go_num, by go_num, HA5, HH5, HMV5, HROW5, HGR5⟩
              case measure => simp [intOf]; omega
            · by_cases hm : a2 + bs < n
              · as_aux_lemma =>
                have HP := HH.out.pair HA.out
                rw [Nat.min_eq_left (by omega), Nat.min_eq_right (by omega)] at HP
                go_wp2_with fail
                refine (sym_any base g c n hn n a2 (a2 + bs) n ms4 _ _ _ _ (by omega) (by omega) (by omega) (by omega) (by omega) (by omega) (by omega) HROW4.out HP.1 HP.2).mono ?_
                rintro r w4 ⟨rfl, l5, hmv, hs, hrow, hg⟩
                have HROW5 := Lib.hid hrow
                have HH5 := Lib.hid (HH.out.full HA.out hmv hs han (by omega))
                have HMV5 := Lib.hid (HMV4.out.trans (hmv.wide (Nat.zero_le _) (Nat.le_refl _)))
                have HGR5 := Lib.hid (HGR4.out.trans hg)
                clear hmv hs hrow hg HROW4 HH HMV4 HGR4 HA HP
                go_wp2
                go_roundw
                case rel => exact ⟨2 * bs, l5, by omega, by omega, by go_num, HH5, HMV5, HROW5, HGR5⟩
                case measure => simp [intOf]; omega
              · as_aux_lemma =>
                have HP := HH.out.pair HA.out
                rw [Nat.min_eq_right (by omega)] at HP
                have HH5 := Lib.hid (HH.out.full HA.out (Moved.refl _ _ _) HP.1 han (by omega))
                clear HH HA HP
                go_wp2
                go_roundw
                case rel => exact ⟨2 * bs, ms4, by omega, by omega, by go_num, HH5, HMV4, HROW4, HGR4⟩
                case measure => simp [intOf]; omega
        · go_wp2
          go_end0
          exact ⟨rfl, ms3, HMV3.out, HF3.out.all (by omega), HROW3.out, HGR3.out⟩
set_option maxRecDepth 100000 in
set_option maxHeartbeats 4000000 in
theorem stable_zero (v : Value) (w : World) : Calls Tryd.prog 25 #[v, .int .i64 0, .func (.func 13) #[] #[]] w fun r w' => r = .returned (.tuple #[]) ∧ w' = w := by
  go_enter Tryd.func25, Tryd.ntmps25
  go_wp2
  go_loopw [7, 8] (fun p q wr => p = .int .i64 0 ∧ q = .int .i64 20 ∧ wr = w) (fun p q _ => 0)
  case atStart => exact ⟨rfl, rfl, rfl⟩
  case round =>
    obtain ⟨rfl, rfl, hwr⟩ := hrel
    rw [hwr]
    go_wp2_with fail
    refine (ins_zero v _ w).mono ?_
    rintro r w2 ⟨rfl, hw2⟩
    rw [hw2]
    go_wp2
    go_loopw [6] (fun o wi => o = .int .i64 20 ∧ wi = w) (fun o _ => 0)
    case atStart => first | exact ⟨rfl, rfl⟩ | exact ⟨rfl, hwr⟩
    case round =>
      obtain ⟨rfl, hwi⟩ := hrel
      go_wp2
      go_end0
      first | exact ⟨rfl, hwi⟩ | exact ⟨rfl, rfl⟩
end Go.Proofs.YtbopndepklafgaaDoor
