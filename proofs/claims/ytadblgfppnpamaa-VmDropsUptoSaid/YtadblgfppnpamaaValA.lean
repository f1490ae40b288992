/- Contracts of Canon and Clean, the document's and the program's. No conditions. -/
import Derived.Test.YtadblgfppnpamaaMem
namespace Go.Proofs.Ytadblgfppnpamaa
open Go.RowKit

def nanN (a : Nat) : Bool := decide (9218868437227405312 < a % 9223372036854775808)
def canonN (a : Nat) : Nat := if nanN a = true then 9221120237041090560 else a
theorem canonN_lt (a : Nat) (h : a < 18446744073709551616) : canonN a < 18446744073709551616 := by unfold canonN; split <;> omega
theorem canon_nan (a : Nat) (h : nanN a = true) : canonN a = 9221120237041090560 := if_pos h
theorem canon_not (a : Nat) (h : nanN a = false) : canonN a = a := if_neg (by rw [h]; simp)
theorem canon_canon (a : Nat) : canonN (canonN a) = canonN a := by
  cases h : nanN a
  · rw [canon_not a h, canon_not a h]
  · rw [canon_nan a h]; decide
theorem nan_canon (a : Nat) : nanN (canonN a) = nanN a := by
  cases h : nanN a
  · rw [canon_not a h, h]
  · rw [canon_nan a h]; decide

theorem andNot_sign (a : Nat) (h : a < 18446744073709551616) : bits .andNot .u64 (a : Int) 9223372036854775808 = ((a % 9223372036854775808 : Nat) : Int) := by
  have := u64_andNot_nat a 9223372036854775808 h (by omega)
  rw [show ((9223372036854775808 : Nat) : Int) = 9223372036854775808 from rfl] at this
  rw [this, show 18446744073709551615 - 9223372036854775808 = 2 ^ 63 - 1 from by decide, Nat.and_two_pow_sub_one_eq_mod]
theorem and_2047 (a : Nat) (h : a < 18446744073709551616) : bits .and .u64 (a : Int) 2047 = ((a % 2048 : Nat) : Int) := by
  have := u64_and_nat a 2047 h (by omega)
  rw [show ((2047 : Nat) : Int) = 2047 from rfl] at this
  rw [this, nat_mask11]
theorem and_frac (a : Nat) (h : a < 18446744073709551616) : bits .and .u64 (a : Int) 4503599627370495 = ((a % 4503599627370496 : Nat) : Int) := by
  have := u64_and_nat a 4503599627370495 h (by omega)
  rw [show ((4503599627370495 : Nat) : Int) = 4503599627370495 from rfl] at this
  rw [this, show 4503599627370495 = 2 ^ 52 - 1 from by decide, Nat.and_two_pow_sub_one_eq_mod]
theorem nan_iff (a : Nat) : nanN a = (decide (a / 4503599627370496 % 2048 = 2047) && decide (a % 4503599627370496 ≠ 0)) := by
  unfold nanN
  rw [Bool.eq_iff_iff]
  simp only [decide_eq_true_eq, Bool.and_eq_true]
  omega

theorem canon_any (a : Nat) (h : a < 18446744073709551616) (w : World) :
    Calls Try.prog 45 #[.int .u64 a] w fun e w' => e = .returned (.int .u64 (canonN a : Nat)) ∧ w = w' := by
  have hb := andNot_sign a h
  cases hn : nanN a
  · rw [canon_not a hn]
    have h1 : bits .andNot .u64 (a : Int) 9223372036854775808 ≤ 9218868437227405312 := by
      rw [hb]; have := of_decide_eq_false hn; omega
    clear hb hn
    go_enter Try.func45, Try.ntmps45
    go_wp2
    go_ret
    exact ⟨rfl, rfl⟩
  · rw [canon_nan a hn]
    have h1 : 9218868437227405312 < bits .andNot .u64 (a : Int) 9223372036854775808 := by
      rw [hb]; have := of_decide_eq_true hn; omega
    clear hb hn
    go_enter Try.func45, Try.ntmps45
    go_wp2
    go_ret
    exact ⟨rfl, rfl⟩

theorem isnan_any (a : Nat) (h : a < 18446744073709551616) (w : World) :
    Calls Try.prog 46 #[.int .u64 a] w fun e w' => e = .returned (.bool (nanN a)) ∧ w = w' := by
  have e1 : bits .and .u64 ((a : Int) / 4503599627370496) 2047 = ((a / 4503599627370496 % 2048 : Nat) : Int) := by
    rw [← and_2047 _ (by omega)]; rfl
  have e2 := and_frac a h
  have e3 := nan_iff a
  by_cases h1 : a / 4503599627370496 % 2048 = 2047
  · by_cases h2 : a % 4503599627370496 = 0
    · have hn : nanN a = false := by rw [e3]; simp [h2]
      have g1 : (bits .and .u64 ((a : Int) / 4503599627370496) 2047 == 2047) = true := by rw [e1, h1]; rfl
      have g2 : (bits .and .u64 (a : Int) 4503599627370495 != 0) = false := by rw [e2, h2]; rfl
      rw [hn]
      clear e1 e2 e3 h1 h2 hn
      go_enter Try.func46, Try.ntmps46
      go_wp2
      all_goals go_ret
      all_goals exact ⟨rfl, rfl⟩
    · have hn : nanN a = true := by rw [e3]; simp [h1, h2]
      have g1 : (bits .and .u64 ((a : Int) / 4503599627370496) 2047 == 2047) = true := by rw [e1, h1]; rfl
      have g2 : (bits .and .u64 (a : Int) 4503599627370495 != 0) = true := by rw [e2, bne_iff_ne]; omega
      rw [hn]
      clear e1 e2 e3 h1 h2 hn
      go_enter Try.func46, Try.ntmps46
      go_wp2
      all_goals go_ret
      all_goals exact ⟨rfl, rfl⟩
  · have hn : nanN a = false := by rw [e3]; simp [h1]
    have g1 : (bits .and .u64 ((a : Int) / 4503599627370496) 2047 == 2047) = false := by rw [e1, beq_eq_false_iff_ne]; omega
    rw [hn]
    clear e1 e2 e3 h1 hn
    go_enter Try.func46, Try.ntmps46
    go_wp2
    all_goals go_ret
    all_goals exact ⟨rfl, rfl⟩

theorem rcanon_any (a : Nat) (h : a < 18446744073709551616) (w : World) :
    Calls Try.prog 33 #[.int .u64 a] w fun e w' => e = .returned (.int .u64 (canonN a : Nat)) ∧ w = w' := by
  cases hn : nanN a
  · rw [canon_not a hn]
    go_enter Try.func33, Try.ntmps33
    go_wp2_with (go_at_call 46; refine (isnan_any a h _).mono ?_; rintro e w' ⟨rfl, rfl⟩)
    go_ret
    exact ⟨rfl, rfl⟩
  · rw [canon_nan a hn]
    go_enter Try.func33, Try.ntmps33
    go_wp2_with (go_at_call 46; refine (isnan_any a h _).mono ?_; rintro e w' ⟨rfl, rfl⟩)
    go_ret
    exact ⟨rfl, rfl⟩

/-- A value: its kind, its bits. -/
structure V where
  k : Int
  b : Nat
def V.v (x : V) : Value := .agg #[.int .i64 x.k, .int .u64 x.b]
def V.cells (x : V) : List Value := [.int .i64 x.k, .int .u64 x.b]
def V.fits (x : V) : Prop := x.b < 18446744073709551616
def none0 : V := ⟨0, 0⟩
/-- What a value counts as. -/
def clean (x : V) : V := if x.k = 1 ∨ (x.k = 2 ∧ x.b < 2) ∨ (x.k = 3 ∧ x.b < 64) then x else if x.k = 4 then ⟨4, canonN x.b⟩ else none0
theorem clean_fits (x : V) (h : x.fits) : (clean x).fits := by
  unfold clean
  split
  · exact h
  · split
    · exact canonN_lt _ h
    · exact (by decide : (0 : Nat) < 18446744073709551616)
theorem clean_same (x : V) (h : x.k = 1 ∨ (x.k = 2 ∧ x.b < 2) ∨ (x.k = 3 ∧ x.b < 64)) : clean x = x := if_pos h
theorem clean_real (x : V) (h : x.k = 4) : clean x = ⟨4, canonN x.b⟩ := by unfold clean; rw [if_neg (by omega), if_pos h]
theorem clean_none (x : V) (h : ¬ (x.k = 1 ∨ (x.k = 2 ∧ x.b < 2) ∨ (x.k = 3 ∧ x.b < 64))) (h4 : x.k ≠ 4) : clean x = none0 := by unfold clean; rw [if_neg h, if_neg h4]
theorem clean_cases (x : V) : ((x.k = 1 ∨ (x.k = 2 ∧ x.b < 2) ∨ (x.k = 3 ∧ x.b < 64)) ∧ clean x = x) ∨ (x.k = 4 ∧ clean x = ⟨4, canonN x.b⟩) ∨ (¬ (x.k = 1 ∨ (x.k = 2 ∧ x.b < 2) ∨ (x.k = 3 ∧ x.b < 64)) ∧ x.k ≠ 4 ∧ clean x = none0) := by
  by_cases h : x.k = 1 ∨ (x.k = 2 ∧ x.b < 2) ∨ (x.k = 3 ∧ x.b < 64)
  · exact .inl ⟨h, clean_same x h⟩
  · by_cases h4 : x.k = 4
    · exact .inr (.inl ⟨h4, clean_real x h4⟩)
    · exact .inr (.inr ⟨h, h4, clean_none x h h4⟩)
theorem clean_clean (x : V) : clean (clean x) = clean x := by
  rcases clean_cases x with ⟨h, e⟩ | ⟨_, e⟩ | ⟨_, _, e⟩
  · rw [e, clean_same x h]
  · rw [e, clean_real _ rfl]; simp only [canon_canon]
  · rw [e]; exact clean_none _ (by simp [none0]) (by simp [none0])

theorem pclean_any (x : V) (h : x.fits) (w : World) :
    Calls Try.prog 27 #[x.v] w fun e w' => e = .returned (clean x).v ∧ Below w.heap.size w w' := by
  have hb0 := h
  unfold V.fits at hb0
  obtain ⟨k, b⟩ := x
  simp only at hb0
  unfold V.v
  have hcn := canonN_lt b hb0
  by_cases h1 : k = 1
  · subst h1
    rw [clean_same _ (.inl rfl)]
    go_enter Try.func27, Try.ntmps27
    go_wp2
    exact bodyPost_ret (v := .agg #[.int .i64 1, .int .u64 b]) (by simp [results, Try.results27, go_sem]) rfl ⟨rfl, by repeat (first | exact Below.refl _ _ | refine Below.alloc ?_ (by simp) _)⟩
  by_cases h2 : k = 2
  · subst h2
    by_cases hb : b < 2
    · rw [clean_same _ (.inr (.inl ⟨rfl, hb⟩))]
      go_enter Try.func27, Try.ntmps27
      go_wp2
      exact bodyPost_ret (v := .agg #[.int .i64 2, .int .u64 b]) (by simp [results, Try.results27, go_sem]) rfl ⟨rfl, by repeat (first | exact Below.refl _ _ | refine Below.alloc ?_ (by simp) _)⟩
    · rw [clean_none _ (by simp; omega) (by simp)]
      go_enter Try.func27, Try.ntmps27
      go_wp2
      exact bodyPost_ret (v := .agg #[.int .i64 0, .int .u64 0]) (by simp [results, Try.results27, go_sem]) rfl ⟨rfl, by repeat (first | exact Below.refl _ _ | refine Below.alloc ?_ (by simp) _)⟩
  by_cases h3 : k = 3
  · subst h3
    by_cases hb : b < 64
    · rw [clean_same _ (.inr (.inr ⟨rfl, hb⟩))]
      go_enter Try.func27, Try.ntmps27
      go_wp2
      exact bodyPost_ret (v := .agg #[.int .i64 3, .int .u64 b]) (by simp [results, Try.results27, go_sem]) rfl ⟨rfl, by repeat (first | exact Below.refl _ _ | refine Below.alloc ?_ (by simp) _)⟩
    · rw [clean_none _ (by simp; omega) (by simp)]
      go_enter Try.func27, Try.ntmps27
      go_wp2
      exact bodyPost_ret (v := .agg #[.int .i64 0, .int .u64 0]) (by simp [results, Try.results27, go_sem]) rfl ⟨rfl, by repeat (first | exact Below.refl _ _ | refine Below.alloc ?_ (by simp) _)⟩
  by_cases h4 : k = 4
  · subst h4
    rw [clean_real _ rfl]
    go_enter Try.func27, Try.ntmps27
    go_wp2_with (go_at_call 45; refine (canon_any _ hb0 _).mono ?_; rintro e w' ⟨rfl, rfl⟩)
    exact bodyPost_ret (v := .agg #[.int .i64 4, .int .u64 (canonN b : Nat)]) (by simp [results, Try.results27, go_sem]) rfl ⟨rfl, by repeat (first | exact Below.refl _ _ | refine Below.alloc ?_ (by simp) _)⟩
  · rw [clean_none _ (by simp; omega) (by simpa using h4)]
    go_enter Try.func27, Try.ntmps27
    go_wp2
    exact bodyPost_ret (v := .agg #[.int .i64 0, .int .u64 0]) (by simp [results, Try.results27, go_sem]) rfl ⟨rfl, by repeat (first | exact Below.refl _ _ | refine Below.alloc ?_ (by simp) _)⟩

theorem rclean_any (x : V) (h : x.fits) (w : World) :
    Calls Try.prog 17 #[x.v] w fun e w' => e = .returned (clean x).v ∧ Below w.heap.size w w' := by
  have hb0 := h
  unfold V.fits at hb0
  obtain ⟨k, b⟩ := x
  simp only at hb0
  unfold V.v
  have hcn := canonN_lt b hb0
  by_cases h1 : k = 1
  · subst h1
    rw [clean_same _ (.inl rfl)]
    go_enter Try.func17, Try.ntmps17
    go_wp2
    exact bodyPost_ret (v := .agg #[.int .i64 1, .int .u64 b]) (by simp [results, Try.results17, go_sem]) rfl ⟨rfl, by repeat (first | exact Below.refl _ _ | refine Below.alloc ?_ (by simp) _)⟩
  by_cases h2 : k = 2
  · subst h2
    by_cases hb : b < 2
    · rw [clean_same _ (.inr (.inl ⟨rfl, hb⟩))]
      go_enter Try.func17, Try.ntmps17
      go_wp2
      exact bodyPost_ret (v := .agg #[.int .i64 2, .int .u64 b]) (by simp [results, Try.results17, go_sem]) rfl ⟨rfl, by repeat (first | exact Below.refl _ _ | refine Below.alloc ?_ (by simp) _)⟩
    · rw [clean_none _ (by simp; omega) (by simp)]
      go_enter Try.func17, Try.ntmps17
      go_wp2
      exact bodyPost_ret (v := .agg #[.int .i64 0, .int .u64 0]) (by simp [results, Try.results17, go_sem]) rfl ⟨rfl, by repeat (first | exact Below.refl _ _ | refine Below.alloc ?_ (by simp) _)⟩
  by_cases h3 : k = 3
  · subst h3
    by_cases hb : b < 64
    · rw [clean_same _ (.inr (.inr ⟨rfl, hb⟩))]
      go_enter Try.func17, Try.ntmps17
      go_wp2
      exact bodyPost_ret (v := .agg #[.int .i64 3, .int .u64 b]) (by simp [results, Try.results17, go_sem]) rfl ⟨rfl, by repeat (first | exact Below.refl _ _ | refine Below.alloc ?_ (by simp) _)⟩
    · rw [clean_none _ (by simp; omega) (by simp)]
      go_enter Try.func17, Try.ntmps17
      go_wp2
      exact bodyPost_ret (v := .agg #[.int .i64 0, .int .u64 0]) (by simp [results, Try.results17, go_sem]) rfl ⟨rfl, by repeat (first | exact Below.refl _ _ | refine Below.alloc ?_ (by simp) _)⟩
  by_cases h4 : k = 4
  · subst h4
    rw [clean_real _ rfl]
    go_enter Try.func17, Try.ntmps17
    go_wp2_with (go_at_call 33; refine (rcanon_any _ hb0 _).mono ?_; rintro e w' ⟨rfl, rfl⟩)
    exact bodyPost_ret (v := .agg #[.int .i64 4, .int .u64 (canonN b : Nat)]) (by simp [results, Try.results17, go_sem]) rfl ⟨rfl, by repeat (first | exact Below.refl _ _ | refine Below.alloc ?_ (by simp) _)⟩
  · rw [clean_none _ (by simp; omega) (by simpa using h4)]
    go_enter Try.func17, Try.ntmps17
    go_wp2
    exact bodyPost_ret (v := .agg #[.int .i64 0, .int .u64 0]) (by simp [results, Try.results17, go_sem]) rfl ⟨rfl, by repeat (first | exact Below.refl _ _ | refine Below.alloc ?_ (by simp) _)⟩

end Go.Proofs.Ytadblgfppnpamaa
