/- The float of an integer by its bits; the document's OfInt. No conditions. -/
import Derived.Test.YtkfpmoilfillmaaValS
namespace Go.Proofs.Ytkfpmoilfillmaa
open Go.RowKit
set_option linter.unusedSimpArgs false
set_option linter.unusedVariables false

/-- Rounded to 53 bits, of a number M of 64 bits. -/
def roundN (M : Nat) : Nat := M / 2048 + if 1024 < M % 2048 ∨ (M % 2048 = 1024 ∧ M / 2048 % 2 = 1) then 1 else 0
theorem log_bd {m : Nat} (h0 : m ≠ 0) (h : m ≤ 9223372036854775808) : m.log2 ≤ 63 ∧ 2 ^ m.log2 ≤ m ∧ m < 2 ^ (m.log2 + 1) := by
  refine ⟨?_, Nat.log2_self_le h0, Nat.lt_log2_self⟩
  have : m.log2 < 64 := (Nat.log2_lt h0).2 (by omega)
  omega
theorem shifted {m : Nat} (h0 : m ≠ 0) (h : m ≤ 9223372036854775808) : 9223372036854775808 ≤ m * 2 ^ (63 - m.log2) ∧ m * 2 ^ (63 - m.log2) < 18446744073709551616 := by
  obtain ⟨h1, h2, h3⟩ := log_bd h0 h
  constructor
  · have := Nat.mul_le_mul_right (2 ^ (63 - m.log2)) h2
    rw [← Nat.pow_add, show m.log2 + (63 - m.log2) = 63 by omega] at this
    exact this
  · have := Nat.mul_lt_mul_of_pos_right h3 (Nat.two_pow_pos (63 - m.log2))
    rw [← Nat.pow_add, show m.log2 + 1 + (63 - m.log2) = 64 by omega] at this
    exact this
theorem cut_low (neg : Bool) (n : Nat) : Ieee.Toward.even.cut neg n 0 = n := by
  unfold Ieee.Toward.cut
  simp [Nat.mod_one]
theorem cut_high (neg : Bool) (m d : Nat) (hd : d ≤ m.log2 + 2) : Ieee.Toward.even.cut neg m d = m / 2 ^ d + if 2 ^ d < 2 * (m % 2 ^ d) ∨ (2 ^ d = 2 * (m % 2 ^ d) ∧ m / 2 ^ d % 2 = 1) then 1 else 0 := by
  unfold Ieee.Toward.cut
  rw [Nat.min_eq_left hd, Nat.one_shiftLeft]
  simp only
  congr 1
  by_cases h1 : 2 ^ d < 2 * (m % 2 ^ d)
  · rw [if_pos (.inl h1)]; simp [h1]
  · by_cases h2 : 2 ^ d = 2 * (m % 2 ^ d) ∧ m / 2 ^ d % 2 = 1
    · rw [if_pos (.inr h2)]; simp [h1, h2.2, ← h2.1]
    · rw [if_neg (fun h => h.elim h1 h2)]
      by_cases h3 : 2 ^ d = 2 * (m % 2 ^ d)
      · have : ¬ m / 2 ^ d % 2 = 1 := fun h => h2 ⟨h3, h⟩
        simp [h1, this]
      · simp [h1, h3]
/-- What is kept. -/
theorem kept {m : Nat} (neg : Bool) (h0 : m ≠ 0) (h : m ≤ 9223372036854775808) :
    Ieee.Toward.even.cut neg (m <<< (0 - ((m.log2 : Int) - 52)).toNat) ((m.log2 : Int) - 52 - 0).toNat = roundN (m * 2 ^ (63 - m.log2)) := by
  obtain ⟨h1, h2, h3⟩ := log_bd h0 h
  unfold roundN
  by_cases hl : m.log2 ≤ 52
  · rw [show ((m.log2 : Int) - 52 - 0).toNat = 0 by omega, show (0 - ((m.log2 : Int) - 52)).toNat = 52 - m.log2 by omega, cut_low, Nat.shiftLeft_eq]
    have e : m * 2 ^ (63 - m.log2) = m * 2 ^ (52 - m.log2) * 2048 := by
      rw [show 63 - m.log2 = (52 - m.log2) + 11 by omega, Nat.pow_add, ← Nat.mul_assoc]
    rw [e, Nat.mul_mod_left, Nat.mul_div_cancel _ (by decide)]
    simp
  · have hs : (0 - ((m.log2 : Int) - 52)).toNat = 0 := by omega
    rw [hs, Nat.shiftLeft_zero, show ((m.log2 : Int) - 52 - 0).toNat = m.log2 - 52 by omega, cut_high _ _ _ (by omega)]
    have e : 2048 = 2 ^ (m.log2 - 52) * 2 ^ (63 - m.log2) := by
      rw [← Nat.pow_add, show m.log2 - 52 + (63 - m.log2) = 11 by omega]
    have hp := Nat.two_pow_pos (63 - m.log2)
    have e1 : m * 2 ^ (63 - m.log2) / 2048 = m / 2 ^ (m.log2 - 52) := by rw [e]; exact Nat.mul_div_mul_right _ _ hp
    have e2 : m * 2 ^ (63 - m.log2) % 2048 = m % 2 ^ (m.log2 - 52) * 2 ^ (63 - m.log2) := by rw [e]; exact Nat.mul_mod_mul_right _ _ _
    rw [e1, e2]
    generalize 2 ^ (m.log2 - 52) = D at *
    generalize 2 ^ (63 - m.log2) = K at *
    generalize m % D = r at *
    have c1 : 1024 < r * K ↔ D < 2 * r := by
      constructor
      · intro h
        have : D * K < 2 * r * K := by rw [← e, Nat.mul_assoc]; omega
        exact Nat.lt_of_mul_lt_mul_right this
      · intro h
        have := Nat.mul_lt_mul_of_pos_right h hp
        rw [← e, Nat.mul_assoc] at this; omega
    have c2 : r * K = 1024 ↔ D = 2 * r := by
      constructor
      · intro h
        have : D * K = 2 * r * K := by rw [← e, Nat.mul_assoc]; omega
        exact Nat.eq_of_mul_eq_mul_right hp this
      · intro h
        have : D * K = 2 * r * K := by rw [h]
        rw [← e, Nat.mul_assoc] at this; omega
    simp only [c1, c2]
theorem round_bd {M : Nat} (h1 : 9223372036854775808 ≤ M) (h2 : M < 18446744073709551616) : 4503599627370496 ≤ roundN M ∧ roundN M ≤ 9007199254740992 := by
  unfold roundN
  split <;> omega
def signN (n : Int) : Nat := if n < 0 then 9223372036854775808 else 0
theorem ofInt_zero : ofInt 0 = 0 := by decide
theorem ofInt_eq {n : Int} (hn : I64 n) (h0 : n ≠ 0) : ofInt n = signN n + ((1022 + n.natAbs.log2) * 4503599627370496 + roundN (n.natAbs * 2 ^ (63 - n.natAbs.log2))) := by
  unfold I64 at hn
  have hm : n.natAbs ≠ 0 := by omega
  have hm2 : n.natAbs ≤ 9223372036854775808 := by omega
  obtain ⟨l1, l2, l3⟩ := log_bd hm hm2
  obtain ⟨s1, s2⟩ := shifted hm hm2
  have hb := round_bd s1 s2
  have hk := kept (decide (n < 0)) hm hm2
  have e : floatOfInt .f64 n = signN n + ((1022 + n.natAbs.log2) * 4503599627370496 + roundN (n.natAbs * 2 ^ (63 - n.natAbs.log2))) := by
    show Ieee.double.nearest (decide (n < 0)) n.natAbs 0 = _
    unfold Ieee.Format.nearest
    have e4 : Ieee.double.leastPlace = -1074 := by decide
    have e3 : Ieee.double.infRung = 9218868437227405312 := by decide
    have e2 : Ieee.double.binade = 4503599627370496 := by decide
    have e5 : Ieee.double.fractionBits = 52 := by decide
    have e1 : Ieee.double.signWeight = 9223372036854775808 := by decide
    rw [if_neg hm, e4, e3, e2, e5]
    have el : max (0 + (n.natAbs.log2 : Int) - ((52 : Nat) : Int)) (-1074) = (n.natAbs.log2 : Int) - 52 := by omega
    simp only [el]
    rw [hk]
    generalize roundN (n.natAbs * 2 ^ (63 - n.natAbs.log2)) = K at *
    have ex : ((n.natAbs.log2 : Int) - 52 - -1074).toNat = 1022 + n.natAbs.log2 := by omega
    rw [ex, Nat.min_eq_left (by omega)]
    unfold Ieee.Format.word signN
    rw [e1]
    by_cases hs : n < 0
    · rw [if_pos (decide_eq_true hs), if_pos hs]
    · rw [if_neg (by simpa using hs), if_neg hs]; omega
  unfold ofInt
  rw [e]
  apply canon_not
  generalize roundN (n.natAbs * 2 ^ (63 - n.natAbs.log2)) = K at *
  unfold nanN signN
  apply decide_eq_false
  split <;> omega
end Go.Proofs.Ytkfpmoilfillmaa
