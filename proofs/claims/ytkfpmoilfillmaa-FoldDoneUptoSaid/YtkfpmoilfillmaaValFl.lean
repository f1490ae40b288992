/- Plain laws of floats: how two words stand to each other is how their keys do; the float of an integer by its bits. No conditions. -/
import Derived.Test.YtkfpmoilfillmaaValO
namespace Go.Proofs.Ytkfpmoilfillmaa
open Go.RowKit
set_option linter.unusedVariables false

theorem cmp_lt {a b : Int} (h : a < b) : compare a b = .lt := by simp [compare, compareOfLessAndEq, h]
theorem cmp_eq {a b : Int} (h : a = b) : compare a b = .eq := by subst h; simp [compare, compareOfLessAndEq]
theorem cmp_gt {a b : Int} (h : b < a) : compare a b = .gt := by
  have h1 : ¬ a < b := by omega
  have h2 : ¬ a = b := by omega
  simp [compare, compareOfLessAndEq, h1, h2]
/-- Two pairs of numbers that stand alike. -/
theorem cmp_alike {a b c d : Int} (h1 : a < b ↔ c < d) (h2 : b < a ↔ d < c) : compare a b = compare c d := by
  rcases Int.lt_trichotomy a b with h | h | h
  · rw [cmp_lt h, cmp_lt (h1.1 h)]
  · have h3 : ¬ c < d := fun x => by have := h1.2 x; omega
    have h4 : ¬ d < c := fun x => by have := h2.2 x; omega
    rw [cmp_eq h, cmp_eq (by omega)]
  · rw [cmp_gt h, cmp_gt (h2.1 h)]

/-- The magnitude that a rung stands for, in the least units. -/
def valN (r : Nat) : Nat := if r < 2 ^ 52 then r else (2 ^ 52 + r % 2 ^ 52) * 2 ^ (r / 2 ^ 52 - 1)
theorem valN_step (r : Nat) : valN r < valN (r + 1) := by
  unfold valN
  by_cases h1 : r + 1 < 2 ^ 52
  · rw [if_pos (by omega), if_pos h1]; omega
  · rw [if_neg h1]
    by_cases h2 : r < 2 ^ 52
    · rw [if_pos h2]
      have : r + 1 = 2 ^ 52 := by omega
      rw [this]
      simp only [Nat.mod_self, Nat.add_zero, Nat.div_self (show 0 < 2 ^ 52 by decide), Nat.sub_self, Nat.pow_zero, Nat.mul_one]
      omega
    · rw [if_neg h2]
      by_cases h3 : r % 2 ^ 52 + 1 < 2 ^ 52
      · have e1 : (r + 1) % 2 ^ 52 = r % 2 ^ 52 + 1 := by omega
        have e2 : (r + 1) / 2 ^ 52 = r / 2 ^ 52 := by omega
        rw [e1, e2]
        exact Nat.mul_lt_mul_of_pos_right (by omega) (Nat.two_pow_pos _)
      · have e0 : r % 2 ^ 52 = 2 ^ 52 - 1 := by omega
        have e1 : (r + 1) % 2 ^ 52 = 0 := by omega
        have e2 : (r + 1) / 2 ^ 52 - 1 = (r / 2 ^ 52 - 1) + 1 := by omega
        rw [e0, e1, e2, show (2 : Nat) ^ (r / 2 ^ 52 - 1 + 1) = 2 ^ (r / 2 ^ 52 - 1) * 2 from Nat.pow_succ _ _]
        have := Nat.two_pow_pos (r / 2 ^ 52 - 1)
        generalize 2 ^ (r / 2 ^ 52 - 1) = p at *
        omega
theorem valN_mono {r s : Nat} (h : r < s) : valN r < valN s := by
  induction s with
  | zero => omega
  | succ s ih =>
    by_cases he : r = s
    · subst he; exact valN_step r
    · exact Nat.lt_trans (ih (by omega)) (valN_step s)
theorem valN_iff {r s : Nat} : valN r < valN s ↔ r < s := by
  constructor
  · intro h
    rcases Nat.lt_trichotomy r s with h1 | h1 | h1
    · exact h1
    · subst h1; omega
    · have := valN_mono h1; omega
  · exact valN_mono

/-- The number that a word stands for, as its place among the numbers: its rung with its sign. -/
def keyN (x : Nat) : Int := if 9223372036854775808 ≤ x then -((x : Int) - 9223372036854775808) else x
def sg (neg : Bool) (n : Nat) : Int := if neg = true then -(n : Int) else n
theorem key_sg {x : Nat} (hx : x < 18446744073709551616) : keyN x = sg (x / 9223372036854775808 % 2 == 1) (x % 9223372036854775808) := by
  unfold keyN sg
  by_cases h : 9223372036854775808 ≤ x
  · have e : x / 9223372036854775808 % 2 = 1 := by omega
    rw [if_pos h, e, if_pos (by decide)]; omega
  · have e : x / 9223372036854775808 % 2 = 0 := by omega
    rw [if_neg h, e, if_neg (by decide)]; omega
theorem sg_val (s t : Bool) (r r' : Nat) : compare (sg s (valN r)) (sg t (valN r')) = compare (sg s r) (sg t r') := by
  have h1 := @valN_iff r r'
  have h2 := @valN_iff r' r
  have z1 : valN 0 = 0 := rfl
  have p1 := @valN_iff 0 r
  have p2 := @valN_iff 0 r'
  rw [z1] at p1 p2
  cases s <;> cases t <;> simp only [sg, if_true, Bool.false_eq_true, if_false]
  all_goals refine cmp_alike ?_ ?_
  all_goals omega

theorem read_num {x : Nat} (h : x % 9223372036854775808 < 9218868437227405312) : ∃ m i, Ieee.double.read x = .number (x / 9223372036854775808 % 2 == 1) m i ∧ -1074 ≤ i ∧ m * 2 ^ (i + 1074).toNat = valN (x % 9223372036854775808) := by
  have e1 : Ieee.double.signWeight = 9223372036854775808 := by decide
  have e2 : Ieee.double.binade = 4503599627370496 := by decide
  have e3 : Ieee.double.infRung = 9218868437227405312 := by decide
  have e4 : Ieee.double.leastPlace = -1074 := by decide
  unfold Ieee.Format.read
  simp only [e1, e2, e3, e4]
  generalize x % 9223372036854775808 = r at *
  unfold valN
  by_cases h1 : r < 4503599627370496
  · rw [if_pos h1, if_pos (by omega)]
    exact ⟨_, _, rfl, by omega, by simp⟩
  · rw [if_neg h1, if_pos h, if_neg (by omega)]
    refine ⟨_, _, rfl, by omega, ?_⟩
    rw [show ((-1074 : Int) + ((r / 4503599627370496 - 1 : Nat) : Int) + 1074).toNat = r / 4503599627370496 - 1 by omega]
theorem order_num (s t : Bool) (m n : Nat) (i j : Int) (r r' : Nat) (hi : -1074 ≤ i) (hj : -1074 ≤ j) (h1 : m * 2 ^ (i + 1074).toNat = valN r) (h2 : n * 2 ^ (j + 1074).toNat = valN r') :
    Ieee.Datum.order (.number s m i) (.number t n j) = some (compare (sg s r) (sg t r')) := by
  rw [← sg_val]
  unfold Ieee.Datum.order
  simp only
  congr 1
  have hK := Nat.two_pow_pos (min i j + 1074).toNat
  have e1 : m <<< (i - min i j).toNat * 2 ^ (min i j + 1074).toNat = valN r := by
    rw [Nat.shiftLeft_eq, Nat.mul_assoc, ← Nat.pow_add, show (i - min i j).toNat + (min i j + 1074).toNat = (i + 1074).toNat by omega, h1]
  have e2 : n <<< (j - min i j).toNat * 2 ^ (min i j + 1074).toNat = valN r' := by
    rw [Nat.shiftLeft_eq, Nat.mul_assoc, ← Nat.pow_add, show (j - min i j).toNat + (min i j + 1074).toNat = (j + 1074).toNat by omega, h2]
  unfold Ieee.signed
  generalize m <<< (i - min i j).toNat = A at *
  generalize n <<< (j - min i j).toNat = B at *
  generalize 2 ^ (min i j + 1074).toNat = K at *
  have a1 : A * K < B * K ↔ A < B := Nat.mul_lt_mul_right hK
  have a2 : B * K < A * K ↔ B < A := Nat.mul_lt_mul_right hK
  have a3 : 0 < A * K ↔ 0 < A := ⟨fun h => Nat.pos_of_ne_zero fun e => by rw [e, Nat.zero_mul] at h; omega, fun h => Nat.mul_pos h hK⟩
  have a4 : 0 < B * K ↔ 0 < B := ⟨fun h => Nat.pos_of_ne_zero fun e => by rw [e, Nat.zero_mul] at h; omega, fun h => Nat.mul_pos h hK⟩
  rw [e1] at a1 a2 a3
  rw [e2] at a1 a2 a4
  cases s <;> cases t <;> simp only [sg, if_true, Bool.false_eq_true, if_false]
  all_goals refine cmp_alike ?_ ?_
  all_goals omega

theorem read_inf {x : Nat} (h : x % 9223372036854775808 = 9218868437227405312) : Ieee.double.read x = .infinity (x / 9223372036854775808 % 2 == 1) := by
  have e1 : Ieee.double.signWeight = 9223372036854775808 := by decide
  have e2 : Ieee.double.binade = 4503599627370496 := by decide
  have e3 : Ieee.double.infRung = 9218868437227405312 := by decide
  unfold Ieee.Format.read
  simp only [e1, e2, e3, h]
  rw [if_neg (by decide), if_neg (by decide), if_pos trivial]
theorem read_nan {x : Nat} (h : nanN x = true) : ∃ s t, Ieee.double.read x = .nan s t := by
  have h := of_decide_eq_true h
  have e1 : Ieee.double.signWeight = 9223372036854775808 := by decide
  have e2 : Ieee.double.binade = 4503599627370496 := by decide
  have e3 : Ieee.double.infRung = 9218868437227405312 := by decide
  unfold Ieee.Format.read
  simp only [e1, e2, e3]
  generalize x % 9223372036854775808 = r at *
  rw [if_neg (by omega), if_neg (by omega), if_neg (by omega)]
  exact ⟨_, _, rfl⟩
theorem nan_left {x y : Nat} (h : nanN x = true) : Ieee.double.order x y = none := by
  obtain ⟨s, t, e⟩ := read_nan h
  unfold Ieee.Format.order
  rw [e]; rfl
theorem nan_right {x y : Nat} (h : nanN y = true) : Ieee.double.order x y = none := by
  obtain ⟨s, t, e⟩ := read_nan h
  unfold Ieee.Format.order
  rw [e]
  cases Ieee.double.read x <;> rfl
theorem not_nan {x : Nat} (h : nanN x = false) : x % 9223372036854775808 < 9218868437227405312 ∨ x % 9223372036854775808 = 9218868437227405312 := by
  have := of_decide_eq_false h; omega
/-- Of two words that are no NaN's. -/
theorem order_key {x y : Nat} (hx : x < 18446744073709551616) (hy : y < 18446744073709551616) (nx : nanN x = false) (ny : nanN y = false) : Ieee.double.order x y = some (compare (keyN x) (keyN y)) := by
  rw [key_sg hx, key_sg hy]
  unfold Ieee.Format.order
  rcases not_nan nx with h1 | h1 <;> rcases not_nan ny with h2 | h2
  · obtain ⟨m, i, e1, g1, v1⟩ := read_num h1
    obtain ⟨n, j, e2, g2, v2⟩ := read_num h2
    rw [e1, e2]
    exact order_num _ _ _ _ _ _ _ _ g1 g2 v1 v2
  · obtain ⟨m, i, e1, g1, v1⟩ := read_num h1
    rw [e1, read_inf h2, h2]
    generalize (x / 9223372036854775808 % 2 == 1) = s
    generalize (y / 9223372036854775808 % 2 == 1) = t
    generalize x % 9223372036854775808 = r at *
    show some (if t = true then Ordering.gt else .lt) = _
    cases t
    · rw [if_neg (by decide), cmp_lt (by simp only [sg, Bool.false_eq_true, if_false]; split <;> omega)]
    · rw [if_pos rfl, cmp_gt (by unfold sg; rw [if_pos rfl]; split <;> omega)]
  · obtain ⟨n, j, e2, g2, v2⟩ := read_num h2
    rw [e2, read_inf h1, h1]
    generalize (x / 9223372036854775808 % 2 == 1) = s
    generalize (y / 9223372036854775808 % 2 == 1) = t
    generalize y % 9223372036854775808 = r at *
    show some (if s = true then Ordering.lt else .gt) = _
    cases s
    · rw [if_neg (by decide), cmp_gt (by simp only [sg, Bool.false_eq_true, if_false]; split <;> omega)]
    · rw [if_pos rfl, cmp_lt (by unfold sg; rw [if_pos rfl]; split <;> omega)]
  · rw [read_inf h1, read_inf h2, h1, h2]
    generalize (x / 9223372036854775808 % 2 == 1) = s
    generalize (y / 9223372036854775808 % 2 == 1) = t
    cases s <;> cases t <;> decide
theorem canon_nn {x : Nat} (h : nanN x = false) : nanN (canonN x) = false := by rw [nan_canon]; exact h
/-- The program's tests of two floats, by keys. -/
theorem lt_key {a b : Nat} (ha : a < 18446744073709551616) (hb : b < 18446744073709551616) : ltF a b = (!nanN a && !nanN b && decide (keyN a < keyN b)) := by
  show (Ieee.double.order (canonN a) (canonN b) == some .lt) = _
  cases na : nanN a
  · cases nb : nanN b
    · rw [canon_not a na, canon_not b nb, order_key ha hb na nb]
      rcases Int.lt_trichotomy (keyN a) (keyN b) with h | h | h
      · rw [cmp_lt h]; simp [h]
      · rw [cmp_eq h]; simp [h]
      · rw [cmp_gt h]; have : ¬ keyN a < keyN b := by omega
        simp [this]
    · rw [nan_right (by rw [nan_canon]; exact nb)]; rfl
  · rw [nan_left (by rw [nan_canon]; exact na)]; rfl
theorem eq_key {a b : Nat} (ha : a < 18446744073709551616) (hb : b < 18446744073709551616) : eqF a b = (!nanN a && !nanN b && decide (keyN a = keyN b)) := by
  show (Ieee.double.order (canonN a) (canonN b) == some .eq) = _
  cases na : nanN a
  · cases nb : nanN b
    · rw [canon_not a na, canon_not b nb, order_key ha hb na nb]
      rcases Int.lt_trichotomy (keyN a) (keyN b) with h | h | h
      · rw [cmp_lt h]; have : ¬ keyN a = keyN b := by omega
        simp [this]
      · rw [cmp_eq h]; simp [h]
      · rw [cmp_gt h]; have : ¬ keyN a = keyN b := by omega
        simp [this]
    · rw [nan_right (by rw [nan_canon]; exact nb)]; rfl
  · rw [nan_left (by rw [nan_canon]; exact na)]; rfl
end Go.Proofs.Ytkfpmoilfillmaa
