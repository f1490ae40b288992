/- Contracts of the program's arithmetic on ints. No conditions. -/
import Derived.Test.YtadblgfppnpamaaValR
import Derived.Shelf.Bits.Mul64
namespace Go.Proofs.Ytadblgfppnpamaa
open Go.RowKit
set_option linter.unusedSimpArgs false

/-- What is thrown where an operator has no answer. -/
def thrown : List PanicEntry := [{ v := .iface 90 (.agg #[]), recovered := false }]
def endsI : Option Int → Ending
  | some n => .returned (.int .i64 n)
  | none => .panicked thrown
def fitI (n : Int) : Option Int := if -9223372036854775808 ≤ n ∧ n < 9223372036854775808 then some n else none
theorem fit_in {n : Int} (h1 : -9223372036854775808 ≤ n) (h2 : n < 9223372036854775808) : fitI n = some n := if_pos ⟨h1, h2⟩
theorem fit_out {n : Int} (h : n < -9223372036854775808 ∨ 9223372036854775808 ≤ n) : fitI n = none := if_neg (by omega)
theorem fit_some {n m : Int} (h : fitI n = some m) : m = n ∧ -9223372036854775808 ≤ n ∧ n < 9223372036854775808 := by
  unfold fitI at h
  split at h
  · cases h; exact ⟨rfl, by assumption⟩
  · cases h
def I64 (n : Int) : Prop := -9223372036854775808 ≤ n ∧ n < 9223372036854775808

theorem add_any (a b : Int) (ha : I64 a) (hb : I64 b) (w : World) :
    Calls Try.prog 87 #[.int .i64 a, .int .i64 b] w fun e w' => e = endsI (fitI (a + b)) ∧ w = w' := by
  unfold I64 at ha hb
  by_cases h1 : -9223372036854775808 ≤ a + b ∧ a + b < 9223372036854775808
  · rw [fit_in h1.1 h1.2]
    have e1 : wrap64 (a + b) = a + b := by unfold wrap64; omega
    by_cases hp : 0 < b
    · have g : a < (a + b) := by omega
      go_enter Try.func87, Try.ntmps87
      go_wp2
      go_ret
      exact ⟨rfl, rfl⟩
    · have g : ¬ a < (a + b) := by omega
      go_enter Try.func87, Try.ntmps87
      go_wp2
      go_ret
      exact ⟨rfl, rfl⟩
  · rw [fit_out (by omega)]
    by_cases hp : 0 < b
    · have e1 : wrap64 (a + b) = a + b - 18446744073709551616 := by unfold wrap64; omega
      have g : ¬ a < a + b - 18446744073709551616 := by omega
      clear h1
      go_enter Try.func87, Try.ntmps87
      go_wp2
      exact ⟨rfl, rfl, rfl⟩
    · have e1 : wrap64 (a + b) = a + b + 18446744073709551616 := by unfold wrap64; omega
      have g : a < a + b + 18446744073709551616 := by omega
      clear h1
      go_enter Try.func87, Try.ntmps87
      go_wp2
      exact ⟨rfl, rfl, rfl⟩

theorem sub_any (a b : Int) (ha : I64 a) (hb : I64 b) (w : World) :
    Calls Try.prog 81 #[.int .i64 a, .int .i64 b] w fun e w' => e = endsI (fitI (a - b)) ∧ w = w' := by
  unfold I64 at ha hb
  by_cases h1 : -9223372036854775808 ≤ a - b ∧ a - b < 9223372036854775808
  · rw [fit_in h1.1 h1.2]
    have e1 : wrap64 (a - b) = a - b := by unfold wrap64; omega
    by_cases hp : 0 < b
    · have g : (a - b) < a := by omega
      go_enter Try.func81, Try.ntmps81
      go_wp2
      go_ret
      exact ⟨rfl, rfl⟩
    · have g : ¬ (a - b) < a := by omega
      go_enter Try.func81, Try.ntmps81
      go_wp2
      go_ret
      exact ⟨rfl, rfl⟩
  · rw [fit_out (by omega)]
    by_cases hp : 0 < b
    · have e1 : wrap64 (a - b) = a - b + 18446744073709551616 := by unfold wrap64; omega
      have g : ¬ a - b + 18446744073709551616 < a := by omega
      clear h1
      go_enter Try.func81, Try.ntmps81
      go_wp2
      exact ⟨rfl, rfl, rfl⟩
    · have e1 : wrap64 (a - b) = a - b - 18446744073709551616 := by unfold wrap64; omega
      have g : a - b - 18446744073709551616 < a := by omega
      clear h1
      go_enter Try.func81, Try.ntmps81
      go_wp2
      exact ⟨rfl, rfl, rfl⟩

set_option maxHeartbeats 1000000 in
theorem mul64_any (x y : Nat) (hx : x < 18446744073709551616) (hy : y < 18446744073709551616) (w : World) :
    Calls Try.prog 90 #[.int .u64 x, .int .u64 y] w fun e w' => e = .returned (.tuple #[.int .u64 ((x * y / 18446744073709551616 : Nat) : Int), .int .u64 ((x * y % 18446744073709551616 : Nat) : Int)]) ∧ w = w' := by
  obtain ⟨bd, bt, bw, hhi⟩ := Lib.mul64_hi x y hx hy
  have ba := Lib.half_mul_le (a := x / 4294967296) (b := y / 4294967296) (by omega) (by omega)
  have bb := Lib.half_mul_le (a := x / 4294967296) (b := y % 4294967296) (by omega) (by omega)
  have bc := Lib.half_mul_le (a := x % 4294967296) (b := y / 4294967296) (by omega) (by omega)
  have ba' : x / 4294967296 * (y / 4294967296) < 18446744073709551616 := by omega
  have bb' : x / 4294967296 * (y % 4294967296) < 18446744073709551616 := by omega
  have bc' : x % 4294967296 * (y / 4294967296) < 18446744073709551616 := by omega
  have bh1 : x / 4294967296 * (y / 4294967296) + (x / 4294967296 * (y % 4294967296) + x % 4294967296 * (y % 4294967296) / 4294967296) / 4294967296 < 18446744073709551616 := by omega
  have bh : x / 4294967296 * (y / 4294967296) + (x / 4294967296 * (y % 4294967296) + x % 4294967296 * (y % 4294967296) / 4294967296) / 4294967296 + ((x / 4294967296 * (y % 4294967296) + x % 4294967296 * (y % 4294967296) / 4294967296) % 4294967296 + x % 4294967296 * (y / 4294967296)) / 4294967296 < 18446744073709551616 := by omega
  go_enter Try.func90, Try.ntmps90
  go_wp2
  simp only [Mul64.maskN x hx, Mul64.maskN y hy, Mul64.divN, Mul64.mulN, Mul64.addN, Mul64.wrapN _ bd, Mul64.wrapN _ bb', Mul64.wrapN _ bt, Mul64.maskN _ bt, Mul64.wrapN _ bc', Mul64.wrapN _ bw, Mul64.wrapN _ ba', Mul64.wrapN _ bh1, Mul64.wrapN _ bh, Mul64.wrapM (x * y)]
  rw [hhi]
  go_ret2
  exact ⟨rfl, rfl⟩

theorem size_any (a : Int) (ha : I64 a) (w : World) :
    Calls Try.prog 89 #[.int .i64 a] w fun e w' => e = .returned (.int .u64 (a.natAbs : Nat)) ∧ w = w' := by
  unfold I64 at ha
  by_cases h : a < 0
  · have e1 : IntKind.u64.wrap (-(IntKind.u64.wrap a)) = (a.natAbs : Int) := by rw [IntKind.wrap_u64, IntKind.wrap_u64]; omega
    go_enter Try.func89, Try.ntmps89
    go_wp2
    go_ret
    exact ⟨by rw [← e1]; rfl, rfl⟩
  · have e1 : IntKind.u64.wrap a = (a.natAbs : Int) := by rw [IntKind.wrap_u64]; omega
    go_enter Try.func89, Try.ntmps89
    go_wp2
    go_ret
    exact ⟨by rw [← e1]; rfl, rfl⟩

theorem natAbs_mul_same {a b : Int} (h : (decide (a < 0) == decide (b < 0)) = true) : a * b = ((a.natAbs * b.natAbs : Nat) : Int) := by
  rw [Int.natCast_mul]
  by_cases h1 : a < 0 <;> by_cases h2 : b < 0
  · rw [show (a.natAbs : Int) = -a by omega, show (b.natAbs : Int) = -b by omega, Int.neg_mul_neg]
  · simp [h1, h2] at h
  · simp [h1, h2] at h
  · rw [show (a.natAbs : Int) = a by omega, show (b.natAbs : Int) = b by omega]
theorem natAbs_mul_diff {a b : Int} (h : (decide (a < 0) == decide (b < 0)) = false) : a * b = -((a.natAbs * b.natAbs : Nat) : Int) := by
  rw [Int.natCast_mul]
  by_cases h1 : a < 0 <;> by_cases h2 : b < 0
  · simp [h1, h2] at h
  · rw [show (a.natAbs : Int) = -a by omega, show (b.natAbs : Int) = b by omega, Int.neg_mul, Int.neg_neg]
  · rw [show (a.natAbs : Int) = a by omega, show (b.natAbs : Int) = -b by omega, Int.mul_neg, Int.neg_neg]
  · simp [h1, h2] at h

theorem mul_any (a b : Int) (ha : I64 a) (hb : I64 b) (w : World) :
    Calls Try.prog 88 #[.int .i64 a, .int .i64 b] w fun e w' => e = endsI (fitI (a * b)) ∧ w = w' := by
  have ha' := ha
  have hb' := hb
  unfold I64 at ha' hb'
  obtain ⟨hi, hhi⟩ : ∃ hi : Int, ((a.natAbs * b.natAbs / 18446744073709551616 : Nat) : Int) = hi := ⟨_, rfl⟩
  obtain ⟨lo, hlo⟩ : ∃ lo : Int, ((a.natAbs * b.natAbs % 18446744073709551616 : Nat) : Int) = lo := ⟨_, rfl⟩
  obtain ⟨bl, hbl⟩ : ∃ bl : Bool, (decide (a < 0) == decide (b < 0)) = bl := ⟨_, rfl⟩
  have key : (if (hi != 0) = true then none else if 9223372036854775808 < lo then none else if (lo == 9223372036854775808) = true ∧ bl = true then none else if bl = true then some (wrap64 lo) else some (wrap64 (-(wrap64 lo)))) = fitI (a * b) := by
    cases bl
    · rw [natAbs_mul_diff hbl]
      generalize a.natAbs * b.natAbs = p at *
      unfold fitI wrap64
      repeat' split
      all_goals (try simp only [bne_iff_ne, beq_iff_eq, Bool.not_eq_true, Bool.false_eq_true, and_false, not_false_eq_true, if_true, if_false] at *)
      all_goals (try first | rfl | omega | (congr 1; omega))
    · rw [natAbs_mul_same hbl]
      generalize a.natAbs * b.natAbs = p at *
      unfold fitI wrap64
      repeat' split
      all_goals (try simp only [bne_iff_ne, beq_iff_eq, Bool.not_eq_true, and_true, not_true_eq_false] at *)
      all_goals (try first | rfl | omega | (congr 1; omega))
  rw [← key]
  clear key ha' hb'
  go_enter Try.func88, Try.ntmps88
  go_wp2_with fail
  refine (size_any a ha _).mono ?_
  rintro e w' ⟨rfl, rfl⟩
  go_wp2_with fail
  refine (size_any b hb _).mono ?_
  rintro e w' ⟨rfl, rfl⟩
  have hx : a.natAbs < 18446744073709551616 := by unfold I64 at ha; omega
  have hy : b.natAbs < 18446744073709551616 := by unfold I64 at hb; omega
  go_wp2_with fail
  refine (mul64_any a.natAbs b.natAbs hx hy _).mono ?_
  rintro e w' ⟨rfl, rfl⟩
  rw [hhi, hlo]
  clear hhi hlo hx hy ha hb
  cases bl
  all_goals by_cases g0 : (hi != 0) = true
  all_goals by_cases g1 : 9223372036854775808 < lo
  all_goals by_cases g2 : (lo == 9223372036854775808) = true
  all_goals simp only [g0, g1, g2, if_true, if_false, and_true, and_false, true_and, false_and, Bool.false_eq_true, not_false_eq_true]
  all_goals go_wp2
  all_goals first | (go_ret; exact ⟨rfl, rfl⟩) | exact ⟨rfl, rfl, rfl⟩
end Go.Proofs.Ytadblgfppnpamaa
