/- Contracts of the orders of layers 1 and 2, the document's and the program's; of Same. No conditions. -/
import Derived.Test.YtomhheihhnmbcaaValO
import Derived.Deep.QuietTactic
import Derived.BigQuiet
namespace Go.Proofs.Ytomhheihhnmbcaa
open Go.RowKit
set_option linter.unusedSimpArgs false
set_option linter.unusedVariables false

theorem or_sign (c : Nat) (h : c < 9223372036854775808) : bits .or .u64 (c : Int) 9223372036854775808 = (c : Int) + 9223372036854775808 := by
  have := u64_or_nat c 9223372036854775808 (by omega) (by omega)
  rw [show ((9223372036854775808 : Nat) : Int) = 9223372036854775808 from rfl] at this
  rw [this]
  have e := Nat.two_pow_add_eq_or_of_lt (i := 63) h 1
  rw [Nat.or_comm, show (9223372036854775808 : Nat) = 2 ^ 63 * 1 from by decide, ← e]
  omega
theorem not_u64 (a : Nat) (h : a < 18446744073709551616) : bits .xor .u64 IntKind.u64.max (a : Int) = 18446744073709551615 - (a : Int) := by
  have := u64_xor_nat 18446744073709551615 a (by omega) h
  rw [show IntKind.u64.max = ((18446744073709551615 : Nat) : Int) from rfl, this]
  have e := congrArg BitVec.toNat (BitVec.xor_allOnes (x := BitVec.ofNat 64 a))
  rw [BitVec.toNat_xor, BitVec.toNat_allOnes, BitVec.toNat_not, BitVec.toNat_ofNat, Nat.mod_eq_of_lt (by simpa using h)] at e
  rw [Nat.xor_comm, show (18446744073709551615 : Nat) = 2 ^ 64 - 1 from by decide, e]
  omega
set_option maxRecDepth 100000 in
theorem rank_any (a : Nat) (h : a < 18446744073709551616) (w : World) : Calls Try.prog 86 #[.int .u64 a] w fun e w' => e = .returned (.int .u64 (rankN (canonN a))) ∧ w = w' := by
  have hc := canonN_lt a h
  by_cases h1 : 9223372036854775808 ≤ canonN a
  · unfold rankN
    rw [if_pos h1]
    have g1 : decide ((9223372036854775808 : Int) ≤ (canonN a : Int)) = true := decide_eq_true (by omega)
    have HC := Lib.hid hc
    clear h1 hc
    go_enter Try.func86, Try.ntmps86
    go_wp2_with (go_at_call 34; refine (canon_any a h _).mono ?_; rintro e w' ⟨rfl, rfl⟩)
    all_goals go_ret
    all_goals first | exact ⟨ret_int (not_u64 _ HC.out), rfl⟩ | (exfalso; rename_i h; exact absurd h (by decide))
  · unfold rankN
    rw [if_neg h1]
    have ho := or_sign (canonN a) (by omega)
    have g1 : decide ((9223372036854775808 : Int) ≤ (canonN a : Int)) = false := decide_eq_false (by omega)
    clear h1 hc
    go_enter Try.func86, Try.ntmps86
    go_wp2_with (go_at_call 34; refine (canon_any a h _).mono ?_; rintro e w' ⟨rfl, rfl⟩)
    go_ret
    exact ⟨ret_int (by first | rfl | simp [ho]), rfl⟩
set_option maxRecDepth 100000 in
set_option maxHeartbeats 1000000 in
theorem pordN_any (a b : Nat) (ha : a < 18446744073709551616) (hb : b < 18446744073709551616) (w : World) :
    Calls Try.prog 82 #[.int .u64 a, .int .u64 b] w fun e w' => e = .returned (.int .i64 (ordN a b)) ∧ w = w' := by
  unfold ordN cmpI
  by_cases h1 : rankN (canonN a) < rankN (canonN b)
  · rw [if_pos h1]
    go_enter Try.func82, Try.ntmps82
    go_wp2_with fail
    refine (rank_any a ha _).mono ?_
    rintro e w' ⟨rfl, rfl⟩
    go_wp2_with fail
    refine (rank_any b hb _).mono ?_
    rintro e w' ⟨rfl, rfl⟩
    go_wp2_with fail
    go_ret
    exact ⟨rfl, rfl⟩
  · rw [if_neg h1]
    by_cases h2 : rankN (canonN b) < rankN (canonN a)
    · rw [if_pos h2]
      go_enter Try.func82, Try.ntmps82
      go_wp2_with fail
      refine (rank_any a ha _).mono ?_
      rintro e w' ⟨rfl, rfl⟩
      go_wp2_with fail
      refine (rank_any b hb _).mono ?_
      rintro e w' ⟨rfl, rfl⟩
      go_wp2_with fail
      go_ret
      exact ⟨rfl, rfl⟩
    · rw [if_neg h2]
      go_enter Try.func82, Try.ntmps82
      go_wp2_with fail
      refine (rank_any a ha _).mono ?_
      rintro e w' ⟨rfl, rfl⟩
      go_wp2_with fail
      refine (rank_any b hb _).mono ?_
      rintro e w' ⟨rfl, rfl⟩
      go_wp2_with fail
      go_ret
      exact ⟨rfl, rfl⟩
end Go.Proofs.Ytomhheihhnmbcaa
