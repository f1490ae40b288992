/- Contracts of the program's functions of layer 1 that layer 2 calls. No conditions. -/
import Derived.Test.YtadblgfppnpamaaValA
import Derived.Laws.FloatArith
namespace Go.Proofs.Ytadblgfppnpamaa
open Go.RowKit

theorem bitsOf (b : Nat) (w : World) : (callFunc 66 #[.float .f64 b]).run Try.prog w = .ok (.value (.int .u64 b)) w := by kernel_rfl
theorem ofBits (b : Nat) (w : World) : (callFunc 83 #[.int .u64 b]).run Try.prog w = .ok (.value (.float .f64 b)) w := by kernel_rfl

theorem of_real (a : Nat) (h : a < 18446744073709551616) (w : World) :
    Calls Try.prog 86 #[.int .u64 a] w fun e w' => e = .returned (.float .f64 (canonN a)) ∧ w = w' := by
  have hb := ofBits (canonN a)
  go_enter Try.func86, Try.ntmps86
  go_wp2_with (go_at_call 45; refine (canon_any a h _).mono ?_; rintro e w' ⟨rfl, rfl⟩)
  go_ret
  exact ⟨rfl, rfl⟩
theorem to_real (a : Nat) (h : a < 18446744073709551616) (w : World) :
    Calls Try.prog 85 #[.float .f64 a] w fun e w' => e = .returned (.int .u64 (canonN a : Nat)) ∧ w = w' := by
  have hb := bitsOf a
  go_enter Try.func85, Try.ntmps85
  go_wp2_with (go_at_call 45; refine (canon_any a h _).mono ?_; rintro e w' ⟨rfl, rfl⟩)
  go_ret
  exact ⟨rfl, rfl⟩

/-- What an operation on two floats gives, in canonical bits. -/
def flN (op : BinOp) (x y : Nat) : Nat := match floatBits op .f64 x y with | some r => canonN r | none => 9221120237041090560
theorem flN_lt (op : BinOp) (x y : Nat) : flN op x y < 18446744073709551616 := by
  unfold flN
  cases h : floatBits op .f64 x y with
  | none => exact (by decide : (9221120237041090560 : Nat) < 18446744073709551616)
  | some r => have := floatBits_wf h; simp [Lit.wf] at this; exact canonN_lt _ this
theorem nan_tape (t : Nat) : nanN ((t % 2) * 2 ^ 63 + 0x7ff0000000000000 + 1 + (t / 2) % (2 ^ 52 - 1)) = true ∧ (t % 2) * 2 ^ 63 + 0x7ff0000000000000 + 1 + (t / 2) % (2 ^ 52 - 1) < 18446744073709551616 := by
  have hc : t / 2 % (2 ^ 52 - 1) < 2 ^ 52 - 1 := Nat.mod_lt _ (by decide)
  have hd : t % 2 < 2 := Nat.mod_lt _ (by decide)
  generalize t / 2 % (2 ^ 52 - 1) = c at *
  generalize t % 2 = d at *
  unfold nanN
  have : d = 0 ∨ d = 1 := by omega
  rcases this with rfl | rfl
  · constructor
    · exact decide_eq_true (by omega)
    · omega
  · constructor
    · exact decide_eq_true (by omega)
    · omega
theorem binop_any (op : BinOp) (ho : op = .add ∨ op = .sub ∨ op = .mul ∨ op = .quo) (t : TypeId) (x y : Nat) (w : World) :
    ∃ r w', (binOp op t (.float .f64 x) (.float .f64 y)).run Try.prog w = .ok (.float .f64 r) w' ∧ Below w.heap.size w w' ∧ canonN r = flN op x y ∧ r < 18446744073709551616 := by
  cases h : floatBits op .f64 x y with
  | some r =>
    refine ⟨r, w, run_float_arith w op t .f64 x y r h, Below.refl _ _, ?_, ?_⟩
    · unfold flN; rw [h]
    · have := floatBits_wf h; simpa [Lit.wf] using this
  | none =>
    have ht := nan_tape (w.tape w.drawn (.nanBits .f64 x y))
    refine ⟨_, w.drew, ?_, Below.drew (Below.refl _ _), ?_, ht.2⟩
    · unfold floatBits at h
      rcases ho with rfl | rfl | rfl | rfl <;> simp only at h <;> simp [binOp, Op.floatArith, h, Question.forced, Question.cut]
    · unfold flN; rw [h]; exact canon_nan _ ht.1

theorem add_real (a b : Nat) (ha : a < 18446744073709551616) (hb : b < 18446744073709551616) (w : World) :
    Calls Try.prog 71 #[.int .u64 a, .int .u64 b] w fun e w' => e = .returned (.int .u64 (flN .add (canonN a) (canonN b) : Nat)) ∧ Below w.heap.size w w' := by
  obtain ⟨r, wr, e1, hb1, hc, hr⟩ := binop_any .add (by simp) 95 (canonN a) (canonN b) w
  rw [← hc]
  clear hc
  go_enter Try.func71, Try.ntmps71
  go_wp2_with (go_at_call 86; refine (of_real a ha _).mono ?_; rintro e w' ⟨rfl, rfl⟩)
  go_wp2_with (go_at_call 86; refine (of_real b hb _).mono ?_; rintro e w' ⟨rfl, rfl⟩)
  try clear e1
  go_at_call 85; refine (to_real r hr _).mono ?_; rintro e w' ⟨rfl, rfl⟩
  go_wp2
  go_ret
  exact ⟨rfl, hb1⟩
theorem sub_real (a b : Nat) (ha : a < 18446744073709551616) (hb : b < 18446744073709551616) (w : World) :
    Calls Try.prog 72 #[.int .u64 a, .int .u64 b] w fun e w' => e = .returned (.int .u64 (flN .sub (canonN a) (canonN b) : Nat)) ∧ Below w.heap.size w w' := by
  obtain ⟨r, wr, e1, hb1, hc, hr⟩ := binop_any .sub (by simp) 95 (canonN a) (canonN b) w
  rw [← hc]
  clear hc
  go_enter Try.func72, Try.ntmps72
  go_wp2_with (go_at_call 86; refine (of_real a ha _).mono ?_; rintro e w' ⟨rfl, rfl⟩)
  go_wp2_with (go_at_call 86; refine (of_real b hb _).mono ?_; rintro e w' ⟨rfl, rfl⟩)
  try clear e1
  go_at_call 85; refine (to_real r hr _).mono ?_; rintro e w' ⟨rfl, rfl⟩
  go_wp2
  go_ret
  exact ⟨rfl, hb1⟩
theorem mul_real (a b : Nat) (ha : a < 18446744073709551616) (hb : b < 18446744073709551616) (w : World) :
    Calls Try.prog 73 #[.int .u64 a, .int .u64 b] w fun e w' => e = .returned (.int .u64 (flN .mul (canonN a) (canonN b) : Nat)) ∧ Below w.heap.size w w' := by
  obtain ⟨r, wr, e1, hb1, hc, hr⟩ := binop_any .mul (by simp) 95 (canonN a) (canonN b) w
  rw [← hc]
  clear hc
  go_enter Try.func73, Try.ntmps73
  go_wp2_with (go_at_call 86; refine (of_real a ha _).mono ?_; rintro e w' ⟨rfl, rfl⟩)
  go_wp2_with (go_at_call 86; refine (of_real b hb _).mono ?_; rintro e w' ⟨rfl, rfl⟩)
  try clear e1
  go_at_call 85; refine (to_real r hr _).mono ?_; rintro e w' ⟨rfl, rfl⟩
  go_wp2
  go_ret
  exact ⟨rfl, hb1⟩
theorem div_real (a b : Nat) (ha : a < 18446744073709551616) (hb : b < 18446744073709551616) (w : World) :
    Calls Try.prog 74 #[.int .u64 a, .int .u64 b] w fun e w' => e = .returned (.int .u64 (flN .quo (canonN a) (canonN b) : Nat)) ∧ Below w.heap.size w w' := by
  obtain ⟨r, wr, e1, hb1, hc, hr⟩ := binop_any .quo (by simp) 95 (canonN a) (canonN b) w
  rw [← hc]
  clear hc
  go_enter Try.func74, Try.ntmps74
  go_wp2_with (go_at_call 86; refine (of_real a ha _).mono ?_; rintro e w' ⟨rfl, rfl⟩)
  go_wp2_with (go_at_call 86; refine (of_real b hb _).mono ?_; rintro e w' ⟨rfl, rfl⟩)
  try clear e1
  go_at_call 85; refine (to_real r hr _).mono ?_; rintro e w' ⟨rfl, rfl⟩
  go_wp2
  go_ret
  exact ⟨rfl, hb1⟩

/-- The other sign. -/
def negN (a : Nat) : Nat := if a < 9223372036854775808 then a + 9223372036854775808 else a - 9223372036854775808
theorem negN_lt (a : Nat) (h : a < 18446744073709551616) : negN a < 18446744073709551616 := by unfold negN; split <;> omega
theorem xor63 (c : Nat) (h : c < 2 ^ 63) : c ^^^ 2 ^ 63 = 2 ^ 63 + c := by
  have e := Nat.two_pow_add_eq_or_of_lt h 1
  rw [Nat.mul_one] at e
  rw [e]
  apply Nat.eq_of_testBit_eq
  intro i
  rw [Nat.testBit_xor, Nat.testBit_or, Nat.testBit_two_pow]
  by_cases hi : i = 63
  · subst hi
    rw [Nat.testBit_lt_two_pow h]
    rfl
  · have : decide (63 = i) = false := decide_eq_false (fun h => hi h.symm)
    rw [this]
    simp
theorem xor_sign (a : Nat) (h : a < 18446744073709551616) : bits .xor .u64 (a : Int) 9223372036854775808 = ((negN a : Nat) : Int) := by
  have := u64_xor_nat a 9223372036854775808 h (by omega)
  rw [show ((9223372036854775808 : Nat) : Int) = 9223372036854775808 from rfl] at this
  rw [this]
  congr 1
  unfold negN
  split
  · rename_i hc
    rw [show (9223372036854775808 : Nat) = 2 ^ 63 from rfl, xor63 a hc]
    omega
  · rename_i hc
    have e := xor63 (a - 2 ^ 63) (by omega)
    rw [show 2 ^ 63 + (a - 2 ^ 63) = a from by omega] at e
    rw [← e, show (9223372036854775808 : Nat) = 2 ^ 63 from rfl, Nat.xor_assoc, Nat.xor_self, Nat.xor_zero, e]
theorem neg_real (a : Nat) (ha : a < 18446744073709551616) (w : World) :
    Calls Try.prog 75 #[.int .u64 a] w fun e w' => e = .returned (.int .u64 (canonN (negN (canonN a)) : Nat)) ∧ w = w' := by
  have hx := xor_sign _ (canonN_lt a ha)
  have hn := negN_lt _ (canonN_lt a ha)
  go_enter Try.func75, Try.ntmps75
  go_wp2_with (go_at_call 45; refine (canon_any a ha _).mono ?_; rintro e w' ⟨rfl, rfl⟩)
  go_at_call 45; refine (canon_any _ hn _).mono ?_; rintro e w' ⟨rfl, rfl⟩
  go_wp2
  go_ret
  exact ⟨rfl, rfl⟩
theorem equal_real (a b : Nat) (ha : a < 18446744073709551616) (hb : b < 18446744073709551616) (w : World) :
    Calls Try.prog 77 #[.int .u64 a, .int .u64 b] w fun e w' => e = .returned (.bool (FloatKind.f64.format.order (canonN a) (canonN b) == some .eq)) ∧ w = w' := by
  go_enter Try.func77, Try.ntmps77
  go_wp2_with (go_at_call 86; refine (of_real a ha _).mono ?_; rintro e w' ⟨rfl, rfl⟩)
  go_wp2_with (go_at_call 86; refine (of_real b hb _).mono ?_; rintro e w' ⟨rfl, rfl⟩)
  go_ret
  exact ⟨rfl, rfl⟩
theorem less_real (a b : Nat) (ha : a < 18446744073709551616) (hb : b < 18446744073709551616) (w : World) :
    Calls Try.prog 79 #[.int .u64 a, .int .u64 b] w fun e w' => e = .returned (.bool (FloatKind.f64.format.order (canonN a) (canonN b) == some .lt)) ∧ w = w' := by
  go_enter Try.func79, Try.ntmps79
  go_wp2_with (go_at_call 86; refine (of_real a ha _).mono ?_; rintro e w' ⟨rfl, rfl⟩)
  go_wp2_with (go_at_call 86; refine (of_real b hb _).mono ?_; rintro e w' ⟨rfl, rfl⟩)
  go_ret
  exact ⟨rfl, rfl⟩
def ofInt (n : Int) : Nat := canonN (floatOfInt .f64 n)
theorem ofInt_real (n : Int) (w : World) :
    Calls Try.prog 80 #[.int .i64 n] w fun e w' => e = .returned (.int .u64 (ofInt n : Nat)) ∧ w = w' := by
  have hf : floatOfInt .f64 n < 18446744073709551616 := by have := floatOfInt_wf .f64 n; simpa [Lit.wf] using this
  go_enter Try.func80, Try.ntmps80
  go_wp2_with (go_at_call 85; refine (to_real _ hf _).mono ?_; rintro e w' ⟨rfl, rfl⟩)
  go_ret
  exact ⟨rfl, rfl⟩
end Go.Proofs.Ytadblgfppnpamaa
