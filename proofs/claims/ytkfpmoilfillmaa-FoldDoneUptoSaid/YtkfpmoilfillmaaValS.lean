/- Contracts of the document's layer 1, and of its Truth. No conditions. -/
import Derived.Test.YtkfpmoilfillmaaValFl
namespace Go.Proofs.Ytkfpmoilfillmaa
open Go.RowKit
set_option linter.unusedSimpArgs false
set_option linter.unusedVariables false

theorem rtruth_any (b : Bool) (w : World) : Calls Try.prog 20 #[.bool b] w fun e w' => e = .returned (yesV b).v ∧ Below w.heap.size w w' := by
  cases b
  · go_enter Try.func20, Try.ntmps20
    go_wp2
    exact bodyPost_ret (v := .agg #[.int .i64 2, .int .u64 0]) (by simp [results, Try.results20, go_sem]) rfl ⟨rfl, by repeat (first | exact Below.refl _ _ | refine Below.alloc ?_ (by simp) _)⟩
  · go_enter Try.func20, Try.ntmps20
    go_wp2
    exact bodyPost_ret (v := .agg #[.int .i64 2, .int .u64 1]) (by simp [results, Try.results20, go_sem]) rfl ⟨rfl, by repeat (first | exact Below.refl _ _ | refine Below.alloc ?_ (by simp) _)⟩

theorem canon_neg {a : Nat} (ha : a < 18446744073709551616) (h : nanN a = false) : canonN (negN (canonN a)) = negN a := by
  rw [canon_not a h]
  apply canon_not
  have := of_decide_eq_false h
  unfold nanN negN
  split <;> (apply decide_eq_false; omega)
theorem canon_neg_nan {a : Nat} (h : nanN a = true) : canonN (negN (canonN a)) = 9221120237041090560 := by
  rw [canon_nan a h]; decide
set_option maxRecDepth 100000 in
theorem rneg_any (a : Nat) (ha : a < 18446744073709551616) (w : World) : Calls Try.prog 42 #[.int .u64 a] w fun e w' => e = .returned (.int .u64 (canonN (negN (canonN a)) : Nat)) ∧ w = w' := by
  cases hn : nanN a
  · have hi := isnan_any a ha w
    rw [hn] at hi
    rw [canon_neg ha hn]
    unfold negN
    by_cases h1 : 9223372036854775808 ≤ a
    · rw [if_neg (by omega)]
      have g : decide ((9223372036854775808 : Int) ≤ (a : Int)) = true := decide_eq_true (by omega)
      have e1 : ((a - 9223372036854775808 : Nat) : Int) = (a : Int) - 9223372036854775808 := by omega
      have e2 : IntKind.u64.wrap ((a : Int) - 9223372036854775808) = (a : Int) - 9223372036854775808 := by rw [IntKind.wrap_u64]; omega
      rw [e1]
      clear h1 e1 hn
      go_enter Try.func42, Try.ntmps42
      go_wp2_with fail
      refine hi.mono ?_
      rintro e w' ⟨rfl, rfl⟩
      clear hi ha
      go_wp2_with fail
      go_ret
      exact ⟨ret_int (by first | rfl | simp [e2]), rfl⟩
    · rw [if_pos (by omega)]
      have g : decide ((9223372036854775808 : Int) ≤ (a : Int)) = false := decide_eq_false (by omega)
      have e1 : ((a + 9223372036854775808 : Nat) : Int) = (a : Int) + 9223372036854775808 := by omega
      have e2 : IntKind.u64.wrap ((a : Int) + 9223372036854775808) = (a : Int) + 9223372036854775808 := by rw [IntKind.wrap_u64]; omega
      rw [e1]
      clear h1 e1 hn
      go_enter Try.func42, Try.ntmps42
      go_wp2_with fail
      refine hi.mono ?_
      rintro e w' ⟨rfl, rfl⟩
      clear hi ha
      go_wp2_with fail
      go_ret
      exact ⟨ret_int (by first | rfl | simp [e2]), rfl⟩
  · have hi := isnan_any a ha w
    rw [hn] at hi
    rw [canon_neg_nan hn]
    go_enter Try.func42, Try.ntmps42
    go_wp2_with fail
    refine hi.mono ?_
    rintro e w' ⟨rfl, rfl⟩
    go_wp2_with fail
    go_ret
    exact ⟨rfl, rfl⟩
def zeroB (a : Nat) : Bool := ((a : Int) == 0) || ((a : Int) == 9223372036854775808)
theorem rnought_any (a : Nat) (w : World) : Calls Try.prog 56 #[.int .u64 a] w fun e w' => e = .returned (.bool (zeroB a)) ∧ w = w' := by
  cases h0 : ((a : Int) == 0)
  · have hz : zeroB a = ((a : Int) == 9223372036854775808) := by unfold zeroB; rw [h0]; rfl
    rw [hz]
    clear hz
    go_enter Try.func56, Try.ntmps56
    go_wp2_with fail
    go_ret
    exact ⟨rfl, rfl⟩
  · have hz : zeroB a = true := by unfold zeroB; rw [h0]; rfl
    rw [hz]
    clear hz
    go_enter Try.func56, Try.ntmps56
    go_wp2_with fail
    go_ret
    exact ⟨rfl, rfl⟩
theorem key_zero {a b : Nat} (ha : a < 18446744073709551616) (hb : b < 18446744073709551616) : decide (keyN a = keyN b) = (((a : Int) == (b : Int)) || (zeroB a && zeroB b)) := by
  rw [Bool.eq_iff_iff]
  unfold keyN zeroB
  simp only [Bool.or_eq_true, Bool.and_eq_true, beq_iff_eq, decide_eq_true_eq]
  split <;> split <;> omega
set_option maxHeartbeats 1000000 in
theorem requal_any (a b : Nat) (ha : a < 18446744073709551616) (hb : b < 18446744073709551616) (w : World) :
    Calls Try.prog 41 #[.int .u64 a, .int .u64 b] w fun e w' => e = .returned (.bool (eqF a b)) ∧ w = w' := by
  have hA := Lib.hid fun w => isnan_any a ha w
  have hB := Lib.hid fun w => isnan_any b hb w
  rw [eq_key ha hb, key_zero ha hb]
  clear ha hb
  generalize nanN a = na at *
  generalize nanN b = nb at *
  cases na
  · cases nb
    · cases he : ((a : Int) == (b : Int))
      · cases hz : zeroB a
        · have h1 := rnought_any a w
          rw [hz] at h1
          clear hz
          go_enter Try.func41, Try.ntmps41
          go_wp2_with fail
          refine (hA.out _).mono ?_
          rintro e w' ⟨rfl, rfl⟩
          go_wp2_with fail
          refine (hB.out _).mono ?_
          rintro e w' ⟨rfl, rfl⟩
          go_wp2_with fail
          refine h1.mono ?_
          rintro e w' ⟨rfl, rfl⟩
          go_wp2_with fail
          go_ret
          exact ⟨rfl, rfl⟩
        · have h1 := rnought_any a w
          have h2 := rnought_any b w
          rw [hz] at h1
          clear hz
          generalize zeroB b = zb at *
          go_enter Try.func41, Try.ntmps41
          go_wp2_with fail
          refine (hA.out _).mono ?_
          rintro e w' ⟨rfl, rfl⟩
          go_wp2_with fail
          refine (hB.out _).mono ?_
          rintro e w' ⟨rfl, rfl⟩
          go_wp2_with fail
          refine h1.mono ?_
          rintro e w' ⟨rfl, rfl⟩
          go_wp2_with fail
          refine h2.mono ?_
          rintro e w' ⟨rfl, rfl⟩
          go_wp2_with fail
          go_ret
          exact ⟨by simp, rfl⟩
      · go_enter Try.func41, Try.ntmps41
        go_wp2_with fail
        refine (hA.out _).mono ?_
        rintro e w' ⟨rfl, rfl⟩
        go_wp2_with fail
        refine (hB.out _).mono ?_
        rintro e w' ⟨rfl, rfl⟩
        go_wp2_with fail
        go_ret
        exact ⟨rfl, rfl⟩
    · go_enter Try.func41, Try.ntmps41
      go_wp2_with fail
      refine (hA.out _).mono ?_
      rintro e w' ⟨rfl, rfl⟩
      go_wp2_with fail
      refine (hB.out _).mono ?_
      rintro e w' ⟨rfl, rfl⟩
      go_wp2_with fail
      go_ret
      exact ⟨rfl, rfl⟩
  · go_enter Try.func41, Try.ntmps41
    go_wp2_with fail
    refine (hA.out _).mono ?_
    rintro e w' ⟨rfl, rfl⟩
    go_wp2_with fail
    go_ret
    exact ⟨rfl, rfl⟩
theorem key_ord {a b : Nat} (ha : a < 18446744073709551616) (hb : b < 18446744073709551616) (na : nanN a = false) (nb : nanN b = false) :
    decide (keyN a < keyN b) = (!decide (keyN a = keyN b) && decide (ordN a b < 0)) := by
  rw [Bool.eq_iff_iff]
  unfold ordN cmpI rankN keyN
  rw [canon_not a na, canon_not b nb]
  simp only [Bool.and_eq_true, Bool.not_eq_true', decide_eq_true_eq, decide_eq_false_iff_not]
  by_cases h1 : 9223372036854775808 ≤ a <;> by_cases h2 : 9223372036854775808 ≤ b <;> simp only [h1, h2, if_true, if_false]
  all_goals (constructor)
  all_goals intro h
  all_goals first
    | (refine ⟨by omega, ?_⟩; rw [if_pos (by omega)]; decide)
    | (obtain ⟨h3, h4⟩ := h; revert h4; split; · intro _; omega
       · split <;> (intro h5; first | omega | (exfalso; revert h5; decide)))
set_option maxHeartbeats 1000000 in
theorem rless_any (a b : Nat) (ha : a < 18446744073709551616) (hb : b < 18446744073709551616) (w : World) :
    Calls Try.prog 40 #[.int .u64 a, .int .u64 b] w fun e w' => e = .returned (.bool (ltF a b)) ∧ w = w' := by
  have hA := Lib.hid fun w => isnan_any a ha w
  have hB := Lib.hid fun w => isnan_any b hb w
  have hE := Lib.hid fun w => requal_any a b ha hb w
  have hO := Lib.hid fun w => rordN_any a b ha hb w
  rw [eq_key ha hb] at hE
  rw [lt_key ha hb]
  have hk := @key_ord a b ha hb
  clear ha hb
  generalize nanN a = na at *
  generalize nanN b = nb at *
  generalize ordN a b = o at *
  generalize keyN a = ka at *
  generalize keyN b = kb at *
  cases na
  · cases nb
    · rw [hk rfl rfl]
      clear hk
      generalize decide (ka = kb) = e at *
      cases e
      · have hE := Lib.hid fun w => hE.out w
        simp only [Bool.not_false, Bool.true_and] at hE ⊢
        go_enter Try.func40, Try.ntmps40
        go_wp2_with fail
        refine (hA.out _).mono ?_
        rintro e w' ⟨rfl, rfl⟩
        go_wp2_with fail
        refine (hB.out _).mono ?_
        rintro e w' ⟨rfl, rfl⟩
        go_wp2_with fail
        refine (hE.out _).mono ?_
        rintro e w' ⟨rfl, rfl⟩
        go_wp2_with fail
        refine (hO.out _).mono ?_
        rintro e w' ⟨rfl, rfl⟩
        go_wp2_with fail
        go_ret
        exact ⟨rfl, rfl⟩
      · simp only [Bool.not_false, Bool.true_and] at hE ⊢
        go_enter Try.func40, Try.ntmps40
        go_wp2_with fail
        refine (hA.out _).mono ?_
        rintro e w' ⟨rfl, rfl⟩
        go_wp2_with fail
        refine (hB.out _).mono ?_
        rintro e w' ⟨rfl, rfl⟩
        go_wp2_with fail
        refine (hE.out _).mono ?_
        rintro e w' ⟨rfl, rfl⟩
        go_wp2_with fail
        go_ret
        exact ⟨rfl, rfl⟩
    · go_enter Try.func40, Try.ntmps40
      go_wp2_with fail
      refine (hA.out _).mono ?_
      rintro e w' ⟨rfl, rfl⟩
      go_wp2_with fail
      refine (hB.out _).mono ?_
      rintro e w' ⟨rfl, rfl⟩
      go_wp2_with fail
      go_ret
      exact ⟨rfl, rfl⟩
  · go_enter Try.func40, Try.ntmps40
    go_wp2_with fail
    refine (hA.out _).mono ?_
    rintro e w' ⟨rfl, rfl⟩
    go_wp2_with fail
    go_ret
    exact ⟨rfl, rfl⟩

theorem rfloat_of (a : Nat) (h : a < 18446744073709551616) (w : World) :
    Calls Try.prog 57 #[.int .u64 a] w fun e w' => e = .returned (.float .f64 (canonN a)) ∧ w = w' := by
  have hb := ofBits (canonN a)
  go_enter Try.func57, Try.ntmps57
  go_wp2_with (go_at_call 33; refine (rcanon_any a h _).mono ?_; rintro e w' ⟨rfl, rfl⟩)
  go_ret
  exact ⟨rfl, rfl⟩
set_option maxHeartbeats 1000000 in
theorem rdo_add (a b : Nat) (ha : a < 18446744073709551616) (hb : b < 18446744073709551616) (w : World) :
    Calls Try.prog 44 #[.int .i64 1, .int .u64 a, .int .u64 b] w fun e w' => e = .returned (.int .u64 (flN .add (canonN a) (canonN b) : Nat)) ∧ Below w.heap.size w w' := by
  obtain ⟨r, wr, e1, hb1, hc, hr⟩ := binop_any .add (by simp) 83 (canonN a) (canonN b) w
  rw [← hc]
  clear hc
  have hbt := bitsOf r
  go_enter Try.func44, Try.ntmps44
  go_wp2_with fail
  refine (rfloat_of a ha _).mono ?_
  rintro e w' ⟨rfl, rfl⟩
  go_wp2_with fail
  refine (rfloat_of b hb _).mono ?_
  rintro e w' ⟨rfl, rfl⟩
  go_wp2_with fail
  refine (rcanon_any r hr _).mono ?_
  rintro e w' ⟨rfl, rfl⟩
  go_wp2_with fail
  go_ret
  exact ⟨rfl, hb1⟩
set_option maxHeartbeats 1000000 in
theorem rdo_sub (a b : Nat) (ha : a < 18446744073709551616) (hb : b < 18446744073709551616) (w : World) :
    Calls Try.prog 44 #[.int .i64 2, .int .u64 a, .int .u64 b] w fun e w' => e = .returned (.int .u64 (flN .sub (canonN a) (canonN b) : Nat)) ∧ Below w.heap.size w w' := by
  obtain ⟨r, wr, e1, hb1, hc, hr⟩ := binop_any .add (by simp) 83 (canonN a) (canonN b) w
  obtain ⟨r2, wr2, e2, hb2, hc2, hr2⟩ := binop_any .sub (by simp) 83 (canonN a) (canonN b) wr
  rw [← hc2]
  clear hc hc2
  have hbt := bitsOf r2
  go_enter Try.func44, Try.ntmps44
  go_wp2_with fail
  refine (rfloat_of a ha _).mono ?_
  rintro e w' ⟨rfl, rfl⟩
  go_wp2_with fail
  refine (rfloat_of b hb _).mono ?_
  rintro e w' ⟨rfl, rfl⟩
  go_wp2_with fail
  refine (rcanon_any r2 hr2 _).mono ?_
  rintro e w' ⟨rfl, rfl⟩
  go_wp2_with fail
  go_ret
  exact ⟨rfl, hb1.trans (hb2.mono hb1.size)⟩
set_option maxHeartbeats 1000000 in
theorem rdo_mul (a b : Nat) (ha : a < 18446744073709551616) (hb : b < 18446744073709551616) (w : World) :
    Calls Try.prog 44 #[.int .i64 3, .int .u64 a, .int .u64 b] w fun e w' => e = .returned (.int .u64 (flN .mul (canonN a) (canonN b) : Nat)) ∧ Below w.heap.size w w' := by
  obtain ⟨r, wr, e1, hb1, hc, hr⟩ := binop_any .add (by simp) 83 (canonN a) (canonN b) w
  obtain ⟨r2, wr2, e2, hb2, hc2, hr2⟩ := binop_any .mul (by simp) 83 (canonN a) (canonN b) wr
  rw [← hc2]
  clear hc hc2
  have hbt := bitsOf r2
  go_enter Try.func44, Try.ntmps44
  go_wp2_with fail
  refine (rfloat_of a ha _).mono ?_
  rintro e w' ⟨rfl, rfl⟩
  go_wp2_with fail
  refine (rfloat_of b hb _).mono ?_
  rintro e w' ⟨rfl, rfl⟩
  go_wp2_with fail
  refine (rcanon_any r2 hr2 _).mono ?_
  rintro e w' ⟨rfl, rfl⟩
  go_wp2_with fail
  go_ret
  exact ⟨rfl, hb1.trans (hb2.mono hb1.size)⟩
set_option maxHeartbeats 1000000 in
theorem rdo_quo (a b : Nat) (ha : a < 18446744073709551616) (hb : b < 18446744073709551616) (w : World) :
    Calls Try.prog 44 #[.int .i64 4, .int .u64 a, .int .u64 b] w fun e w' => e = .returned (.int .u64 (flN .quo (canonN a) (canonN b) : Nat)) ∧ Below w.heap.size w w' := by
  obtain ⟨r, wr, e1, hb1, hc, hr⟩ := binop_any .add (by simp) 83 (canonN a) (canonN b) w
  obtain ⟨r2, wr2, e2, hb2, hc2, hr2⟩ := binop_any .quo (by simp) 83 (canonN a) (canonN b) wr
  rw [← hc2]
  clear hc hc2
  have hbt := bitsOf r2
  go_enter Try.func44, Try.ntmps44
  go_wp2_with fail
  refine (rfloat_of a ha _).mono ?_
  rintro e w' ⟨rfl, rfl⟩
  go_wp2_with fail
  refine (rfloat_of b hb _).mono ?_
  rintro e w' ⟨rfl, rfl⟩
  go_wp2_with fail
  refine (rcanon_any r2 hr2 _).mono ?_
  rintro e w' ⟨rfl, rfl⟩
  go_wp2_with fail
  go_ret
  exact ⟨rfl, hb1.trans (hb2.mono hb1.size)⟩
end Go.Proofs.Ytkfpmoilfillmaa
