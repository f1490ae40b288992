/- Contracts of the document's OfInt, Product, whole, float. No conditions. -/
import Derived.Test.YtkfpmoilfillmaaValU
namespace Go.Proofs.Ytkfpmoilfillmaa
open Go.RowKit
set_option linter.unusedSimpArgs false
set_option linter.unusedVariables false

theorem and_one (a : Nat) (h : a < 18446744073709551616) : bits .and .u64 (a : Int) 1 = ((a % 2 : Nat) : Int) := by
  have := u64_and_nat a 1 h (by omega)
  rw [show ((1 : Nat) : Int) = 1 from rfl] at this
  rw [this, show 1 = 2 ^ 1 - 1 from by decide, Nat.and_two_pow_sub_one_eq_mod]
set_option maxRecDepth 100000 in
set_option maxHeartbeats 2000000 in
theorem rofInt_neg (n : Int) (m l : Nat) (hz : (n == 0) = false) (hs : n < 0) (hu : IntKind.u64.wrap (-(IntKind.u64.wrap n)) = (m : Int)) (hl : l ≤ 63)
    (hlo : Hid (∀ j, j < 63 - l → m * 2 ^ j < 9223372036854775808)) (hhi : Hid (9223372036854775808 ≤ m * 2 ^ (63 - l) ∧ m * 2 ^ (63 - l) < 18446744073709551616))
    (w : World) : Calls Try.prog 45 #[.int .i64 n] w fun e w' => e = .returned (.int .u64 (9223372036854775808 + ((1022 + l) * 4503599627370496 + roundN (m * 2 ^ (63 - l)) : Nat))) ∧ w = w' := by
  go_enter Try.func45, Try.ntmps45
  go_wp2_with fail
  clear hu hz hs
  go_loop [3, 5] (fun a e => ∃ j : Nat, j ≤ 63 - l ∧ a = .int .u64 (m * 2 ^ j : Nat) ∧ e = .int .i64 (63 - j)) (fun _ e => (intOf e).toNat)
  case atStart => exact ⟨0, Nat.zero_le _, by simp, rfl⟩
  case round =>
    obtain ⟨j, hj, rfl, rfl⟩ := hrel
    by_cases hlt : j < 63 - l
    · have hb := hlo.out j hlt
      have hs : m * 2 ^ (j + 1) = m * 2 ^ j * 2 := by rw [Nat.pow_succ, Nat.mul_assoc]
      have HS := Lib.hid hs
      clear hs
      generalize m * 2 ^ j = M at *
      have g1 : ((M : Int) / 9223372036854775808 == 0) = true := by rw [beq_iff_eq]; omega
      have HB := Lib.hid hb
      clear hb
      go_wp2_with fail
      have hb := HB.out
      go_round
      case rel =>
        refine ⟨j + 1, by omega, ?_, val_int (by omega)⟩
        rw [HS.out]
        exact val_int (by first | (push_cast; omega) | (rw [IntKind.wrap_u64]; push_cast; omega))
      case measure => simp [intOf]; omega
    · have hj' : j = 63 - l := by omega
      subst hj'
      have hb := hhi.out
      generalize hM : m * 2 ^ (63 - l) = M at *
      have HM := Lib.hid hM
      clear hM
      have g1 : ((M : Int) / 9223372036854775808 == 0) = false := by rw [beq_eq_false_iff_ne]; omega
      have g2 := and_2047 M hb.2
      have g3 := and_one (M / 2048) (by omega)
      rw [show ((M / 2048 : Nat) : Int) = (M : Int) / 2048 from by omega] at g3
      clear hb
      go_wp2_with fail
      all_goals go_ret
      all_goals (refine ⟨ret_int ?_, rfl⟩)
      all_goals have hb := hhi.out
      all_goals rw [HM.out]
      all_goals (try simp only [beq_iff_eq, beq_eq_false_iff_ne, ne_eq] at *)
      all_goals unfold roundN
      all_goals (try rw [if_pos (by omega)])
      all_goals (try rw [if_neg (by omega)])
      all_goals (simp only [IntKind.wrap_u64]; push_cast; omega)
set_option maxRecDepth 100000 in
set_option maxHeartbeats 2000000 in
theorem rofInt_pos (n : Int) (m l : Nat) (hz : (n == 0) = false) (hs : 0 < n) (hu : IntKind.u64.wrap n = (m : Int)) (hl : l ≤ 63)
    (hlo : Hid (∀ j, j < 63 - l → m * 2 ^ j < 9223372036854775808)) (hhi : Hid (9223372036854775808 ≤ m * 2 ^ (63 - l) ∧ m * 2 ^ (63 - l) < 18446744073709551616))
    (w : World) : Calls Try.prog 45 #[.int .i64 n] w fun e w' => e = .returned (.int .u64 (0 + ((1022 + l) * 4503599627370496 + roundN (m * 2 ^ (63 - l)) : Nat))) ∧ w = w' := by
  go_enter Try.func45, Try.ntmps45
  go_wp2_with fail
  clear hu hz hs
  go_loop [3, 5] (fun a e => ∃ j : Nat, j ≤ 63 - l ∧ a = .int .u64 (m * 2 ^ j : Nat) ∧ e = .int .i64 (63 - j)) (fun _ e => (intOf e).toNat)
  case atStart => exact ⟨0, Nat.zero_le _, by simp, rfl⟩
  case round =>
    obtain ⟨j, hj, rfl, rfl⟩ := hrel
    by_cases hlt : j < 63 - l
    · have hb := hlo.out j hlt
      have hs : m * 2 ^ (j + 1) = m * 2 ^ j * 2 := by rw [Nat.pow_succ, Nat.mul_assoc]
      have HS := Lib.hid hs
      clear hs
      generalize m * 2 ^ j = M at *
      have g1 : ((M : Int) / 9223372036854775808 == 0) = true := by rw [beq_iff_eq]; omega
      have HB := Lib.hid hb
      clear hb
      go_wp2_with fail
      have hb := HB.out
      go_round
      case rel =>
        refine ⟨j + 1, by omega, ?_, val_int (by omega)⟩
        rw [HS.out]
        exact val_int (by first | (push_cast; omega) | (rw [IntKind.wrap_u64]; push_cast; omega))
      case measure => simp [intOf]; omega
    · have hj' : j = 63 - l := by omega
      subst hj'
      have hb := hhi.out
      generalize hM : m * 2 ^ (63 - l) = M at *
      have HM := Lib.hid hM
      clear hM
      have g1 : ((M : Int) / 9223372036854775808 == 0) = false := by rw [beq_eq_false_iff_ne]; omega
      have g2 := and_2047 M hb.2
      have g3 := and_one (M / 2048) (by omega)
      rw [show ((M / 2048 : Nat) : Int) = (M : Int) / 2048 from by omega] at g3
      clear hb
      go_wp2_with fail
      all_goals go_ret
      all_goals (refine ⟨ret_int ?_, rfl⟩)
      all_goals have hb := hhi.out
      all_goals rw [HM.out]
      all_goals (try simp only [beq_iff_eq, beq_eq_false_iff_ne, ne_eq] at *)
      all_goals unfold roundN
      all_goals (try rw [if_pos (by omega)])
      all_goals (try rw [if_neg (by omega)])
      all_goals (simp only [IntKind.wrap_u64]; push_cast; omega)
theorem rofInt_any (n : Int) (hn : I64 n) (w : World) : Calls Try.prog 45 #[.int .i64 n] w fun e w' => e = .returned (.int .u64 (ofInt n : Nat)) ∧ w = w' := by
  by_cases h0 : n = 0
  · subst h0
    rw [ofInt_zero]
    go_enter Try.func45, Try.ntmps45
    go_wp2_with fail
    go_ret
    exact ⟨rfl, rfl⟩
  have hm : n.natAbs ≠ 0 := by omega
  have hn' := hn
  unfold I64 at hn'
  have hm2 : n.natAbs ≤ 9223372036854775808 := by omega
  obtain ⟨l1, l2, l3⟩ := log_bd hm hm2
  have hs := shifted hm hm2
  have lo : ∀ j, j < 63 - n.natAbs.log2 → n.natAbs * 2 ^ j < 9223372036854775808 := by
    intro j hj
    have h1 : n.natAbs * 2 ^ (j + 1) ≤ n.natAbs * 2 ^ (63 - n.natAbs.log2) := Nat.mul_le_mul_left _ (Nat.pow_le_pow_right (by decide) (by omega))
    rw [Nat.pow_succ, ← Nat.mul_assoc] at h1
    omega
  have e := ofInt_eq hn h0
  rw [e]
  unfold signN
  by_cases hneg : n < 0
  · rw [if_pos hneg]
    exact rofInt_neg n n.natAbs n.natAbs.log2 (beq_eq_false_iff_ne.2 h0) hneg (by rw [IntKind.wrap_u64, IntKind.wrap_u64]; omega) l1 (Lib.hid lo) (Lib.hid hs) w
  · rw [if_neg hneg]
    exact rofInt_pos n n.natAbs n.natAbs.log2 (beq_eq_false_iff_ne.2 h0) (by omega) (by rw [IntKind.wrap_u64]; omega) l1 (Lib.hid lo) (Lib.hid hs) w
end Go.Proofs.Ytkfpmoilfillmaa
