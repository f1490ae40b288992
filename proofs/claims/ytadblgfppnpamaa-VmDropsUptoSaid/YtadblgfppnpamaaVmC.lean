/- Layer 18: which method does an instruction. No conditions. -/
import Derived.Test.YtadblgfppnpamaaVmP
import Derived.Test.YtadblgfppnpamaaVmB
namespace Go.Proofs.Ytadblgfppnpamaa
open Go.RowKit
set_option linter.unusedVariables false
set_option linter.unusedSimpArgs false

theorem does_in (w : World) : Calls Try.prog 21 #[.int .i64 50] w fun e w' => e = .returned (.func (.func 34) #[] #[]) ∧ w = w' := by
  go_enter Try.func21, Try.ntmps21
  go_wp2
  go_ret
  exact ⟨rfl, rfl⟩
theorem does_ko (w : World) : Calls Try.prog 21 #[.int .i64 51] w fun e w' => e = .returned (.func (.func 35) #[] #[]) ∧ w = w' := by
  go_enter Try.func21, Try.ntmps21
  go_wp2
  go_ret
  exact ⟨rfl, rfl⟩
theorem does_st (w : World) : Calls Try.prog 21 #[.int .i64 53] w fun e w' => e = .returned (.func (.func 36) #[] #[]) ∧ w = w' := by
  go_enter Try.func21, Try.ntmps21
  go_wp2
  go_ret
  exact ⟨rfl, rfl⟩
theorem does_lo (w : World) : Calls Try.prog 21 #[.int .i64 54] w fun e w' => e = .returned (.func (.func 37) #[] #[]) ∧ w = w' := by
  go_enter Try.func21, Try.ntmps21
  go_wp2
  go_ret
  exact ⟨rfl, rfl⟩
theorem does_one (op : Int) (h : oneB op) (w : World) : Calls Try.prog 21 #[.int .i64 op] w fun e w' => e = .returned (.func (.func 38) #[] #[]) ∧ w = w' := by
  unfold oneB at h
  have g50 : (op == 50) = false := by rw [beq_eq_false_iff_ne]; omega
  have g51 : (op == 51) = false := by rw [beq_eq_false_iff_ne]; omega
  have g53 : (op == 53) = false := by rw [beq_eq_false_iff_ne]; omega
  have g54 : (op == 54) = false := by rw [beq_eq_false_iff_ne]; omega
  by_cases h6 : op = 6
  · subst h6
    clear h g50 g51 g53 g54
    go_enter Try.func21, Try.ntmps21
    go_wp2
    go_ret
    exact ⟨rfl, rfl⟩
  · have g6 : (op == 6) = false := by rw [beq_eq_false_iff_ne]; exact h6
    have h1 : 15 ≤ op := by omega
    have h2 : op ≤ 17 := by omega
    clear h h6
    go_enter Try.func21, Try.ntmps21
    go_wp2
    go_ret
    exact ⟨rfl, rfl⟩
theorem does_two (op : Int) (h1 : 1 ≤ op) (h2 : op ≤ 14) (h6 : op ≠ 6) (w : World) : Calls Try.prog 21 #[.int .i64 op] w fun e w' => e = .returned (.func (.func 39) #[] #[]) ∧ w = w' := by
  have g50 : (op == 50) = false := by rw [beq_eq_false_iff_ne]; omega
  have g51 : (op == 51) = false := by rw [beq_eq_false_iff_ne]; omega
  have g53 : (op == 53) = false := by rw [beq_eq_false_iff_ne]; omega
  have g54 : (op == 54) = false := by rw [beq_eq_false_iff_ne]; omega
  have g6 : (op == 6) = false := by rw [beq_eq_false_iff_ne]; exact h6
  have g15 : op < 15 := by omega
  clear h6
  go_enter Try.func21, Try.ntmps21
  go_wp2
  go_ret
  exact ⟨rfl, rfl⟩
theorem does_none (op : Int) (g50 : op ≠ 50) (g51 : op ≠ 51) (g53 : op ≠ 53) (g54 : op ≠ 54) (h1 : ¬ oneB op) (h2 : ¬ (1 ≤ op ∧ op ≤ 14)) (w : World) : Calls Try.prog 21 #[.int .i64 op] w fun e w' => e = .returned .nilFunc ∧ w = w' := by
  have g50 : (op == 50) = false := by rw [beq_eq_false_iff_ne]; omega
  have g51 : (op == 51) = false := by rw [beq_eq_false_iff_ne]; omega
  have g53 : (op == 53) = false := by rw [beq_eq_false_iff_ne]; omega
  have g54 : (op == 54) = false := by rw [beq_eq_false_iff_ne]; omega
  unfold oneB at h1
  have g6 : (op == 6) = false := by rw [beq_eq_false_iff_ne]; omega
  by_cases hlt : op < 1
  · have h15 : op < 15 := by omega
    clear h1 h2
    go_enter Try.func21, Try.ntmps21
    go_wp2
    go_ret
    exact ⟨rfl, rfl⟩
  · have h17 : 17 < op := by omega
    have h14 : 14 < op := by omega
    clear h1 h2
    go_enter Try.func21, Try.ntmps21
    go_wp2
    go_ret
    exact ⟨rfl, rfl⟩
end Go.Proofs.Ytadblgfppnpamaa
