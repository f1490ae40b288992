/- Plain laws of Apply on numbers; a contract of the law's do over a block. No conditions. -/
import Derived.Test.YtkfpmoilfillmaaValM
import Derived.Test.YtkfpmoilfillmaaReg
namespace Go.Proofs.Ytkfpmoilfillmaa
open Go.RowKit
set_option linter.unusedVariables false

theorem un_back {n : Int} (h : I64 n) : wrap64 (un n) = n := by
  unfold I64 at h
  have h1 : ((un n : Nat) : Int) = n % 18446744073709551616 := by unfold un; omega
  rw [h1]; unfold wrap64; omega
theorem rest_ints (op : Int) (a b : Int) (h : twoK op 1 ≠ 0) : restV op [intV a, intV b] = intsV op (intV a) (intV b) := by
  unfold restV
  have e : resK op ([intV a, intV b].map fun x => (clean x).k) = twoK op 1 := by
    show (if (clean (intV a)).k = (clean (intV b)).k then twoK op (clean (intV a)).k else 0) = twoK op 1
    rw [clean_intV, clean_intV]
    exact if_pos rfl
  rw [e, if_neg h]
  show (if (clean (intV a)).k = 4 then _ else intsV op (clean (intV a)) (clean (intV b))) = _
  rw [clean_intV, clean_intV]
  exact if_neg (by show ¬ ((1 : Int) = 4); omega)
theorem int_two (op : Int) {a b : Int} (ha : I64 a) (hb : I64 b) (h : 1 ≤ op ∧ op ≤ 5) : applyV op [intV a, intV b] = ((numV op a b).map intV).getD none0 := by
  have h2 : twoK op 1 ≠ 0 := by unfold twoK; rw [if_pos (by omega)]; omega
  rw [apply_rest (by omega), rest_ints op a b h2]
  unfold intsV
  rw [if_neg (by omega), if_neg (by omega), if_neg (by omega), if_neg (by omega)]
  rw [show (intV a).b = un a from rfl, show (intV b).b = un b from rfl, un_back ha, un_back hb]
theorem int_cmp (op : Int) {a b : Int} (ha : I64 a) (hb : I64 b) (h : 7 ≤ op ∧ op ≤ 12) : applyV op [intV a, intV b] = yesV (holdsB op (decide (a < b)) (a == b) (decide (b < a))) := by
  have h2 : twoK op 1 ≠ 0 := by unfold twoK; rw [if_neg (by omega), if_pos (by omega)]; omega
  rw [apply_rest (by omega), rest_ints op a b h2]
  unfold intsV
  rw [if_neg (by omega), if_neg (by omega), if_pos (by omega)]
  rw [show (intV a).b = un a from rfl, show (intV b).b = un b from rfl, un_back ha, un_back hb]
  rfl
theorem two_zero (op : Int) : twoK op 0 = 0 := by unfold twoK; repeat' split <;> omega
theorem strict_left (op : Int) (h : ¬ (op = 13 ∨ op = 14)) (x : V) : applyV op [none0, x] = none0 := by
  have hr : resK op ([none0, x].map fun x => (clean x).k) = 0 := by
    show (if (clean none0).k = (clean x).k then twoK op (clean none0).k else 0) = 0
    rw [clean_none0, show none0.k = 0 from rfl, two_zero]; split <;> rfl
  rw [show applyV op [none0, x] = (restV op [none0, x]).getD none0 from if_neg h, rest_none hr]; rfl
theorem fit_I64 {n : Int} (h : (fitI n).isSome = true) : I64 n ∧ fitI n = some n := by
  cases hf : fitI n with
  | none => rw [hf] at h; cases h
  | some m => obtain ⟨rfl, h1, h2⟩ := fit_some hf; exact ⟨⟨h1, h2⟩, rfl⟩
theorem I64_fit {n : Int} (h : I64 n) : fitI n = some n := fit_in h.1 h.2
theorem I64_wf {n : Int} (h : (Lit.int .i64 n).wf = true) : I64 n := by
  simp [Lit.wf] at h
  have h1 : IntKind.i64.min = -9223372036854775808 := by rfl
  have h2 : IntKind.i64.max = 9223372036854775807 := by rfl
  unfold I64
  omega
@[go_sem] theorem field_api0 (k b : Int) (w : World) : (Instr.field 25 (.agg #[.int .i64 k, .int .u64 b]) 0).run Try.prog w = .ok (.int .i64 k) w := by kernel_rfl
@[go_sem] theorem field_api1 (k b : Int) (w : World) : (Instr.field 25 (.agg #[.int .i64 k, .int .u64 b]) 1).run Try.prog w = .ok (.int .u64 b) w := by kernel_rfl
@[go_sem] theorem field_ref0 (k b : Int) (w : World) : (Instr.field 33 (.agg #[.int .i64 k, .int .u64 b]) 0).run Try.prog w = .ok (.int .i64 k) w := by kernel_rfl
@[go_sem] theorem field_ref1 (k b : Int) (w : World) : (Instr.field 33 (.agg #[.int .i64 k, .int .u64 b]) 1).run Try.prog w = .ok (.int .u64 b) w := by kernel_rfl
theorem wp_abs {P : Program} {c : Code} {Q : Exit → Act → World → Prop} {a : Act} {W : World} (F : World → Prop) (hF : F W) (h : ∀ W, F W → c.wp P Q a W) : c.wp P Q a W := h W hF
end Go.Proofs.Ytkfpmoilfillmaa
