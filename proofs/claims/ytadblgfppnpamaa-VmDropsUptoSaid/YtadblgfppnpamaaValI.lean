/- The program's Apply at every list; the law's all, num, do, awake. No conditions. -/
import Derived.Test.YtadblgfppnpamaaValH
namespace Go.Proofs.Ytadblgfppnpamaa
open Go.RowKit
set_option linter.unusedSimpArgs false
set_option linter.unusedVariables false

theorem apply_any (op : Int) (l : List V) (A : Option Addr) (c : Nat) (w : World) (hr : Rd w w.heap.size A (l.flatMap V.cells)) (hf : ∀ x ∈ l, x.fits) (hl : l.length * 16 ≤ 140737488351232) :
    Calls Try.prog 48 #[.int .i64 op, .slice A l.length c] w fun e w' => e = .returned (applyV op l).v ∧ Below w.heap.size w w' := by
  by_cases h2 : l.length = 2
  · match l, h2, hr, hf with
    | [x, y], _, hr, hf =>
      by_cases hop : op = 13 ∨ op = 14
      · have := apply_logic op x y (hf x (by simp)) (hf y (by simp)) A c w hr hop
        rw [show applyV op [x, y] = (logicV op x y).getD none0 from if_pos hop]
        exact this
      · have := apply_two op [x, y] A c w hr hf (by simp) rfl (by rw [beq_eq_false_iff_ne]; omega) (by rw [beq_eq_false_iff_ne]; omega)
        rw [show applyV op [x, y] = (restV op [x, y]).getD none0 from if_neg hop]
        exact this
  · have := apply_one op l A c w hr hf hl h2
    rw [show applyV op l = (restV op l).getD none0 from by
      match l, h2 with
      | [], _ => rfl
      | [_], _ => rfl
      | [_, _], h2 => exact absurd rfl h2
      | _ :: _ :: _ :: _, _ => rfl]
    exact this

theorem intV_fits (n : Int) : (intV n).fits := un_lt n
end Go.Proofs.Ytadblgfppnpamaa
