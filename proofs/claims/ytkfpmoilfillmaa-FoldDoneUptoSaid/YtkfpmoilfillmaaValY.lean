/- The document's compare. No conditions. -/
import Derived.Test.YtkfpmoilfillmaaValYrn
import Derived.Test.YtkfpmoilfillmaaValYrp
import Derived.Test.YtkfpmoilfillmaaValYin
import Derived.Test.YtkfpmoilfillmaaValYip
import Derived.Deep.DeepCutAuto
namespace Go.Proofs.Ytkfpmoilfillmaa
open Go.RowKit
set_option linter.unusedSimpArgs false
set_option linter.unusedVariables false

theorem eqV_iff {x y : V} : eqV x y = true ↔ x.k = y.k ∧ x.b = y.b := by unfold eqV; simp
/-- compare, of two that count as themselves, of one kind. -/
theorem rcompare_any (op : Int) (x y : V) (hx : x.fits) (hy : y.fits) (cx : clean x = x) (cy : clean y = y) (hk : x.k = y.k) (hop : 7 ≤ op ∧ op ≤ 12) (w : World) :
    Calls Try.prog 30 #[.int .i64 op, x.v, y.v] w fun e w' => e = .returned (yesV (if x.k = 4 then holdsB op (ltF x.b y.b) (eqF x.b y.b) (ltF y.b x.b)
      else holdsB op (decide (wrap64 x.b < wrap64 y.b)) (wrap64 x.b == wrap64 y.b) (decide (wrap64 y.b < wrap64 x.b)))).v ∧ Below w.heap.size w w' := by
  have HO : Hid (∀ w : World, Calls Try.prog 39 #[.agg #[.int .i64 x.k, .int .u64 x.b], .agg #[.int .i64 y.k, .int .u64 y.b]] w fun e w' => e = .returned (.int .i64 (orderV x y)) ∧ Below w.heap.size w w') := Lib.hid fun w => rorderV_any x y hx hy w
  have h7 : op = 7 ∨ op = 8 ∨ op = 9 ∨ op = 10 ∨ op = 11 ∨ op = 12 := by omega
  by_cases h4 : x.k = 4
  · rw [if_pos h4]
    have g4 : (x.k == 4) = true := by rw [beq_iff_eq]; exact h4
    have HL := Lib.hid fun w => rless_any x.b y.b hx hy w
    have HE := Lib.hid fun w => requal_any x.b y.b hx hy w
    have HM := Lib.hid fun w => rless_any y.b x.b hy hx w
    generalize ltF x.b y.b = l at *
    generalize eqF x.b y.b = e at *
    generalize ltF y.b x.b = m at *
    generalize orderV x y = od at *
    rcases Int.lt_or_le od 0 with ho | ho
    · rcases h7 with rfl | rfl | rfl | rfl | rfl | rfl
      · exact rcmp_rn_7 x y od HO ho l e m g4 HL HE HM w
      · exact rcmp_rn_8 x y od HO ho l e m g4 HL HE HM w
      · exact rcmp_rn_9 x y od HO ho l e m g4 HL HE HM w
      · exact rcmp_rn_10 x y od HO ho l e m g4 HL HE HM w
      · exact rcmp_rn_11 x y od HO ho l e m g4 HL HE HM w
      · exact rcmp_rn_12 x y od HO ho l e m g4 HL HE HM w
    · rcases h7 with rfl | rfl | rfl | rfl | rfl | rfl
      · exact rcmp_rp_7 x y od HO ho l e m g4 HL HE HM w
      · exact rcmp_rp_8 x y od HO ho l e m g4 HL HE HM w
      · exact rcmp_rp_9 x y od HO ho l e m g4 HL HE HM w
      · exact rcmp_rp_10 x y od HO ho l e m g4 HL HE HM w
      · exact rcmp_rp_11 x y od HO ho l e m g4 HL HE HM w
      · exact rcmp_rp_12 x y od HO ho l e m g4 HL HE HM w
  · rw [if_neg h4]
    have g4 : (x.k == 4) = false := by rw [beq_eq_false_iff_ne]; exact h4
    have eo : orderV x y = cmpI (wrap64 x.b) (wrap64 y.b) := by
      unfold orderV
      rw [cx, cy, if_neg (by omega), if_neg h4]
    have hx' := hx
    have hy' := hy
    unfold V.fits at hx' hy'
    have ee : eqV x y = (wrap64 x.b == wrap64 y.b) := by
      rw [Bool.eq_iff_iff, eqV_iff, beq_iff_eq]
      unfold wrap64
      constructor
      · rintro ⟨_, h⟩; rw [h]
      · intro h; exact ⟨hk, by omega⟩
    by_cases hl : wrap64 x.b < wrap64 y.b
    · have ho : orderV x y < 0 := by rw [eo]; unfold cmpI; rw [if_pos hl]; omega
      have e1 : decide (wrap64 x.b < wrap64 y.b) = true := decide_eq_true hl
      have e3 : decide (wrap64 y.b < wrap64 x.b) = false := decide_eq_false (by omega)
      rw [e1, e3]
      generalize (wrap64 x.b == wrap64 y.b) = e at *
      rcases h7 with rfl | rfl | rfl | rfl | rfl | rfl
      · exact rcmp_in_7 x y _ HO ho e ee g4 w
      · exact rcmp_in_8 x y _ HO ho e ee g4 w
      · exact rcmp_in_9 x y _ HO ho e ee g4 w
      · exact rcmp_in_10 x y _ HO ho e ee g4 w
      · exact rcmp_in_11 x y _ HO ho e ee g4 w
      · exact rcmp_in_12 x y _ HO ho e ee g4 w
    · have ho : 0 ≤ orderV x y := by rw [eo]; unfold cmpI; rw [if_neg hl]; split <;> omega
      have e1 : decide (wrap64 x.b < wrap64 y.b) = false := decide_eq_false hl
      have e3 : decide (wrap64 y.b < wrap64 x.b) = !(wrap64 x.b == wrap64 y.b) := by
        rw [Bool.eq_iff_iff]; simp only [decide_eq_true_eq, Bool.not_eq_true', beq_eq_false_iff_ne]; omega
      rw [e1, e3]
      generalize (wrap64 x.b == wrap64 y.b) = e at *
      rcases h7 with rfl | rfl | rfl | rfl | rfl | rfl
      · exact rcmp_ip_7 x y _ HO ho e ee g4 w
      · exact rcmp_ip_8 x y _ HO ho e ee g4 w
      · exact rcmp_ip_9 x y _ HO ho e ee g4 w
      · exact rcmp_ip_10 x y _ HO ho e ee g4 w
      · exact rcmp_ip_11 x y _ HO ho e ee g4 w
      · exact rcmp_ip_12 x y _ HO ho e ee g4 w
end Go.Proofs.Ytkfpmoilfillmaa
