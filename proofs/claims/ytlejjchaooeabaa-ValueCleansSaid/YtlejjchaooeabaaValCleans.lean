/- ValueCleans holds. No conditions. -/
import Derived.Test.YtlejjchaooeabaaValRd
import Derived.Deep.RegionHeld3
namespace Go.Proofs.Ytlejjchaooeabaa.valueCleans
open Go.ChangeShapes Go.WideShapes Go.ChangeAt Go.RowKit
open Go.ChangeMaps (open_string shut_string)
set_option linter.unusedSimpArgs false
set_option linter.unusedVariables false

theorem walk (x : V) (hx : x.fits) (w : World) :
    Calls Try.prog 3 #[x.v] w fun e w' => e = .returned (.bool true) ∧ Below w.heap.size w w' := by
  unfold V.v
  go_enter Try.func3, Try.ntmps3
  go_wp2_with fail
  have hbW := (Below.refl w.heap.size w).alloc (Nat.le_refl _) (.cells #[.int .i64 x.k, .int .u64 x.b] 24)
  have hk := Bk.new w 24 #[.int .i64 x.k, .int .u64 x.b]
  generalize w.alloc (.cells #[.int .i64 x.k, .int .u64 x.b] 24) = W at *
  have HK := Lib.hid (show ∀ w', Below W.heap.size W w' → Below W.heap.size W w' ∧ w'.cell? ⟨w.heap.size, 0, none⟩ = some (.int .i64 x.k) ∧ w'.cell? ⟨w.heap.size, 1, none⟩ = some (.int .u64 x.b) from fun w' hb => ⟨hb, (hk.old hb).cell 0, (hk.old hb).cell 1⟩)
  clear hk
  go_region_held3 (fun w' => Below W.heap.size W w' ∧ w'.cell? ⟨w.heap.size, 0, none⟩ = some (.int .i64 x.k) ∧ w'.cell? ⟨w.heap.size, 1, none⟩ = some (.int .u64 x.b))
    (first | exact HK.out _ (by assumption) | exact HK.out _ (Below.refl _ _) | exact HK.out _ (Below.drew (Below.refl _ _)))
    (first
      | (go_at_call 13; refine (awake_any _).mono ?_; rintro e w3 ⟨rfl, hb3⟩; have hb4 : Below W.heap.size W w3 := (by apply bel_step (hb := hb3); assumption); clear hb3)
      | (go_at_call 16; refine (to_any x _).mono ?_; rintro e w3 ⟨rfl, hb3⟩; have hb4 : Below W.heap.size W w3 := (by apply bel_step (hb := hb3); assumption); clear hb3; simp only [V.v])
      | (go_at_call 15; refine (pclean_any x hx _).mono ?_; rintro e w3 ⟨rfl, hb3⟩; have hb4 : Below W.heap.size W w3 := (by apply bel_step (hb := hb3); assumption); clear hb3; simp only [V.v])
      | (go_at_call 14; refine (of_any (clean x) _).mono ?_; rintro e w3 ⟨rfl, hb3⟩; have hb4 : Below W.heap.size W w3 := (by apply bel_step (hb := hb3); assumption); clear hb3; simp only [V.v])
      | (go_at_call 17; refine (rclean_any x hx _).mono ?_; rintro e w3 ⟨rfl, hb3⟩; have hb4 : Below W.heap.size W w3 := (by apply bel_step (hb := hb3); assumption); clear hb3; simp only [V.v]))
  go_wp2
  go_ret
  exact ⟨rfl, hbW.trans (Below.mono (by assumption) hbW.size)⟩

theorem own : ownKnob Try.prog.godebug = none := by kernel_rfl
theorem laidOut : laidOutB Try.prog = true := by kernel_rfl
theorem rec0 : (Try.f3.params.toList.all fun t => Try.prog.readableRec t && decide (t < Try.prog.types.size)) = true := by kernel_rfl
set_option maxRecDepth 100000 in
theorem lifted (os : Os) (started : os.Started) (H : Type) (enc : TypeId × Value → H) :
    ReturnsInHanded {} Try.checked os 3 .any (Rows.valueCleansSpec.pre6 enc Try.prog Try.f3 Rows.valueCleansRow.domain false) (Rows.valueCleansSpec.post enc Try.prog Try.f3 false true false false) := by
  refine law_step (C := Try.checked) (tb := 4) own started (by kernel_rfl) Try.func3
    (ChangeSpec.witness6 (enc := enc) (C := Try.checked) false ⟨#[], #[.agg #[.int .i64 0, .int .u64 0]], []⟩ 8 (by kernel_rfl) (by kernel_rfl) (by kernel_rfl) (by kernel_rfl)) laidOut ?_ rfl Try.underlying4 rfl ?_ ?_
  · intro t ht
    have := List.all_eq_true.1 rec0 t ht
    simp only [Bool.and_eq_true, decide_eq_true_eq] at this
    exact this
  · intro ds hd
    match ds, hd with
    | [d0], _ => exact ⟨rfl, rfl, rfl⟩
  intro W base args ds p hval hA hsz
  rw [Try.params3] at hA hval hsz
  obtain ⟨v0, vs0, d0, ds0, p0, q0, hargs, rfl, rfl, h0, r0⟩ := trodAll_cons hA
  obtain ⟨rfl, rfl, rfl⟩ := trodAll_nil r0
  obtain rfl : args = #[v0] := by cases args; simp_all
  obtain ⟨x0, rfl, hx0⟩ := open_v (hval 0 24 v0 rfl rfl) h0 (weights_each (i := 0) hsz rfl rfl)
  exact walk x0 hx0 W 

theorem valueCleans_holds : Rows.ValueCleansSaid :=
  OpenClaim.holds_of_wide 3 Try.f3 rfl rfl rfl rfl rfl rfl rfl ⟨rfl, rfl, rfl, rfl, rfl⟩ rfl rfl rfl rfl rfl (by kernel_rfl) Try.func3 (by kernel_rfl)
    (of_decide_eq_true (by kernel_rfl)) (by unfold Func.isWrapper; first | (rw [if_pos (by decide +kernel)]; kernel_rfl) | (rw [if_neg (by decide +kernel)]; exact ⟨rfl, rfl⟩))
    (fun os started H enc _ => lifted os started H enc)
#print axioms valueCleans_holds
end Go.Proofs.Ytlejjchaooeabaa.valueCleans
