/- ValueCompares holds. No conditions. -/
import Derived.Test.YtlejjchaooeabaaCmpno
import Derived.Test.YtlejjchaooeabaaCmpnx
import Derived.Test.YtlejjchaooeabaaCmpny
import Derived.Test.YtlejjchaooeabaaCmpnn
namespace Go.Proofs.Ytlejjchaooeabaa.valueCompares
open Go.ChangeShapes Go.WideShapes Go.ChangeAt Go.RowKit
open Go.ChangeMaps (open_string shut_string)
set_option linter.unusedSimpArgs false
set_option linter.unusedVariables false

theorem walk (x : V) (hx : x.fits) (y : V) (hy : y.fits) (w : World) :
    Calls Try.prog 11 #[x.v, y.v] w fun e w' => e = .returned (.bool true) ∧ Below w.heap.size w w' := by
  by_cases h : (clean x).k = (clean y).k ∧ ((clean x).k = 1 ∨ (clean x).k = 4)
  · obtain ⟨l, e, m, nx, ny, c⟩ := cmps hx hy h.1 h.2
    have fs : ∀ b : Bool, (V.mk 2 b.toNat).fits := fun b => by cases b <;> simp [V.fits]
    have ys : ∀ b : Bool, yesV b = V.mk 2 b.toNat := fun b => rfl
    have le1 : ∀ b : Bool, (b.toNat : Int) ≤ 1 := fun b => by cases b <;> decide
    have fD := apply_fits 17 [x] (by intro z hz; simp at hz; subst hz; exact hx)
    have fD2 := apply_fits 17 [y] (by intro z hz; simp at hz; subst hz; exact hy)
    have e15 := not_yes e
    have e14 := or_yes l e
    have e16 := or_yes m e
    obtain ⟨c9, c7, c11, c8, c10, c12, s1, s0, nnx, nny⟩ := c
    simp only [ys] at c9 c7 c11 c8 c10 c12 e15 e14 e16
    have t1 : ((l.toNat : Int) + (e.toNat : Int) + (m.toNat : Int) == 1) = !(nx || ny) := by
      rw [← s1, Bool.eq_iff_iff]; simp only [beq_iff_eq]; omega
    have t0 : ((l.toNat : Int) + (e.toNat : Int) + (m.toNat : Int) == 0) = (nx || ny) := by
      rw [← s0, Bool.eq_iff_iff]; simp only [beq_iff_eq]; omega
    have no : ∀ D : V, D ≠ yesV true → ¬ (D.k = 2 ∧ D.b = 1) := fun D hD ⟨h1, h2⟩ => hD (by obtain ⟨k, b⟩ := D; simp only at h1 h2; subst h1; subst h2; rfl)
    cases nx
    · have n1 := no _ (fun hh => by have := nnx.1 hh; cases this)
      cases ny
      · exact walk_nn x y _ _ _ _ _ _ _ _ hx hy c9 c7 c11 (fs _) (fs _) (fs _) (fs _) (fs _) (fs _) fD fD2 (le1 _) (le1 _) (le1 _) rfl rfl c8 e15 c10 e14 c12 e16 t1 t0 n1 (no _ (fun hh => by have := nny.1 hh; cases this)) w
      · exact walk_ny x y _ _ _ _ _ _ _ _ hx hy c9 c7 c11 (fs _) (fs _) (fs _) (fs _) (fs _) (fs _) fD fD2 (le1 _) (le1 _) (le1 _) rfl rfl c8 e15 c10 e14 c12 e16 t1 t0 n1 (nny.2 rfl) w
    · exact walk_nx x y _ _ _ _ _ _ _ _ hx hy c9 c7 c11 (fs _) (fs _) (fs _) (fs _) (fs _) (fs _) fD fD2 (le1 _) (le1 _) (le1 _) rfl rfl c8 e15 c10 e14 c12 e16 t1 t0 (nnx.2 rfl) w
  · exact walk_no x y _ hx hy (no_cmps h 9 (.inl rfl)) rfl (no_cmps h 11 (.inr rfl)) (apply_fits 7 [x, y] (by intro z hz; simp at hz; rcases hz with rfl | rfl <;> assumption)) w

theorem own : ownKnob Try.prog.godebug = none := by kernel_rfl
theorem laidOut : laidOutB Try.prog = true := by kernel_rfl
theorem rec0 : (Try.f11.params.toList.all fun t => Try.prog.readableRec t && decide (t < Try.prog.types.size)) = true := by kernel_rfl
set_option maxRecDepth 100000 in
theorem lifted (os : Os) (started : os.Started) (H : Type) (enc : TypeId × Value → H) :
    ReturnsInHanded {} Try.checked os 11 .any (Rows.valueComparesSpec.pre6 enc Try.prog Try.f11 Rows.valueComparesRow.domain false) (Rows.valueComparesSpec.post enc Try.prog Try.f11 false true false false) := by
  refine law_step (C := Try.checked) (tb := 4) own started (by kernel_rfl) Try.func11
    (ChangeSpec.witness6 (enc := enc) (C := Try.checked) false ⟨#[], #[.agg #[.int .i64 0, .int .u64 0], .agg #[.int .i64 0, .int .u64 0]], []⟩ 8 (by kernel_rfl) (by kernel_rfl) (by kernel_rfl) (by kernel_rfl)) laidOut ?_ rfl Try.underlying4 rfl ?_ ?_
  · intro t ht
    have := List.all_eq_true.1 rec0 t ht
    simp only [Bool.and_eq_true, decide_eq_true_eq] at this
    exact this
  · intro ds hd
    match ds, hd with
    | [d0, d1], _ => exact ⟨rfl, rfl, rfl⟩
  intro W base args ds p hval hA hsz
  rw [Try.params11] at hA hval hsz
  obtain ⟨v0, vs0, d0, ds0, p0, q0, hargs, rfl, rfl, h0, r0⟩ := trodAll_cons hA
  obtain ⟨v1, vs1, d1, ds1, p1, q1, rfl, rfl, rfl, h1, r1⟩ := trodAll_cons r0
  obtain ⟨rfl, rfl, rfl⟩ := trodAll_nil r1
  obtain rfl : args = #[v0, v1] := by cases args; simp_all
  obtain ⟨x0, rfl, hx0⟩ := open_v (hval 0 24 v0 rfl rfl) h0 (weights_each (i := 0) hsz rfl rfl)
  obtain ⟨x1, rfl, hx1⟩ := open_v (hval 1 24 v1 rfl rfl) h1 (weights_each (i := 1) hsz rfl rfl)
  exact walk x0 hx0 x1 hx1 W 

theorem valueCompares_holds : Rows.ValueComparesSaid :=
  OpenClaim.holds_of_wide 11 Try.f11 rfl rfl rfl rfl rfl rfl rfl ⟨rfl, rfl, rfl, rfl, rfl⟩ rfl rfl rfl rfl rfl (by kernel_rfl) Try.func11 (by kernel_rfl)
    (of_decide_eq_true (by kernel_rfl)) (by unfold Func.isWrapper; first | (rw [if_pos (by decide +kernel)]; kernel_rfl) | (rw [if_neg (by decide +kernel)]; exact ⟨rfl, rfl⟩))
    (fun os started H enc _ => lifted os started H enc)
#print axioms valueCompares_holds
end Go.Proofs.Ytlejjchaooeabaa.valueCompares
