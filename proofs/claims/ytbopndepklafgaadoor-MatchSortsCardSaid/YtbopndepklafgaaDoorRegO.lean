/- Regions whose guards are letters. Plain. -/
import Derived.Test.YtbopndepklafgaaDoorReg
namespace Go.Proofs.YtbopndepklafgaaDoor
open Go.RowKit
theorem nat_bne (a b : Nat) : ((a : Int) != (b : Int)) = (a != b) := by
  by_cases h : a = b
  · subst h; simp
  · have h2 : (a : Int) ≠ b := by omega
    rw [bne_iff_ne.2 h, bne_iff_ne.2 h2]
theorem nat_beq (a b : Nat) : ((a : Int) == (b : Int)) = (a == b) := by
  by_cases h : a = b
  · subst h; simp
  · have h2 : (a : Int) ≠ b := by omega
    rw [beq_eq_false_iff_ne.2 h, beq_eq_false_iff_ne.2 h2]
theorem flip_of {c b : Bool} (h : ¬ c = b) : c = !b := by
  revert h
  cases c <;> cases b <;> decide
section
variable {P : Program} {Q : Exit → Act → World → Prop} {ops : Array Oper} {n : Nat} {Fr : Nat → Bool} {a0 : Act} {W : World} {R : Nat → Spec} {k : Nat} {o : Oper}
/-- An operation with a guard that is a letter: it runs where p holds (the guard's own guard) and the guard tells b. -/
theorem BOk.opt {rest : List Oper} (ho : ops[k]? = some o) (l ds : List Nat) (hfr : Fr k = false) (g : Nat) (b p c : Bool) (hg : o.guard = some (g, b)) (hR : R g = .is (bif p then .bool c else undef)) (hd : ((ops[g]?).bind (·.dst)).isSome = true) (hw : (decide (g < n) && waits ops k g) = true)
    (hl : (l.all fun j => decide (j < n) && waits ops k j) = true) (hds : ds.all (outer ops) = true)
    (h : p = true → c = b → ∀ (K : Act → World → Prop) (a : Act) (w : World), Below W.heap.size W w → Outers ops a0 a ds → Facts ops (fun k v w => (R k).holds v w) a w l → (∀ v w', Below w.heap.size w w' → (R k).holds v w' → K (a.put o.dst v) w') → o.wp P a w K Q)
    (hu : (p && (c == b)) = false → ∀ w, (R k).holds undef w)
    (hr : BOk P Q ops n Fr a0 W R (k + 1) rest) : BOk P Q ops n Fr a0 W R k (o :: rest) := by
  cases p with
  | false => exact BOk.gone ho hfr g b hg hR hd hw (hu rfl) hr
  | true =>
    by_cases hc : c = b
    · subst hc
      exact BOk.yes ho l ds hfr g c hg hR hd hw hl hds (h rfl rfl) hr
    · have e : c = !b := flip_of hc
      subst e
      exact BOk.no ho hfr g b hg hR hd hw (hu (by cases b <;> rfl)) hr
/-- The same; what the operation makes where it runs is X. -/
theorem BOk.optX {rest : List Oper} {X : Value} (ho : ops[k]? = some o) (l ds : List Nat) (hfr : Fr k = false) (g : Nat) (b : Bool) {p c : Bool} (hg : o.guard = some (g, b)) (hR : R g = .is (bif p then .bool c else undef)) (hRk : R k = .is (bif (p && (c == b)) then X else undef)) (hd : ((ops[g]?).bind (·.dst)).isSome = true) (hw : (decide (g < n) && waits ops k g) = true)
    (hl : (l.all fun j => decide (j < n) && waits ops k j) = true) (hds : ds.all (outer ops) = true)
    (h : p = true → c = b → (p && (c == b)) = true → ∀ (K : Act → World → Prop) (a : Act) (w : World), Below W.heap.size W w → Outers ops a0 a ds → Facts ops (fun k v w => (R k).holds v w) a w l → (∀ v w', Below w.heap.size w w' → v = X → K (a.put o.dst v) w') → o.wp P a w K Q)
    (hr : BOk P Q ops n Fr a0 W R (k + 1) rest) : BOk P Q ops n Fr a0 W R k (o :: rest) := by
  refine BOk.opt ho l ds hfr g b p c hg hR hd hw hl hds (fun hp hc K a w hB qO qF hK => ?_) (fun hu w => ?_) hr
  · have hP : (p && (c == b)) = true := by rw [hp, hc]; cases b <;> rfl
    refine h hp hc hP K a w hB qO qF fun v w' hb hv => hK v w' hb ?_
    rw [hRk, hP]
    exact hv
  · rw [hRk, hu]
    rfl
/-- The same, the guard has none itself. -/
theorem BOk.optT {rest : List Oper} {X : Value} (ho : ops[k]? = some o) (l ds : List Nat) (hfr : Fr k = false) (g : Nat) (b : Bool) {c : Bool} (hg : o.guard = some (g, b)) (hR : R g = .is (.bool c)) (hRk : R k = .is (bif (true && (c == b)) then X else undef)) (hd : ((ops[g]?).bind (·.dst)).isSome = true) (hw : (decide (g < n) && waits ops k g) = true)
    (hl : (l.all fun j => decide (j < n) && waits ops k j) = true) (hds : ds.all (outer ops) = true)
    (h : true = true → c = b → (true && (c == b)) = true → ∀ (K : Act → World → Prop) (a : Act) (w : World), Below W.heap.size W w → Outers ops a0 a ds → Facts ops (fun k v w => (R k).holds v w) a w l → (∀ v w', Below w.heap.size w w' → v = X → K (a.put o.dst v) w') → o.wp P a w K Q)
    (hr : BOk P Q ops n Fr a0 W R (k + 1) rest) : BOk P Q ops n Fr a0 W R k (o :: rest) :=
  BOk.optX (p := true) ho l ds hfr g b hg hR hRk hd hw hl hds h hr
end
theorem fis {ops : Array Oper} {a : Act} {w : World} {j d : Nat} {S : Spec} {X : Value} (h : ∃ v, inSlot ops a j v ∧ S.holds v w) (hS : S = .is X) (hd : (ops[j]?).bind (·.dst) = some d) : a.tmps[d]? = some X := by
  obtain ⟨v, h1, h2⟩ := h
  subst hS
  have h2 : v = X := h2
  subst h2
  unfold inSlot at h1
  rw [hd] at h1
  exact h1
theorem fif {ops : Array Oper} {a : Act} {w : World} {j d : Nat} {S : Spec} {X : Value} {p : Bool} (h : ∃ v, inSlot ops a j v ∧ S.holds v w) (hS : S = .is (bif p then X else undef)) (hp : p = true) (hd : (ops[j]?).bind (·.dst) = some d) : a.tmps[d]? = some X := by
  subst hp
  exact fis h hS hd
end Go.Proofs.YtbopndepklafgaaDoor
