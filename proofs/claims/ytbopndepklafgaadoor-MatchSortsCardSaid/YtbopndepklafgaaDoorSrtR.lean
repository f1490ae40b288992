/- Sorting in place by merging: the searches, the step of the merge, and that what is in order is one. Plain. No conditions. -/
import Derived.Test.YtbopndepklafgaaDoorSrtQ
namespace Go.Proofs.YtbopndepklafgaaDoor
set_option linter.unusedVariables false
set_option linter.unusedSimpArgs false

/-- What is asked of the comparison. -/
structure Cmp {α : Type} (lt : α → α → Bool) : Prop where
  irr : ∀ x, lt x x = false
  asym : ∀ x y, lt x y = true → lt y x = false
  letr : ∀ x y z, Le lt x y → Le lt y z → Le lt x z
section
variable {α : Type} {lt : α → α → Bool}
theorem Cmp.le_lt (h : Cmp lt) {x y z : α} (h1 : Le lt x y) (h2 : lt y z = true) : lt x z = true := by
  cases hx : lt x z with
  | true => rfl
  | false =>
    have h3 : Le lt z y := h.letr _ _ _ (show Le lt z x from hx) h1
    have h4 : lt y z = false := h3
    rw [h2] at h4; cases h4
theorem Cmp.lt_le (h : Cmp lt) {x y z : α} (h1 : lt x y = true) (h2 : Le lt y z) : lt x z = true := by
  cases hx : lt x z with
  | true => rfl
  | false =>
    have h3 : Le lt y x := h.letr _ _ _ h2 (show Le lt z x from hx)
    have h4 : lt x y = false := h3
    rw [h1] at h4; cases h4
/-- The end of the search for the place of the one at a: i is the first place of the run that isn't ahead of it. -/
theorem up_found {l l' : List α} {a b i : Nat} (hc : Cmp lt) (hai : a + 1 ≤ i) (hib : i ≤ b) (hlen : b ≤ l.length) (h : Srt (Le lt) l (a + 1) b) (hup : Up l l' a (i - 1))
    (h1 : i = a + 1 ∨ ∀ u v, l[i - 1]? = some u → l[a]? = some v → lt u v = true) (h2 : i = b ∨ ∀ u v, l[i]? = some u → l[a]? = some v → lt u v = false) : Srt (Le lt) l' a b := by
  refine up_srt hc.letr hc.asym hai hib h hup (fun x u v q1 q2 hu hv => ?_) (fun x u v q1 q2 hu hv => ?_)
  · rcases h1 with h1 | h1
    · omega
    · have hw := List.getElem?_eq_getElem (l := l) (i := i - 1) (by omega)
      have hwv := h1 _ v hw hv
      by_cases hx : x = i - 1
      · subst hx; rw [hw] at hu; injection hu with hu; rw [← hu]; exact hwv
      · exact hc.le_lt (h x (i - 1) u _ q1 (by omega) (by omega) hu hw) hwv
  · rcases h2 with h2 | h2
    · omega
    · have hw := List.getElem?_eq_getElem (l := l) (i := i) (by omega)
      have hwv := h2 _ v hw hv
      by_cases hx : x = i
      · subst hx; rw [hw] at hu; injection hu with hu; rw [← hu]; exact hwv
      · cases hq : lt u v with
        | false => rfl
        | true =>
          have := hc.le_lt (h i x _ u (by omega) (by omega) q2 hw hu) hq
          rw [hwv] at this; cases this
theorem dn_found {l l' : List α} {a m i : Nat} (hc : Cmp lt) (hai : a ≤ i) (him : i ≤ m) (hlen : m < l.length) (h : Srt (Le lt) l a m) (hdn : Dn l l' i m)
    (h1 : i = a ∨ ∀ u v, l[i - 1]? = some u → l[m]? = some v → lt v u = false) (h2 : i = m ∨ ∀ u v, l[i]? = some u → l[m]? = some v → lt v u = true) : Srt (Le lt) l' a (m + 1) := by
  refine dn_srt hc.asym hai him h hdn (fun x u v q1 q2 hu hv => ?_) (fun x u v q1 q2 hu hv => ?_)
  · rcases h1 with h1 | h1
    · omega
    · have hw := List.getElem?_eq_getElem (l := l) (i := i - 1) (by omega)
      have hwv := h1 _ v hw hv
      by_cases hx : x = i - 1
      · subst hx; rw [hw] at hu; injection hu with hu; rw [← hu]; exact hwv
      · cases hq : lt v u with
        | false => rfl
        | true =>
          have := hc.lt_le hq (h x (i - 1) u _ q1 (by omega) (by omega) hu hw)
          rw [hwv] at this; cases this
  · rcases h2 with h2 | h2
    · omega
    · have hw := List.getElem?_eq_getElem (l := l) (i := i) (by omega)
      have hwv := h2 _ v hw hv
      by_cases hx : x = i
      · subst hx; rw [hw] at hu; injection hu with hu; rw [← hu]; exact hwv
      · exact hc.lt_le hwv (h i x _ u (by omega) (by omega) q2 hw hu)
/-- Where the merge's search begins and may end. -/
def low0 (a m b : Nat) : Nat := if (a + b) / 2 < m then (a + b) / 2 + m - b else a
def high0 (a m b : Nat) : Nat := if (a + b) / 2 < m then (a + b) / 2 else m
/-- The merge's search is at its end at s: the step, by halves. -/
theorem merge_step {l l' : List α} {a m b s : Nat} (hc : Cmp lt) (ham : a + 2 ≤ m) (hmb : m + 2 ≤ b) (hlen : b ≤ l.length) (h1 : Srt (Le lt) l a m) (h2 : Srt (Le lt) l m b) (hs1 : low0 a m b ≤ s) (hs2 : s ≤ high0 a m b)
    (hlo : s = low0 a m b ∨ ∀ x y, l[(a + b) / 2 + m - 1 - (s - 1)]? = some x → l[s - 1]? = some y → lt x y = false) (hhi : s = high0 a m b ∨ ∀ x y, l[(a + b) / 2 + m - 1 - s]? = some x → l[s]? = some y → lt x y = true)
    (hr : Rotated l l' s m ((a + b) / 2 + m - s)) : a ≤ s ∧ s ≤ m ∧ m ≤ (a + b) / 2 + m - s ∧ (a + b) / 2 + m - s ≤ b ∧ s ≤ (a + b) / 2 ∧ Srt (Le lt) l' a s ∧ Srt (Le lt) l' s ((a + b) / 2) ∧ Srt (Le lt) l' ((a + b) / 2) ((a + b) / 2 + m - s) ∧ Srt (Le lt) l' ((a + b) / 2 + m - s) b ∧ Split (Le lt) l' a ((a + b) / 2) b := by
  unfold low0 high0 at *
  generalize hmid : (a + b) / 2 = mid at *
  have hm1 : a + 1 ≤ mid := by omega
  have hm2 : mid + 1 ≤ b := by omega
  have e1 : a ≤ s := by split at hs1 <;> omega
  have e2 : s ≤ m := by split at hs2 <;> omega
  have e3 : s ≤ mid := by split at hs2 <;> omega
  have e4 : mid + m - s ≤ b := by split at hs1 <;> omega
  refine ⟨e1, e2, by omega, e4, e3, ?_⟩
  refine merge_halves hc.letr hc.irr e1 e2 (by omega) e4 (by omega) h1 h2 (fun q1 q2 x y hx hy => ?_) (fun q1 q2 x y hx hy => ?_) hlen hr
  · rcases hlo with hlo | hlo
    · split at hlo <;> omega
    · have : mid + m - 1 - (s - 1) = mid + m - s := by omega
      rw [this] at hlo
      exact hlo y x hy hx
  · rcases hhi with hhi | hhi
    · split at hhi <;> omega
    · have : mid + m - 1 - s = mid + m - s - 1 := by omega
      rw [this] at hhi
      exact hc.asym _ _ (hhi x y hx hy)
end

/-- What stands in order is one. -/
theorem sorted_one {β : Type} {R : β → β → Prop} (ha : ∀ x y, R x y → R y x → x = y) : ∀ {l l' : List β}, l.Perm l' → l.Pairwise R → l'.Pairwise R → l = l'
  | [], l', h, _, _ => (List.Perm.nil_eq h)
  | x :: l, [], h, _, _ => absurd h.length_eq (by simp)
  | x :: l, y :: l', h, h1, h2 => by
    have hxy : x = y := by
      have hx : x ∈ y :: l' := h.subset (by simp)
      have hy : y ∈ x :: l := h.symm.subset (by simp)
      rcases List.mem_cons.1 hx with e | hx
      · exact e
      · rcases List.mem_cons.1 hy with e | hy
        · exact e.symm
        · exact ha _ _ ((List.pairwise_cons.1 h1).1 y hy) ((List.pairwise_cons.1 h2).1 x hx)
    subst hxy
    rw [sorted_one ha (List.Perm.cons_inv h) (List.pairwise_cons.1 h1).2 (List.pairwise_cons.1 h2).2]
theorem Srt.pairwise {α : Type} {le : α → α → Prop} {l : List α} (h : Srt le l 0 l.length) : l.Pairwise le := by
  rw [List.pairwise_iff_getElem]
  intro i j hi hj hij
  exact h i j _ _ (Nat.zero_le _) hij hj (List.getElem?_eq_getElem hi) (List.getElem?_eq_getElem hj)
end Go.Proofs.YtbopndepklafgaaDoor
