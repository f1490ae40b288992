/- Sorting in place by merging (the library's stable sort), as facts on lists: plain. No conditions. -/
import Derived.Test.YtbopndepklafgaaDoorBase
namespace Go.Proofs.YtbopndepklafgaaDoor
set_option linter.unusedVariables false
set_option linter.unusedSimpArgs false

section
variable {α : Type} {le : α → α → Prop}
/-- Between a and b it stands in order. -/
def Srt (le : α → α → Prop) (l : List α) (a b : Nat) : Prop := ∀ (i j : Nat) (x y : α), a ≤ i → i < j → j < b → l[i]? = some x → l[j]? = some y → le x y
/-- Each of the one stands, between a and b, in the other. -/
def Froms (l l' : List α) (a b : Nat) : Prop := ∀ (i : Nat) (x : α), a ≤ i → i < b → l'[i]? = some x → ∃ j, a ≤ j ∧ j < b ∧ l[j]? = some x
/-- From l to l' only what stands between a and b has been put in another order. -/
structure Moved (l l' : List α) (a b : Nat) : Prop where
  perm : l'.Perm l
  out : ∀ i, i < a ∨ b ≤ i → l'[i]? = l[i]?
  froms : Froms l l' a b
theorem Moved.refl (l : List α) (a b : Nat) : Moved l l a b := ⟨List.Perm.refl _, fun _ _ => rfl, fun i x h1 h2 h => ⟨i, h1, h2, h⟩⟩
theorem Moved.len {l l' : List α} {a b : Nat} (h : Moved l l' a b) : l'.length = l.length := h.perm.length_eq
theorem Moved.trans {l l' l'' : List α} {a b : Nat} (h : Moved l l' a b) (h2 : Moved l' l'' a b) : Moved l l'' a b :=
  ⟨h2.perm.trans h.perm, fun i hi => (h2.out i hi).trans (h.out i hi), fun i x h3 h4 hx => by
    obtain ⟨j, j1, j2, j3⟩ := h2.froms i x h3 h4 hx
    exact h.froms j x j1 j2 j3⟩
theorem Moved.wide {l l' : List α} {a b a' b' : Nat} (h : Moved l l' a b) (ha : a' ≤ a) (hb : b ≤ b') : Moved l l' a' b' :=
  ⟨h.perm, fun i hi => h.out i (by omega), fun i x h1 h2 hx => by
    by_cases hi : a ≤ i ∧ i < b
    · obtain ⟨j, j1, j2, j3⟩ := h.froms i x hi.1 hi.2 hx
      exact ⟨j, by omega, by omega, j3⟩
    · exact ⟨i, h1, h2, by rw [← h.out i (by omega)]; exact hx⟩⟩
/-- Two are put in each other's place. -/
def swapL (l : List α) (i j : Nat) : List α := match l[i]?, l[j]? with
  | some x, some y => (l.set i y).set j x
  | _, _ => l
theorem swapL_eq {l : List α} {i j : Nat} {x y : α} (hx : l[i]? = some x) (hy : l[j]? = some y) : swapL l i j = (l.set i y).set j x := by unfold swapL; rw [hx, hy]
theorem swapL_len (l : List α) (i j : Nat) : (swapL l i j).length = l.length := by unfold swapL; split <;> simp
theorem swapL_get {l : List α} {i j : Nat} (hi : i < l.length) (hj : j < l.length) (k : Nat) : (swapL l i j)[k]? = if k = j then l[i]? else if k = i then l[j]? else l[k]? := by
  rw [swapL_eq (List.getElem?_eq_getElem hi) (List.getElem?_eq_getElem hj), List.getElem?_set]
  by_cases h1 : j = k
  · subst h1
    rw [if_pos rfl, if_pos rfl, if_pos (by simpa using hj), List.getElem?_eq_getElem hi]
  · rw [if_neg h1, if_neg (fun e => h1 e.symm), List.getElem?_set]
    by_cases h2 : i = k
    · subst h2
      rw [if_pos rfl, if_pos rfl, if_pos hi, List.getElem?_eq_getElem hj]
    · rw [if_neg h2, if_neg (fun e => h2 e.symm)]
theorem set_perm : ∀ {l : List α} {i : Nat} {x y : α}, l[i]? = some x → (y :: l).Perm (x :: l.set i y)
  | [], _, _, _, h => by simp at h
  | z :: l, 0, x, y, h => by
    injection h with h
    subst h
    exact List.Perm.swap _ _ _
  | z :: l, i + 1, x, y, h => by
    have h' : l[i]? = some x := by simpa using h
    exact (List.Perm.swap z y l).trans (((set_perm h').cons z).trans (List.Perm.swap x z _))
theorem swapL_perm {l : List α} {i j : Nat} (hi : i < l.length) (hj : j < l.length) : (swapL l i j).Perm l := by
  by_cases hij : i = j
  · subst hij
    rw [swapL_eq (List.getElem?_eq_getElem hi) (List.getElem?_eq_getElem hi)]
    simp
  · have hx := List.getElem?_eq_getElem hi
    have hy := List.getElem?_eq_getElem hj
    rw [swapL_eq hx hy]
    generalize l[i] = x at *
    generalize l[j] = y at *
    have h1 : (y :: l).Perm (x :: l.set i y) := set_perm hx
    have hy2 : (l.set i y)[j]? = some y := by rw [List.getElem?_set_ne hij]; exact hy
    have h2 : (x :: l.set i y).Perm (y :: (l.set i y).set j x) := set_perm hy2
    exact (List.Perm.cons_inv (h1.trans h2)).symm
theorem swapL_moved {l : List α} {a b i j : Nat} (hi : i < l.length) (hj : j < l.length) (h1 : a ≤ i) (h2 : i < b) (h3 : a ≤ j) (h4 : j < b) : Moved l (swapL l i j) a b := by
  refine ⟨swapL_perm hi hj, fun k hk => ?_, fun k x hk1 hk2 hx => ?_⟩
  · rw [swapL_get hi hj, if_neg (by omega), if_neg (by omega)]
  · rw [swapL_get hi hj] at hx
    by_cases e1 : k = j
    · rw [if_pos e1] at hx; exact ⟨i, h1, h2, hx⟩
    · rw [if_neg e1] at hx
      by_cases e2 : k = i
      · rw [if_pos e2] at hx; exact ⟨j, h3, h4, hx⟩
      · rw [if_neg e2] at hx; exact ⟨k, hk1, hk2, hx⟩

/-! Two runs become one. -/
theorem Srt.nil {l : List α} {a b : Nat} (h : b ≤ a + 1) : Srt le l a b := fun i j x y h1 h2 h3 => by omega
theorem Srt.sub {l : List α} {a b a' b' : Nat} (h : Srt le l a b) (h1 : a ≤ a') (h2 : b' ≤ b) : Srt le l a' b' := fun i j x y h3 h4 h5 hx hy => h i j x y (by omega) h4 (by omega) hx hy
theorem Srt.same {l l' : List α} {a b : Nat} (h : Srt le l a b) (hs : ∀ i, a ≤ i → i < b → l'[i]? = l[i]?) : Srt le l' a b := fun i j x y h1 h2 h3 hx hy => h i j x y h1 h2 h3 ((hs i h1 (by omega)).symm.trans hx) ((hs j (by omega) h3).symm.trans hy)
/-- All of the first part are at most all of the second. -/
def Split (le : α → α → Prop) (l : List α) (a m b : Nat) : Prop := ∀ (i j : Nat) (x y : α), a ≤ i → i < m → m ≤ j → j < b → l[i]? = some x → l[j]? = some y → le x y
theorem Srt.join {l : List α} {a m b : Nat} (h1 : Srt le l a m) (h2 : Srt le l m b) (hs : Split le l a m b) : Srt le l a b := by
  intro i j x y ha hij hb hx hy
  by_cases hi : i < m
  · by_cases hj : j < m
    · exact h1 i j x y ha hij hj hx hy
    · exact hs i j x y ha hi (by omega) hb hx hy
  · exact h2 i j x y (by omega) hij hb hx hy
theorem Split.moved {l l' l'' : List α} {a m b : Nat} (h : Split le l a m b) (h1 : Moved l l' a m) (h2 : Moved l' l'' m b) : Split le l'' a m b := by
  intro i j x y hi1 hi2 hj1 hj2 hx hy
  have hx' : l'[i]? = some x := by rw [← h2.out i (by omega)]; exact hx
  obtain ⟨j', q1, q2, q3⟩ := h2.froms j y hj1 hj2 hy
  have q3' : l[j']? = some y := by rw [← h1.out j' (by omega)]; exact q3
  obtain ⟨i', r1, r2, r3⟩ := h1.froms i x hi1 hi2 hx'
  exact h i' j' x y r1 r2 q1 q2 r3 q3'
/-- The two middle pieces in each other's place. -/
structure Rotated (l l' : List α) (s m e : Nat) : Prop where
  moved : Moved l l' s e
  fst : ∀ i, i < e - m → l'[s + i]? = l[m + i]?
  snd : ∀ i, i < m - s → l'[s + (e - m) + i]? = l[s + i]?
/-- The step of the merge: behind the turning about the halves can be merged each by itself. -/
theorem merge_halves {l l' : List α} {a m b s e mid : Nat} (hle : ∀ x y z, le x y → le y z → le x z) (hrf : ∀ x, le x x) (ham : a ≤ s) (hsm : s ≤ m) (hme : m ≤ e) (heb : e ≤ b) (hmid : mid = s + (e - m)) (h1 : Srt le l a m) (h2 : Srt le l m b)
    (hlow : a < s → e < b → ∀ x y, l[s - 1]? = some x → l[e]? = some y → le x y) (hhigh : m < e → s < m → ∀ x y, l[e - 1]? = some x → l[s]? = some y → le x y) (hlen : b ≤ l.length) (hr : Rotated l l' s m e) :
    Srt le l' a s ∧ Srt le l' s mid ∧ Srt le l' mid e ∧ Srt le l' e b ∧ Split le l' a mid b := by
  subst hmid
  have o1 : ∀ i, i < s → l'[i]? = l[i]? := fun i hi => hr.moved.out i (by omega)
  have o2 : ∀ i, e ≤ i → l'[i]? = l[i]? := fun i hi => hr.moved.out i (by omega)
  have f1 : ∀ i, s ≤ i → i < s + (e - m) → l'[i]? = l[i + m - s]? := fun i h1 h2 => by
    have := hr.fst (i - s) (by omega)
    rwa [show s + (i - s) = i by omega, show m + (i - s) = i + m - s by omega] at this
  have f2 : ∀ i, s + (e - m) ≤ i → i < e → l'[i]? = l[i - (e - m)]? := fun i h1 h2 => by
    have := hr.snd (i - (s + (e - m))) (by omega)
    rwa [show s + (e - m) + (i - (s + (e - m))) = i by omega, show s + (i - (s + (e - m))) = i - (e - m) by omega] at this
  -- any of the low run ahead of s, against any of the high run from e on
  have mono1 : ∀ (i j : Nat) (x y : α), a ≤ i → i ≤ j → j < m → l[i]? = some x → l[j]? = some y → le x y := fun i j x y q1 q2 q3 hx hy => by
    by_cases hij : i = j
    · subst hij
      rw [hx] at hy; injection hy with hy; subst hy; exact hrf _
    · exact h1 i j x y q1 (by omega) q3 hx hy
  have mono2 : ∀ (i j : Nat) (x y : α), m ≤ i → i ≤ j → j < b → l[i]? = some x → l[j]? = some y → le x y := fun i j x y q1 q2 q3 hx hy => by
    by_cases hij : i = j
    · subst hij
      rw [hx] at hy; injection hy with hy; subst hy; exact hrf _
    · exact h2 i j x y q1 (by omega) q3 hx hy
  have get : ∀ i, i < l.length → ∃ x, l[i]? = some x := fun i hi => ⟨_, List.getElem?_eq_getElem hi⟩
  have lowhigh : ∀ (i j : Nat) (x y : α), a ≤ i → i < s → e ≤ j → j < b → l[i]? = some x → l[j]? = some y → le x y := fun i j x y q1 q2 q3 q4 hx hy => by
    obtain ⟨u, hu⟩ := get (s - 1) (by omega)
    obtain ⟨v, hv⟩ := get e (by omega)
    exact hle _ _ _ (mono1 i (s - 1) x u q1 (by omega) (by omega) hx hu) (hle _ _ _ (hlow (by omega) (by omega) u v hu hv) (mono2 e j v y (by omega) q3 q4 hv hy))
  have highlow : ∀ (i j : Nat) (x y : α), m ≤ i → i < e → s ≤ j → j < m → l[i]? = some x → l[j]? = some y → le x y := fun i j x y q1 q2 q3 q4 hx hy => by
    obtain ⟨u, hu⟩ := get (e - 1) (by omega)
    obtain ⟨v, hv⟩ := get s (by omega)
    exact hle _ _ _ (mono2 i (e - 1) x u q1 (by omega) (by omega) hx hu) (hle _ _ _ (hhigh (by omega) (by omega) u v hu hv) (mono1 s j v y ham q3 q4 hv hy))
  refine ⟨?_, ?_, ?_, ?_, ?_⟩
  · exact (h1.sub (Nat.le_refl _) hsm).same fun i _ hi => o1 i hi
  · intro i j x y q1 q2 q3 hx hy
    rw [f1 i q1 (by omega)] at hx
    rw [f1 j (by omega) q3] at hy
    exact h2 _ _ x y (by omega) (by omega) (by omega) hx hy
  · intro i j x y q1 q2 q3 hx hy
    rw [f2 i q1 (by omega)] at hx
    rw [f2 j (by omega) q3] at hy
    exact h1 _ _ x y (by omega) (by omega) (by omega) hx hy
  · exact (h2.sub hme (Nat.le_refl _)).same fun i hi _ => o2 i hi
  · intro i j x y q1 q2 q3 q4 hx hy
    by_cases hi : i < s
    · rw [o1 i hi] at hx
      by_cases hj : j < e
      · rw [f2 j q3 hj] at hy
        exact h1 _ _ x y q1 (by omega) (by omega) hx hy
      · rw [o2 j (by omega)] at hy
        exact lowhigh i j x y q1 hi (by omega) q4 hx hy
    · rw [f1 i (by omega) q2] at hx
      by_cases hj : j < e
      · rw [f2 j q3 hj] at hy
        exact highlow _ _ x y (by omega) (by omega) (by omega) (by omega) hx hy
      · rw [o2 j (by omega)] at hy
        exact mono2 _ _ x y (by omega) (by omega) q4 hx hy
end
end Go.Proofs.YtbopndepklafgaaDoor
