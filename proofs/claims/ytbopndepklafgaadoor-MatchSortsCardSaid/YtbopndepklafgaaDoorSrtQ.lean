/- Sorting in place by merging: turning about, and one element put in its place. Plain. No conditions. -/
import Derived.Test.YtbopndepklafgaaDoorSrtP
namespace Go.Proofs.YtbopndepklafgaaDoor
set_option linter.unusedVariables false
set_option linter.unusedSimpArgs false

section
variable {α : Type}
/-- Two blocks of n, from a on and from b on, are in each other's place. -/
structure SwapR (l l' : List α) (a b n : Nat) : Prop where
  moved : Moved l l' a (b + n)
  fst : ∀ t, t < n → l'[a + t]? = l[b + t]?
  snd : ∀ t, t < n → l'[b + t]? = l[a + t]?
  mid : ∀ x, a + n ≤ x → x < b → l'[x]? = l[x]?
theorem SwapR.zero (l : List α) (a b : Nat) : SwapR l l a b 0 := ⟨Moved.refl _ _ _, fun t h => by omega, fun t h => by omega, fun _ _ _ => rfl⟩
theorem SwapR.step {l l' : List α} {a b n : Nat} (h : SwapR l l' a b n) (hab : a + n + 1 ≤ b) (hlen : b + n < l.length) : SwapR l (swapL l' (a + n) (b + n)) a b (n + 1) := by
  have hl : l'.length = l.length := h.moved.len
  have o1 : l'[a + n]? = l[a + n]? := h.mid _ (Nat.le_refl _) (by omega)
  have o2 : l'[b + n]? = l[b + n]? := h.moved.out _ (.inr (Nat.le_refl _))
  have g := fun k => swapL_get (l := l') (i := a + n) (j := b + n) (by omega) (by omega) k
  refine ⟨(h.moved.wide (Nat.le_refl _) (by omega)).trans (swapL_moved (by omega) (by omega) (by omega) (by omega) (by omega) (by omega)), fun t ht => ?_, fun t ht => ?_, fun x h1 h2 => ?_⟩
  · rw [g, if_neg (by omega)]
    by_cases htn : t = n
    · subst htn; rw [if_pos rfl]; exact o2
    · rw [if_neg (by omega)]; exact h.fst t (by omega)
  · rw [g]
    by_cases htn : t = n
    · subst htn; rw [if_pos rfl]; exact o1
    · rw [if_neg (by omega), if_neg (by omega)]; exact h.snd t (by omega)
  · rw [g, if_neg (by omega), if_neg (by omega)]; exact h.mid x (by omega) h2

theorem Rotated.none {l : List α} {s m e : Nat} (h : s = m ∨ m = e) (hsm : s ≤ m) (hme : m ≤ e) : Rotated l l s m e := by
  refine ⟨Moved.refl _ _ _, fun i hi => ?_, fun i hi => ?_⟩
  · rcases h with h | h
    · subst h; rfl
    · omega
  · rcases h with h | h
    · omega
    · subst h; rw [show s + (m - m) + i = s + i by omega]
/-- Left longer: the first j of the left against the right. -/
theorem rot_left {l l1 l' : List α} {m i j : Nat} (hij : j < i) (him : i ≤ m) (h : SwapR l l1 (m - i) m j) (hr : Rotated l1 l' (m - (i - j)) m (m + j)) : Rotated l l' (m - i) m (m + j) := by
  refine ⟨(h.moved.wide (by omega) (by omega)).trans (hr.moved.wide (by omega) (by omega)), fun t ht => ?_, fun t ht => ?_⟩
  · rw [hr.moved.out _ (.inl (by omega)), h.fst t (by omega)]
  · by_cases htj : t < j
    · have := hr.fst t (by omega)
      rw [show m - i + (m + j - m) + t = m - (i - j) + t by omega, this, h.snd t (by omega)]
    · have := hr.snd (t - j) (by omega)
      rw [show m - i + (m + j - m) + t = m - (i - j) + (m + j - m) + (t - j) by omega, this, h.mid _ (by omega) (by omega)]
      congr 1
      omega
/-- Right longer: the left against the last i of the right. -/
theorem rot_right {l l1 l' : List α} {m i j : Nat} (hij : i < j) (him : i ≤ m) (h : SwapR l l1 (m - i) (m + j - i) i) (hr : Rotated l1 l' (m - i) m (m + (j - i))) : Rotated l l' (m - i) m (m + j) := by
  refine ⟨(h.moved.wide (by omega) (by omega)).trans (hr.moved.wide (by omega) (by omega)), fun t ht => ?_, fun t ht => ?_⟩
  · by_cases htj : t < j - i
    · rw [hr.fst t (by omega), h.mid _ (by omega) (by omega)]
    · have := hr.snd (t - (j - i)) (by omega)
      rw [show m - i + t = m - i + (m + (j - i) - m) + (t - (j - i)) by omega, this, h.fst _ (by omega)]
      congr 1
      omega
  · have := h.snd t (by omega)
    rw [hr.moved.out _ (.inr (by omega)), show m - i + (m + j - m) + t = m + j - i + t by omega, this]
/-- Of one length: the one against the other. -/
theorem rot_same {l l1 : List α} {m i : Nat} (him : i ≤ m) (h : SwapR l l1 (m - i) m i) : Rotated l l1 (m - i) m (m + i) := by
  refine ⟨h.moved, fun t ht => h.fst t (by omega), fun t ht => ?_⟩
  rw [show m - i + (m + i - m) + t = m + t by omega]
  exact h.snd t (by omega)

/-- The element at a is moved up to k, those between down by one. -/
structure Up (l l' : List α) (a k : Nat) : Prop where
  moved : Moved l l' a (k + 1)
  down : ∀ x, a ≤ x → x < k → l'[x]? = l[x + 1]?
  at_ : l'[k]? = l[a]?
theorem Up.zero (l : List α) (a : Nat) : Up l l a a := ⟨Moved.refl _ _ _, fun x h1 h2 => by omega, rfl⟩
theorem Up.step {l l' : List α} {a k : Nat} (h : Up l l' a k) (hak : a ≤ k) (hlen : k + 1 < l.length) : Up l (swapL l' k (k + 1)) a (k + 1) := by
  have hl : l'.length = l.length := h.moved.len
  have g := fun x => swapL_get (l := l') (i := k) (j := k + 1) (by omega) (by omega) x
  refine ⟨(h.moved.wide (Nat.le_refl _) (by omega)).trans (swapL_moved (by omega) (by omega) (by omega) (by omega) (by omega) (by omega)), fun x h1 h2 => ?_, ?_⟩
  · rw [g, if_neg (by omega)]
    by_cases hx : x = k
    · subst hx; rw [if_pos rfl]; exact h.moved.out _ (.inr (Nat.le_refl _))
    · rw [if_neg hx]; exact h.down x h1 (by omega)
  · rw [g, if_pos rfl]; exact h.at_
/-- The element at m is moved down to k, those between up by one. -/
structure Dn (l l' : List α) (k m : Nat) : Prop where
  moved : Moved l l' k (m + 1)
  up : ∀ x, k < x → x ≤ m → l'[x]? = l[x - 1]?
  at_ : l'[k]? = l[m]?
theorem Dn.zero (l : List α) (m : Nat) : Dn l l m m := ⟨Moved.refl _ _ _, fun x h1 h2 => by omega, rfl⟩
theorem Dn.step {l l' : List α} {k m : Nat} (h : Dn l l' (k + 1) m) (hkm : k + 1 ≤ m) (hlen : m < l.length) : Dn l (swapL l' (k + 1) k) k m := by
  have hl : l'.length = l.length := h.moved.len
  have g := fun x => swapL_get (l := l') (i := k + 1) (j := k) (by omega) (by omega) x
  refine ⟨(h.moved.wide (by omega) (Nat.le_refl _)).trans (swapL_moved (by omega) (by omega) (by omega) (by omega) (by omega) (by omega)), fun x h1 h2 => ?_, ?_⟩
  · rw [g, if_neg (by omega)]
    by_cases hx : x = k + 1
    · subst hx; rw [if_pos rfl, h.moved.out k (.inl (by omega))]; rfl
    · rw [if_neg hx]; exact h.up x (by omega) h2
  · rw [g, if_pos rfl]; exact h.at_
end

section
variable {α : Type} {lt : α → α → Bool}
/-- x isn't behind y. -/
def Le (lt : α → α → Bool) (x y : α) : Prop := lt y x = false
/-- One in front of a run is put in its place in it. -/
theorem up_srt {l l' : List α} {a b i : Nat} (htr : ∀ x y z, Le lt x y → Le lt y z → Le lt x z) (has : ∀ x y, lt x y = true → Le lt x y) (hab : a + 1 ≤ i) (hib : i ≤ b) (h : Srt (Le lt) l (a + 1) b) (hup : Up l l' a (i - 1))
    (h1 : ∀ (x : Nat) (u v : α), a + 1 ≤ x → x < i → l[x]? = some u → l[a]? = some v → lt u v = true) (h2 : ∀ (x : Nat) (u v : α), i ≤ x → x < b → l[x]? = some u → l[a]? = some v → lt u v = false) : Srt (Le lt) l' a b := by
  intro p q x y hp hpq hq hx hy
  have low : ∀ z, a ≤ z → z < i - 1 → l'[z]? = l[z + 1]? := hup.down
  have high : ∀ z, i ≤ z → l'[z]? = l[z]? := fun z hz => hup.moved.out z (.inr (by omega))
  have at_ := hup.at_
  by_cases hp1 : p < i - 1
  · rw [low p hp hp1] at hx
    by_cases hq1 : q < i - 1
    · rw [low q (by omega) hq1] at hy
      exact h _ _ x y (by omega) (by omega) (by omega) hx hy
    · by_cases hq2 : q = i - 1
      · rw [hq2, at_] at hy
        exact has _ _ (h1 (p + 1) x y (by omega) (by omega) hx hy)
      · rw [high q (by omega)] at hy
        exact h _ _ x y (by omega) (by omega) hq hx hy
  · by_cases hp2 : p = i - 1
    · rw [hp2, at_] at hx
      rw [high q (by omega)] at hy
      exact h2 q y x (by omega) hq hy hx
    · rw [high p (by omega)] at hx
      rw [high q (by omega)] at hy
      exact h p q x y (by omega) hpq hq hx hy
/-- One behind a run is put in its place in it. -/
theorem dn_srt {l l' : List α} {a m i : Nat} (has : ∀ x y, lt x y = true → Le lt x y) (hai : a ≤ i) (him : i ≤ m) (h : Srt (Le lt) l a m) (hdn : Dn l l' i m)
    (h1 : ∀ (x : Nat) (u v : α), a ≤ x → x < i → l[x]? = some u → l[m]? = some v → lt v u = false) (h2 : ∀ (x : Nat) (u v : α), i ≤ x → x < m → l[x]? = some u → l[m]? = some v → lt v u = true) : Srt (Le lt) l' a (m + 1) := by
  intro p q x y hp hpq hq hx hy
  have low : ∀ z, z < i → l'[z]? = l[z]? := fun z hz => hdn.moved.out z (.inl hz)
  have high : ∀ z, i < z → z ≤ m → l'[z]? = l[z - 1]? := hdn.up
  have at_ := hdn.at_
  by_cases hp1 : p < i
  · rw [low p hp1] at hx
    by_cases hq1 : q < i
    · rw [low q hq1] at hy
      exact h p q x y hp hpq (by omega) hx hy
    · by_cases hq2 : q = i
      · rw [hq2, at_] at hy
        exact h1 p x y hp hp1 hx hy
      · rw [high q (by omega) (by omega)] at hy
        exact h p (q - 1) x y hp (by omega) (by omega) hx hy
  · by_cases hp2 : p = i
    · rw [hp2, at_] at hx
      rw [high q (by omega) (by omega)] at hy
      exact has _ _ (h2 (q - 1) y x (by omega) (by omega) hy hx)
    · rw [high p (by omega) (by omega)] at hx
      rw [high q (by omega) (by omega)] at hy
      exact h (p - 1) (q - 1) x y (by omega) (by omega) (by omega) hx hy
/-- Halving: what holds at h holds at all on its side. -/
theorem half_low {l : List α} {a b h : Nat} {P : α → Prop} (hs : Srt (Le lt) l a b) (hmono : ∀ x y, Le lt x y → P y → P x) {u : α} (hu : l[h]? = some u) (hb : h < b) (hP : P u) : ∀ (x : Nat) (v : α), a ≤ x → x ≤ h → l[x]? = some v → P v := by
  intro x v h1 h2 hv
  by_cases hx : x = h
  · subst hx; rw [hu] at hv; injection hv with hv; rw [← hv]; exact hP
  · exact hmono _ _ (hs x h v u h1 (by omega) hb hv hu) hP
theorem half_high {l : List α} {a b h : Nat} {P : α → Prop} (hs : Srt (Le lt) l a b) (hmono : ∀ x y, Le lt x y → P x → P y) {u : α} (hu : l[h]? = some u) (ha : a ≤ h) (hP : P u) : ∀ (x : Nat) (v : α), h ≤ x → x < b → l[x]? = some v → P v := by
  intro x v h1 h2 hv
  by_cases hx : x = h
  · subst hx; rw [hu] at hv; injection hv with hv; rw [← hv]; exact hP
  · exact hmono _ _ (hs h x u v ha (by omega) h2 hu hv) hP

/-- In order but for the one at j, which is ahead of none behind it: insertion's state. -/
structure Ins (lt : α → α → Bool) (l : List α) (a j i : Nat) : Prop where
  rest : ∀ (p q : Nat) (x y : α), a ≤ p → p < q → q ≤ i → p ≠ j → q ≠ j → l[p]? = some x → l[q]? = some y → Le lt x y
  behind : ∀ (q : Nat) (x y : α), j < q → q ≤ i → l[j]? = some x → l[q]? = some y → Le lt x y
theorem Ins.start {l : List α} {a i : Nat} (h : Srt (Le lt) l a i) : Ins lt l a i i := ⟨fun p q x y h1 h2 h3 h4 h5 hx hy => h p q x y h1 h2 (by omega) hx hy, fun q x y h1 h2 => by omega⟩
theorem Ins.step {l : List α} {a j i : Nat} (has : ∀ x y, lt x y = true → Le lt x y) (h : Ins lt l a (j + 1) i) (hj : a ≤ j) (hji : j + 1 ≤ i) (hlen : i < l.length) (hlt : ∀ x y, l[j + 1]? = some x → l[j]? = some y → lt x y = true) : Ins lt (swapL l (j + 1) j) a j i := by
  have g := fun x => swapL_get (l := l) (i := j + 1) (j := j) (by omega) (by omega) x
  refine ⟨fun p q x y h1 h2 h3 h4 h5 hx hy => ?_, fun q x y h1 h2 hx hy => ?_⟩
  · rw [g, if_neg h4] at hx
    rw [g, if_neg h5] at hy
    by_cases hp : p = j + 1
    · rw [if_pos hp] at hx
      rw [if_neg (by omega)] at hy
      exact h.rest j q x y hj (by omega) h3 (by omega) (by omega) hx hy
    · rw [if_neg hp] at hx
      by_cases hq : q = j + 1
      · rw [if_pos hq] at hy
        exact h.rest p j x y h1 (by omega) (by omega) hp (by omega) hx hy
      · rw [if_neg hq] at hy
        exact h.rest p q x y h1 h2 h3 hp hq hx hy
  · rw [g, if_pos rfl] at hx
    rw [g, if_neg (by omega)] at hy
    by_cases hq : q = j + 1
    · rw [if_pos hq] at hy
      exact has _ _ (hlt x y hx hy)
    · rw [if_neg hq] at hy
      exact h.behind q x y (by omega) h2 hx hy
theorem Ins.done {l : List α} {a j i : Nat} (htr : ∀ x y z, Le lt x y → Le lt y z → Le lt x z) (h : Ins lt l a j i) (hj : a ≤ j) (hji : j ≤ i) (hlen : i < l.length) (hst : j = a ∨ ∃ k, j = k + 1 ∧ a ≤ k ∧ ∀ x y, l[k + 1]? = some x → l[k]? = some y → lt x y = false) : Srt (Le lt) l a (i + 1) := by
  intro p q x y h1 h2 h3 hx hy
  by_cases hp : p = j
  · subst hp
    exact h.behind q x y h2 (by omega) hx hy
  · by_cases hq : q = j
    · subst hq
      rcases hst with h0 | ⟨k, rfl, hk, hle⟩
      · omega
      · have hk' := List.getElem?_eq_getElem (l := l) (i := k) (by omega)
        have hky := hle _ _ hy hk'
        by_cases hpk : p = k
        · subst hpk
          rw [hk'] at hx; injection hx with hx
          rw [← hx]; exact hky
        · exact htr _ _ _ (h.rest p k x _ h1 (by omega) (by omega) hp (by omega) hx hk') hky
    · exact h.rest p q x y h1 h2 (by omega) hp hq hx hy
end
end Go.Proofs.YtbopndepklafgaaDoor
