/- Plain laws of what Apply makes: it counts as itself, its kind is Result's. No conditions. -/
import Derived.Test.YtadblgfppnpamaaValJ
namespace Go.Proofs.Ytadblgfppnpamaa
open Go.RowKit
set_option linter.unusedVariables false

theorem flN_canon (op : BinOp) (x y : Nat) : canonN (flN op x y) = flN op x y := by
  unfold flN
  split
  · rw [canon_canon]
  · decide
theorem clean_four (b : Nat) (h : canonN b = b) : clean ⟨4, b⟩ = ⟨4, b⟩ := by rw [clean_real _ rfl]; simp only [h]
theorem clean_yes (b : Bool) : clean (yesV b) = yesV b := clean_same _ (.inr (.inl ⟨rfl, by cases b <;> decide⟩))
theorem clean_intV (n : Int) : clean (intV n) = intV n := clean_same _ (.inl rfl)
theorem reals_clean (op : Int) (x y : V) : clean (realsV op x y) = realsV op x y := by
  unfold realsV
  repeat' split
  all_goals first | exact clean_four _ (flN_canon _ _ _) | exact clean_four _ (canon_canon _) | exact clean_yes _
theorem map_int_clean {o : Option Int} {v : V} (h : o.map intV = some v) : clean v = v := by
  obtain ⟨n, _, rfl⟩ := Option.map_eq_some_iff.1 h
  exact clean_intV n
theorem ints_clean {op : Int} {x y v : V} (h : intsV op x y = some v) : clean v = v := by
  unfold intsV at h
  split at h
  · injection h with h; subst h; exact clean_yes _
  split at h
  · injection h with h; subst h; exact clean_four _ (canon_canon _)
  split at h
  · injection h with h; subst h; exact clean_yes _
  split at h
  · exact map_int_clean h
  · exact map_int_clean h
theorem told_clean {t : Int} {v : V} (h : toldV t = some v) : clean v = v := by
  unfold toldV at h
  split at h
  · injection h with h; subst h; exact clean_yes _
  split at h
  · injection h with h; subst h; exact clean_yes _
  · cases h
theorem rest_clean {op : Int} {l : List V} {v : V} (h : restV op l = some v) : clean v = v := by
  unfold restV at h
  split at h
  · cases h
  split at h
  · split at h
    · injection h with h; subst h; exact reals_clean _ _ _
    · exact ints_clean h
  · split at h
    · injection h with h; subst h; exact reals_clean _ _ _
    · exact ints_clean h
  · cases h
theorem getD_clean {o : Option V} (h : ∀ v, o = some v → clean v = v) : clean (o.getD none0) = o.getD none0 := by
  cases o with
  | none => exact clean_none0
  | some v => exact h v rfl
theorem apply_clean (op : Int) (l : List V) : clean (applyV op l) = applyV op l := by
  unfold applyV
  split
  · split
    · exact getD_clean fun v h => told_clean h
    · exact getD_clean fun v h => rest_clean h
  · exact getD_clean fun v h => rest_clean h

theorem real_kind1 {op : Int} {x y : V} (h : oneK op 4 ≠ 0) : (realsV op x y).k = oneK op 4 := by
  have : op = 6 ∨ op = 17 := by
    by_cases h6 : op = 6
    · exact .inl h6
    by_cases h17 : op = 17
    · exact .inr h17
    exact absurd (by unfold oneK; rw [if_neg (by omega), if_neg (by omega), if_neg (by omega)]) h
  rcases this with rfl | rfl <;> rfl
theorem map_int_kind {o : Option Int} {v : V} (h : o.map intV = some v) : v.k = 1 := by
  obtain ⟨n, _, rfl⟩ := Option.map_eq_some_iff.1 h
  rfl
theorem int_kind1 {op k : Int} {x y v : V} (hk : k ≠ 4) (h : oneK op k ≠ 0) (e : intsV op x y = some v) : v.k = oneK op k := by
  by_cases h6 : op = 6
  · subst h6
    have h1 : k = 1 := by
      by_cases h1 : k = 1
      · exact h1
      · exact absurd (by unfold oneK; rw [if_neg (by omega), if_neg (by omega), if_neg (by omega)]) h
    subst h1
    exact map_int_kind e
  by_cases h15 : op = 15
  · subst h15
    have h1 : k = 2 := by
      by_cases h1 : k = 2
      · exact h1
      · exact absurd (by unfold oneK; rw [if_neg (by omega), if_neg (by omega), if_neg (by omega)]) h
    subst h1
    injection e with e; subst e; rfl
  by_cases h16 : op = 16
  · subst h16
    have h1 : k = 1 := by
      by_cases h1 : k = 1
      · exact h1
      · exact absurd (by unfold oneK; rw [if_neg (by omega), if_neg (by omega), if_neg (by omega)]) h
    subst h1
    injection e with e; subst e; rfl
  exact absurd (by unfold oneK; rw [if_neg (by omega), if_neg (by omega), if_neg (by omega)]) h
theorem real_kind2 {op : Int} {x y : V} (hop : ¬ (op = 13 ∨ op = 14)) (h : twoK op 4 ≠ 0) : (realsV op x y).k = twoK op 4 := by
  by_cases h4 : 1 ≤ op ∧ op ≤ 4
  · have e : twoK op 4 = 4 := by unfold twoK; rw [if_pos (.inl ⟨h4.1, h4.2, .inr rfl⟩)]
    rw [e]
    unfold realsV
    split
    · rfl
    split
    · rfl
    split
    · rfl
    split
    · rfl
    · omega
  by_cases h7 : 7 ≤ op ∧ op ≤ 12
  · have e : twoK op 4 = 2 := by unfold twoK; rw [if_neg (by omega), if_pos (by omega)]
    rw [e]
    unfold realsV
    rw [if_neg (by omega), if_neg (by omega), if_neg (by omega), if_neg (by omega), if_neg (by omega), if_neg (by omega)]
    rfl
  exact absurd (by unfold twoK; rw [if_neg (by omega), if_neg (by omega)]) h
theorem int_kind2 {op k : Int} {x y v : V} (hop : ¬ (op = 13 ∨ op = 14)) (hk : k ≠ 4) (h : twoK op k ≠ 0) (e : intsV op x y = some v) : v.k = twoK op k := by
  by_cases h7 : 7 ≤ op ∧ op ≤ 12
  · have e2 : twoK op k = 2 := by
      by_cases hc : ((op = 7 ∨ op = 8) ∧ 1 ≤ k ∧ k ≤ 4) ∨ (9 ≤ op ∧ op ≤ 12 ∧ (k = 1 ∨ k = 4)) ∨ ((op = 13 ∨ op = 14) ∧ k = 2)
      · unfold twoK; rw [if_neg (by omega), if_pos hc]
      · exact absurd (by unfold twoK; rw [if_neg (by omega), if_neg hc]) h
    rw [e2]
    unfold intsV at e
    rw [if_neg (by omega), if_neg (by omega), if_pos h7] at e
    injection e with e; subst e; rfl
  by_cases h5 : 1 ≤ op ∧ op ≤ 5 ∧ k = 1
  · have e2 : twoK op k = 1 := by unfold twoK; rw [if_pos (by omega)]; exact h5.2.2
    rw [e2]
    unfold intsV at e
    rw [if_neg (by omega), if_neg (by omega), if_neg h7, if_neg (by omega)] at e
    exact map_int_kind e
  exact absurd (by unfold twoK; rw [if_neg (by omega), if_neg (by omega)]) h
/-- The kind of what Apply makes. -/
theorem rest_kind {op : Int} {l : List V} {v : V} (hop : ¬ ((op = 13 ∨ op = 14) ∧ l.length = 2)) (h : restV op l = some v) : v.k = resK op (l.map fun x => (clean x).k) := by
  unfold restV at h
  split at h
  · cases h
  rename_i hk
  split at h
  · rename_i x
    have hk : oneK op (clean x).k ≠ 0 := hk
    show v.k = oneK op (clean x).k
    split at h
    · rename_i h4
      injection h with h; subst h
      rw [h4] at hk ⊢
      exact real_kind1 hk
    · rename_i h4
      exact int_kind1 h4 hk h
  · rename_i x y
    have hop : ¬ (op = 13 ∨ op = 14) := fun h => hop ⟨h, rfl⟩
    have hk : (if (clean x).k = (clean y).k then twoK op (clean x).k else 0) ≠ 0 := hk
    show v.k = if (clean x).k = (clean y).k then twoK op (clean x).k else 0
    by_cases he : (clean x).k = (clean y).k
    · rw [if_pos he] at hk ⊢
      split at h
      · rename_i h4
        injection h with h; subst h
        rw [h4] at hk ⊢
        exact real_kind2 hop hk
      · rename_i h4
        exact int_kind2 hop h4 hk h
    · rw [if_neg he] at hk; exact absurd rfl hk
  · cases h
theorem told_kind {t : Int} {v : V} (h : toldV t = some v) : v.k = 2 := by
  unfold toldV at h
  split at h
  · injection h with h; subst h; rfl
  split at h
  · injection h with h; subst h; rfl
  · cases h
theorem apply_kind_logic {op : Int} {l : List V} (hop : (op = 13 ∨ op = 14) ∧ l.length = 2) : (applyV op l).k = 2 ∨ (applyV op l).k = 0 := by
  match l, hop.2 with
  | [x, y], _ =>
    rw [show applyV op [x, y] = (logicV op x y).getD none0 from if_pos hop.1]
    cases h : logicV op x y with
    | none => exact .inr rfl
    | some v => exact .inl (told_kind h)
theorem apply_rest {op : Int} {l : List V} (hop : ¬ ((op = 13 ∨ op = 14) ∧ l.length = 2)) : applyV op l = (restV op l).getD none0 := by
  match l with
  | [] => rfl
  | [_] => rfl
  | [x, y] => exact if_neg fun h => hop ⟨h, rfl⟩
  | _ :: _ :: _ :: _ => rfl
theorem apply_kind {op : Int} {l : List V} (hop : ¬ ((op = 13 ∨ op = 14) ∧ l.length = 2)) : (applyV op l).k = 0 ∨ (applyV op l).k = resK op (l.map fun x => (clean x).k) := by
  rw [apply_rest hop]
  cases h : restV op l with
  | none => exact .inl rfl
  | some v => exact .inr (rest_kind hop h)
theorem fitI_fits {o : Option V} (h : ∀ v, o = some v → v.fits) : (o.getD none0).fits := by
  cases o with
  | none => exact fits0
  | some v => exact h v rfl
theorem reals_fits (op : Int) (x y : V) (hx : x.fits) : (realsV op x y).fits := by
  unfold realsV
  repeat' split
  all_goals first | exact flN_lt _ _ _ | exact canonN_lt _ (negN_lt _ (canonN_lt _ hx)) | exact yes_fits _
theorem map_int_fits {o : Option Int} {v : V} (h : o.map intV = some v) : v.fits := by
  obtain ⟨n, _, rfl⟩ := Option.map_eq_some_iff.1 h
  exact un_lt n
theorem ofInt_lt (n : Int) : ofInt n < 18446744073709551616 := canonN_lt _ (by have := floatOfInt_wf .f64 n; simpa [Lit.wf] using this)
theorem ints_fits {op : Int} {x y v : V} (h : intsV op x y = some v) : v.fits := by
  unfold intsV at h
  split at h
  · injection h with h; subst h; exact yes_fits _
  split at h
  · injection h with h; subst h; exact ofInt_lt _
  split at h
  · injection h with h; subst h; exact yes_fits _
  split at h
  · exact map_int_fits h
  · exact map_int_fits h
theorem told_fits {t : Int} {v : V} (h : toldV t = some v) : v.fits := by
  unfold toldV at h
  split at h
  · injection h with h; subst h; exact yes_fits _
  split at h
  · injection h with h; subst h; exact yes_fits _
  · cases h
theorem rest_fits {op : Int} {l : List V} {v : V} (hf : ∀ x ∈ l, x.fits) (h : restV op l = some v) : v.fits := by
  unfold restV at h
  split at h
  · cases h
  split at h
  · split at h
    · injection h with h; subst h; exact reals_fits _ _ _ (clean_fits _ (hf _ (by simp)))
    · exact ints_fits h
  · split at h
    · injection h with h; subst h; exact reals_fits _ _ _ (clean_fits _ (hf _ (by simp)))
    · exact ints_fits h
  · cases h
theorem apply_fits (op : Int) (l : List V) (hf : ∀ x ∈ l, x.fits) : (applyV op l).fits := by
  unfold applyV
  split
  · split
    · exact fitI_fits fun v h => told_fits h
    · exact fitI_fits fun v h => rest_fits hf h
  · exact fitI_fits fun v h => rest_fits hf h
end Go.Proofs.Ytadblgfppnpamaa
