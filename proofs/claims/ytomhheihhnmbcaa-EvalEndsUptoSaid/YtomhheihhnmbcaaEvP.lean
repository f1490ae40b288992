/- Layer 9, plain: the program's aggregate is the document's, on clean values. No conditions. -/
import Derived.Test.YtomhheihhnmbcaaEvE
namespace Go.Proofs.Ytomhheihhnmbcaa
open Go.RowKit
set_option linter.unusedVariables false
set_option linter.unusedSimpArgs false

/-- An aggregate, as the program makes it. -/
def aggV (op : Int) : List V → V
  | [] => none0
  | x :: l =>
    if op = 27 then (x :: l).getLast (by simp) else if op = 28 then sumV (x :: l)
    else if op = 29 ∨ op = 30 then (if x.k ≠ 1 ∧ x.k ≠ 4 then none0 else l.foldl (fun a b => pickV a b (decide (op = 30))) x)
    else if op = 31 then applyV 4 [sumV (x :: l), applyV 16 [intV (x :: l).length]] else x
/-- An aggregate, as the document makes it. -/
def overV (op : Int) : List V → V
  | [] => none0
  | x :: l =>
    if op = 27 then (x :: l).getLast (by simp) else if op = 28 then sumV (x :: l)
    else if op = 29 ∨ op = 30 then endV (decide (op = 30)) (x :: l)
    else if op = 31 then applyV 4 [sumV (x :: l), applyV 16 [intV (x :: l).length]] else x

theorem aggV_cons (op : Int) (x : V) (l : List V) : aggV op (x :: l) = if op = 27 then (x :: l).getLast (by simp) else if op = 28 then sumV (x :: l)
    else if op = 29 ∨ op = 30 then (if x.k ≠ 1 ∧ x.k ≠ 4 then none0 else l.foldl (fun a b => pickV a b (decide (op = 30))) x)
    else if op = 31 then applyV 4 [sumV (x :: l), applyV 16 [intV (x :: l).length]] else x := rfl
theorem overV_cons (op : Int) (x : V) (l : List V) : overV op (x :: l) = if op = 27 then (x :: l).getLast (by simp) else if op = 28 then sumV (x :: l)
    else if op = 29 ∨ op = 30 then endV (decide (op = 30)) (x :: l)
    else if op = 31 then applyV 4 [sumV (x :: l), applyV 16 [intV (x :: l).length]] else x := rfl
theorem ord_eq {a b : Nat} (ha : a < 18446744073709551616) (hb : b < 18446744073709551616) (ca : canonN a = a) (cb : canonN b = b) : (ordN a b = 0 ↔ a = b) ∧ (0 < ordN a b ↔ rankN b < rankN a) ∧ (ordN a b < 0 ↔ rankN a < rankN b) := by
  unfold ordN
  rw [ca, cb]
  unfold cmpI rankN
  refine ⟨?_, ?_, ?_⟩ <;> repeat' split
  all_goals omega
theorem rank_inj {a b : Nat} (ha : a < 18446744073709551616) (hb : b < 18446744073709551616) (h : rankN a = rankN b) : a = b := by
  unfold rankN at h
  split at h <;> split at h <;> omega
theorem nan_top {a : Nat} {b : Nat} (ha : a < 18446744073709551616) (hn : nanN a = false) : rankN a < rankN nanC := by
  unfold nanN at hn
  have h := of_decide_eq_false hn
  unfold rankN nanC
  split <;> split <;> omega
theorem canon_self {a : Nat} (ca : canonN a = a) (h : nanN a = true) : a = nanC := by
  rw [← ca, canon_nan _ h]; rfl
theorem nan_nanC : nanN nanC = true := by decide
theorem nan_ne {a : Nat} (h : nanN a = false) : a ≠ nanC := by rintro rfl; rw [nan_nanC] at h; cases h

theorem pick_real_eq {a b : Nat} (most : Bool) (ha : a < 18446744073709551616) (hb : b < 18446744073709551616) (ca : canonN a = a) (cb : canonN b = b) :
    (if most = true then pmaxN a b else pminN a b) = rpickN a b most := by
  obtain ⟨o0, o1, o2⟩ := ord_eq ha hb ca cb
  cases na : nanN a
  · cases nb : nanN b
    · have e : rpickN a b most = if decide (0 < ordN a b) = most then a else b := if_neg (by simp [na, nb])
      rw [e]
      cases most
      · rw [if_neg (by simp)]
        unfold pminN
        rw [ca, cb, if_neg (fun h => h.elim (nan_ne na) (nan_ne nb))]
        by_cases hz : 0 < ordN a b
        · rw [if_neg (by omega), if_neg (by simp [hz])]
        · rw [if_pos (by omega), if_pos (by simp [hz])]
      · rw [if_pos rfl]
        unfold pmaxN
        rw [ca, cb]
        by_cases hz : 0 < ordN a b
        · rw [if_pos (by omega), if_pos (by simp [hz])]
        · rw [if_neg (show ¬ decide (0 < ordN a b) = true by simp [hz])]
          split
          · exact o0.1 (by omega)
          · rfl
    · have e : rpickN a b most = nanC := if_pos (.inr nb)
      rw [e]
      have hb2 := canon_self cb nb
      subst hb2
      cases most
      · rw [if_neg (by simp)]
        unfold pminN
        rw [if_pos (.inr cb)]
      · rw [if_pos rfl]
        unfold pmaxN
        rw [ca, cb]
        have := nan_top (b := 0) ha na
        rw [if_neg (by have := o2.2 this; omega)]
  · have e : rpickN a b most = nanC := if_pos (.inl na)
    rw [e]
    have ha2 := canon_self ca na
    subst ha2
    cases most
    · rw [if_neg (by simp)]
      unfold pminN
      rw [if_pos (.inl ca)]
    · rw [if_pos rfl]
      unfold pmaxN
      rw [ca, cb]
      split
      · rfl
      · rename_i h
        cases nb : nanN b
        · have := nan_top (b := b) hb nb
          have := o1.2 this
          omega
        · exact canon_self cb nb

theorem clean_canon {a : V} (h : clean a = a) (h4 : a.k = 4) : canonN a.b = a.b := by
  rw [clean_real _ h4] at h
  exact congrArg V.b h
theorem wrap_inj {a b : Nat} (ha : a < 18446744073709551616) (hb : b < 18446744073709551616) (h : wrap64 a = wrap64 b) : a = b := by
  unfold wrap64 at h; omega
theorem V.same {a b : V} (hk : a.k = b.k) (hb : a.b = b.b) : a = b := by
  obtain ⟨k, x⟩ := a; obtain ⟨k', x'⟩ := b; simp only at hk hb; subst hk; subst hb; rfl
theorem pick_end {a b : V} (most : Bool) (fa : a.fits) (fb : b.fits) (ca : clean a = a) (cb : clean b = b) (hk : a.k = b.k) (h : b.k = 1 ∨ b.k = 4) : pickV a b most = endStep most a b := by
  unfold pickV endStep
  rw [if_neg (by simp [hk])]
  rcases h with h | h
  · rw [if_pos (show a.k = 1 by omega), if_neg (show ¬ b.k = 4 by omega)]
    cases most
    · simp only [Bool.false_eq_true, if_false, decide_eq_true_eq, decide_eq_false_iff_not]
      split <;> (try split) <;> first | rfl | omega
    · simp only [if_true, decide_eq_true_eq]
      split <;> split
      · omega
      · rfl
      · rfl
      · exact V.same (by omega) (wrap_inj fb fa (by omega))
  · rw [if_neg (show ¬ a.k = 1 by omega), if_pos (show a.k = 4 by omega), if_pos h, pick_real_eq most fa fb (clean_canon ca (by omega)) (clean_canon cb h)]
    exact V.same (show (4 : Int) = a.k by omega) rfl
theorem pickV_clean {a b : V} (most : Bool) (ca : clean a = a) (cb : clean b = b) : clean (pickV a b most) = pickV a b most := by
  unfold pickV
  split
  · exact clean_none0
  split
  · split <;> assumption
  split
  · refine clean_four _ ?_
    unfold pmaxN pminN
    split
    · split <;> exact canon_canon _
    · split
      · exact canon_nan _ nan_nanC
      · split <;> exact canon_canon _
  · exact clean_none0
theorem pickV_none (b : V) (most : Bool) : pickV none0 b most = none0 := by
  unfold pickV
  split
  · rfl
  rw [if_neg (by simp [none0]), if_neg (by simp [none0])]
theorem pickV_k {a b : V} (most : Bool) (h : a.k = b.k) (hk : b.k = 1 ∨ b.k = 4) : (pickV a b most).k = b.k := by
  unfold pickV
  rw [if_neg (by simp [h])]
  split
  · split <;> simp [h]
  · rw [if_pos (show a.k = 4 by omega)]; simp only; omega
theorem fold_none (most : Bool) : ∀ l : List V, l.foldl (fun a b => pickV a b most) none0 = none0
  | [] => rfl
  | y :: l => by rw [List.foldl_cons, pickV_none]; exact fold_none most l

theorem fold_end (most : Bool) : ∀ (l : List V) (x : V), x.fits → clean x = x → (∀ y ∈ l, y.fits ∧ clean y = y) → (x.k = 1 ∨ x.k = 4) →
    l.foldl (fun a b => pickV a b most) x = if l.all (endOk x.k) = true then l.foldl (endStep most) x else none0
  | [], x, _, _, _, _ => by simp
  | y :: l, x, fx, cx, h, hk => by
    have hy := h y (by simp)
    rw [List.foldl_cons, List.foldl_cons]
    by_cases hky : x.k = y.k
    · have e := pick_end most fx hy.1 cx hy.2 hky (by omega)
      have hkp := pickV_k most hky (by omega)
      have fp : (pickV x y most).fits := by rw [e]; exact endStep_fits fx hy.1
      rw [fold_end most l _ fp (pickV_clean most cx hy.2) (fun z hz => h z (by simp [hz])) (by omega), hkp, e, ← hky]
      have eo : endOk x.k y = true := by unfold endOk; simp; omega
      simp only [List.all_cons, eo, Bool.true_and]
    · have e : pickV x y most = none0 := by unfold pickV; rw [if_pos hky]
      have eo : endOk x.k y = false := by unfold endOk; simp; omega
      rw [e, fold_none]
      simp only [List.all_cons, eo, Bool.false_and, Bool.false_eq_true, if_false]

theorem rpick_self {a : Nat} (most : Bool) (ca : canonN a = a) : rpickN a a most = a := by
  unfold rpickN
  split
  · rename_i h
    have : nanN a = true := by rcases h with h | h <;> exact h
    exact (canon_self ca this).symm
  · split <;> rfl
theorem endStep_self {x : V} (most : Bool) (cx : clean x = x) : endStep most x x = x := by
  unfold endStep
  split
  · rename_i h
    rw [rpick_self most (clean_canon cx h)]
  · split <;> split <;> rfl
theorem agg_over (op : Int) (l : List V) (h : ∀ y ∈ l, y.fits ∧ clean y = y) : aggV op l = overV op l := by
  match l, h with
  | [], _ => rfl
  | x :: l, h =>
    rw [aggV_cons, overV_cons]
    by_cases h7 : op = 27
    · rw [if_pos h7, if_pos h7]
    rw [if_neg h7, if_neg h7]
    by_cases h8 : op = 28
    · rw [if_pos h8, if_pos h8]
    rw [if_neg h8, if_neg h8]
    by_cases h9 : op = 29 ∨ op = 30
    · rw [if_pos h9, if_pos h9, endV_cons]
      have hx := h x (by simp)
      generalize decide (op = 30) = most
      by_cases hk : x.k = 1 ∨ x.k = 4
      · rw [if_neg (show ¬ (x.k ≠ 1 ∧ x.k ≠ 4) by omega), fold_end most l x hx.1 hx.2 (fun y hy => h y (by simp [hy])) hk]
        have eo : endOk x.k x = true := by unfold endOk; simp; omega
        rw [List.foldl_cons, endStep_self most hx.2]
        simp only [List.all_cons, eo, Bool.true_and]
      · have eo : endOk x.k x = false := by unfold endOk; simp; omega
        rw [if_pos (show x.k ≠ 1 ∧ x.k ≠ 4 by omega)]
        simp only [List.all_cons, eo, Bool.false_and, Bool.false_eq_true, if_false]
    · rw [if_neg h9, if_neg h9]
end Go.Proofs.Ytomhheihhnmbcaa
