/- Regions whose last operations write what the first ones read. Plain. -/
import Derived.Test.YtadblgfppnpamaaRegO
namespace Go.Proofs.Ytadblgfppnpamaa
open Go.RowKit
/-- No one of the first n operations writes slot d. -/
def outerN (ops : Array Oper) (n d : Nat) : Bool := (List.range n).all fun k => (ops[k]?).bind (·.dst) != some d
theorem outers_okN {ops : Array Oper} {n : Nat} {a0 a : Act} (h : ∀ d : Tmp, (∀ k : Nat, k < n → (ops[k]?).bind (·.dst) ≠ some d) → a.tmps[d]? = a0.tmps[d]?) : ∀ (l : List Nat), l.all (outerN ops n) = true → Outers ops a0 a l
  | [], _ => trivial
  | d :: l, hl => by
    simp only [List.all_cons, Bool.and_eq_true] at hl
    refine ⟨h d (fun k hk => ?_), outers_okN h l hl.2⟩
    have := List.all_eq_true.1 hl.1 k (List.mem_range.2 hk)
    simpa using this
section
variable {P : Program} {Q : Exit → Act → World → Prop} {ops : Array Oper} {n : Nat} {Fr : Nat → Bool} {a0 : Act} {W : World} {R : Nat → Spec} {k : Nat} {o : Oper}
theorem BOk.consN {rest : List Oper} (ho : ops[k]? = some o) (l ds : List Nat) (hfr : Fr k = false) (hg : o.guard = none) (hl : (l.all fun j => decide (j < n) && waits ops k j) = true) (hds : ds.all (outerN ops n) = true)
    (h : ∀ (K : Act → World → Prop) (a : Act) (w : World), Below W.heap.size W w → Outers ops a0 a ds → Facts ops (fun k v w => (R k).holds v w) a w l → (∀ v w', Below w.heap.size w w' → (R k).holds v w' → K (a.put o.dst v) w') → o.wp P a w K Q)
    (hr : BOk P Q ops n Fr a0 W R (k + 1) rest) : BOk P Q ops n Fr a0 W R k (o :: rest) := by
  refine ⟨fun K L a w hi hA hK => ?_, hr⟩
  rw [if_pos (by unfold Region.wanted; rw [hg])]
  exact h K a w hi.s (outers_okN hi.old ds hds) (facts_ok hi ho hA hl) (fun v w' h1 h2 => hK v w' h1 h2 (fun h => by rw [hfr] at h; cases h))
/-- A region in the text's order: its first n operations by the same steps, then the walk goes on. -/
theorem wp_region_st {id : Nat} {a0 : Act} {W : World} (n : Nat) (R : Nat → Spec) (hf : (fitOps ops a0.tmps.size && decide (n ≤ ops.size)) = true)
    (hall : AllOk P Q ops n (fun _ => false) a0 (fun w => Below W.heap.size W w) (fun k v w => (R k).holds v w) (fun w w' => Below w.heap.size w w') 0 (ops.toList.take n))
    (hend : ∀ (vals : List Value) (w : World), vals.length = n → Below W.heap.size W w → (∀ k v, vals[k]? = some v → (R k).holds v w) → wpList P ops Q (ops.toList.drop n) (putAll (ops.toList.take n) vals a0) w) :
    (Code.region id ops false).wp P Q a0 W := by
  simp only [Bool.and_eq_true, decide_eq_true_eq] at hf
  obtain ⟨hf, hn⟩ := hf
  have main : ∀ (g m : Nat) (a : Act) (w : World), m + g = n → RInv ops n (fun _ => false) a0 (fun w => Below W.heap.size W w) (fun k v w => (R k).holds v w) (fun k => decide (k < m)) a w → wpOps P ops Q (List.range' m (g + (ops.size - n))) a w := by
    intro g
    induction g with
    | zero =>
      intro m a w hm hi
      have hm : m = n := by omega
      subst hm
      rw [Nat.zero_add]
      obtain ⟨vals, hl, hv⟩ := vals_of (ops := ops) (a := a) (w := w) (R := fun k v w => (R k).holds v w) m fun k hk => hi.got k hk (by simpa using hk)
      have hto : ∀ k : Nat, ((ops.toList.take m)[k]?).bind (·.dst) = if k < m then (ops[k]?).bind (·.dst) else none := by
        intro k
        by_cases hk : k < m
        · rw [if_pos hk, List.getElem?_take_of_lt hk, Array.getElem?_toList]
        · rw [if_neg hk, List.getElem?_eq_none (by simp; omega)]; rfl
      have : a = putAll (ops.toList.take m) vals a0 := by
        obtain ⟨tm, df⟩ := a
        have h1 : tm = (putAll (ops.toList.take m) vals a0).tmps := by
          apply Array.ext_getElem?
          intro d
          by_cases hd : ∃ k : Nat, k < m ∧ (ops[k]?).bind (·.dst) = some d
          · obtain ⟨k, hkn, hk⟩ := hd
            have hg : vals[k]? = some vals[k] := List.getElem?_eq_getElem (by omega)
            have h2 := (hv k _ hg).1
            unfold inSlot at h2
            rw [hk] at h2
            simp only at h2
            rw [h2]
            symm
            refine putAll_at _ _ _ k (by rw [hto, if_pos hkn]; exact hk) hg (fun j hj => ?_) (fit_lt hf (i := k) hk)
            rw [hto]
            split
            · exact fit_ne hf (i := k) (j := j) hj (d := d) hk
            · simp
          · have hd : ∀ k : Nat, k < m → (ops[k]?).bind (·.dst) ≠ some d := fun k hkn hk => hd ⟨k, hkn, hk⟩
            rw [putAll_other _ _ _ (fun k => by
              rw [hto]
              split
              · rename_i h; exact hd k h
              · simp)]
            exact hi.old d hd
        have h2 : df = (putAll (ops.toList.take m) vals a0).defers := by rw [putAll_defers]; exact hi.defers
        rw [h1, h2]
      have hlen : (ops.toList.drop m).length = ops.size - m := by simp
      rw [← hlen, wpOps_eq_wpList (ops.toList.drop m) m (by intro j; simp [List.getElem?_drop])]
      rw [this]
      exact hend vals w hl hi.s (fun k v h => (hv k v h).2)
    | succ g ih =>
      intro m a w hm hi
      have hlt : m < ops.size := by omega
      have ho : ops[m]? = some ops[m] := Array.getElem?_eq_getElem hlt
      rw [show g + 1 + (ops.size - n) = (g + (ops.size - n)) + 1 by omega, List.range'_succ, wpOps_cons]
      have hA : ∀ e ∈ ops[m].after, Region.binds .any e = true → decide (e.on < m) = true := fun e he hb => decide_eq_true (fit_back hf ho he hb)
      have hs := hall.get (i := m) (o := ops[m]) (by rw [List.getElem?_take_of_lt (by omega), Array.getElem?_toList]; exact ho)
      rw [Nat.zero_add] at hs
      have next : ∀ v w', Below w.heap.size w w' → (R m).holds v w' → wpOps P ops Q (List.range' (m + 1) (g + (ops.size - n))) (ops[m].dst |> a.put <| v) w' := by
        intro v w' hT hR
        refine ih (m + 1) _ w' (by omega) ?_
        exact RInv.next (S := fun w => Below W.heap.size W w) (R := fun k v w => (R k).holds v w) (T := fun w w' => Below w.heap.size w w') (L' := fun k => decide (k < m + 1)) hf (fun w w' h1 h2 => h1.trans (h2.mono h1.size)) (fun k v w w' _ h2 h3 => (R k).keep h2 h3) (fun w w' h => h.size) hi (by omega) ho hA
          (fun k hk hx => by simp only [decide_eq_true_eq] at hx ⊢; omega) (fun k hx => by simp only [decide_eq_true_eq] at hx ⊢; omega) hT hR (fun h => by cases h)
      have := hs (wpOps P ops Q (List.range' (m + 1) (g + (ops.size - n)))) _ a w hi hA (fun v w' h1 h2 _ => next v w' h1 h2)
      unfold wpOp
      rw [ho]
      simp only
      split
      · rename_i hw
        rw [if_pos hw] at this
        exact .inl this
      · rename_i hw
        rw [if_neg hw] at this
        exact this
  refine wp_region ?_
  rw [List.range_eq_range']
  have e : ops.size = n + (ops.size - n) := by omega
  rw [e]
  refine main n 0 a0 W (by omega) ⟨Below.refl _ _, rfl, rfl, fun _ _ => rfl, ?_, ?_, ?_, ?_⟩
  · intro k _ hk
    simp at hk
  · intro k o _ hk
    simp at hk
  · intro k _ hk
    simp at hk
  · intro j k _ _ _ hk
    simp at hk
end
end Go.Proofs.Ytadblgfppnpamaa
