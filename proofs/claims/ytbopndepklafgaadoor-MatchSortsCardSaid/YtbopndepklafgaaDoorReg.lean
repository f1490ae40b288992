/- A region whose order is open, walked once for each of its operations: an invariant in the place of its orders. Plain. -/
import Derived.Test.YtbopndepklafgaaDoorMem
import Derived.Orders
namespace Go.Proofs.YtbopndepklafgaaDoor
open Go.RowKit

section
variable {P : Program} {ops : Array Oper} {Q : Exit → Act → World → Prop}

/-- The value v lies in the slot of operation j. -/
def inSlot (ops : Array Oper) (a : Act) (j : Nat) (v : Value) : Prop :=
  match (ops[j]?).bind (·.dst) with
  | some d => a.tmps[d]? = some v
  | none => True

def blockOf : Value → Option Nat
  | .pointer (some a) => some a.block
  | .slice (some a) _ _ => some a.block
  | _ => none

/-- What holds of a state inside the region, ahead of its operation n: R is what each operation leaves in its slot; those of Fr make memory of their own. -/
structure RInv (ops : Array Oper) (n : Nat) (Fr : Nat → Bool) (a0 : Act) (S : World → Prop) (R : Nat → Value → World → Prop) (L : Nat → Bool) (a : Act) (w : World) : Prop where
  s : S w
  defers : a.defers = a0.defers
  size : a.tmps.size = a0.tmps.size
  old : ∀ d : Tmp, (∀ k : Nat, k < n → (ops[k]?).bind (·.dst) ≠ some d) → a.tmps[d]? = a0.tmps[d]?
  got : ∀ k : Nat, k < n → L k = true → ∃ v, inSlot ops a k v ∧ R k v w
  closed : ∀ (k : Nat) (o : Oper), ops[k]? = some o → L k = true → ∀ e ∈ o.after, Region.binds .any e = true → L e.on = true
  fresh : ∀ k : Nat, k < n → L k = true → Fr k = true → ∀ v, inSlot ops a k v → ∃ g, blockOf v = some g ∧ g < w.heap.size
  apart : ∀ j k : Nat, j < n → k < n → j ≠ k → L j = true → L k = true → Fr j = true → Fr k = true → ∀ u v, inSlot ops a j u → inSlot ops a k v → blockOf u ≠ blockOf v

def dstOf (ops : Array Oper) (k : Nat) : Option Tmp := (ops[k]?).bind (·.dst)
/-- Each slot is written once, and lies in the frame; each operation waits only for those ahead of it in the text. -/
def fitOps (ops : Array Oper) (n : Nat) : Bool :=
  (List.range ops.size).all fun i =>
    (match dstOf ops i with
     | none => true
     | some d => decide (d < n) && (List.range i).all fun j => dstOf ops j != some d) &&
    (match ops[i]? with
     | none => true
     | some o => o.after.all fun e => !Region.binds .any e || decide (e.on < i))

theorem fit_lt {n : Nat} (h : fitOps ops n = true) {i d : Nat} (hd : dstOf ops i = some d) : d < n := by
  have hi : i < ops.size := by
    unfold dstOf at hd
    rcases Nat.lt_or_ge i ops.size with h | h
    · exact h
    · rw [Array.getElem?_eq_none h] at hd; cases hd
  have := List.all_eq_true.1 h i (List.mem_range.2 hi)
  simp only [hd, Bool.and_eq_true, decide_eq_true_eq] at this
  exact this.1.1
theorem fit_lt' {n : Nat} (h : fitOps ops n = true) {i j d : Nat} (hij : j < i) (hd : dstOf ops i = some d) : dstOf ops j ≠ some d := by
  have hi : i < ops.size := by
    unfold dstOf at hd
    rcases Nat.lt_or_ge i ops.size with h | h
    · exact h
    · rw [Array.getElem?_eq_none h] at hd; cases hd
  have := List.all_eq_true.1 h i (List.mem_range.2 hi)
  simp only [hd, Bool.and_eq_true] at this
  have := List.all_eq_true.1 this.1.2 j (List.mem_range.2 hij)
  simpa using this
theorem fit_ne {n : Nat} (h : fitOps ops n = true) {i j d : Nat} (hij : i ≠ j) (hd : dstOf ops i = some d) : dstOf ops j ≠ some d := by
  rcases Nat.lt_or_ge i j with hl | hl
  · intro he
    exact fit_lt' h hl he hd
  · exact fit_lt' h (by omega) hd
theorem fit_back {n : Nat} (h : fitOps ops n = true) {i : Nat} {o : Oper} (ho : ops[i]? = some o) {e : Edge} (he : e ∈ o.after) (hb : Region.binds .any e = true) : e.on < i := by
  have hi : i < ops.size := (Array.getElem?_eq_some_iff.1 ho).1
  have := List.all_eq_true.1 h i (List.mem_range.2 hi)
  simp only [ho, Bool.and_eq_true] at this
  have h2 := this.2
  rw [Array.all_eq_true'] at h2
  have := h2 e he
  simpa [hb] using this

/-- One step. -/
def StepOk (P : Program) (Q : Exit → Act → World → Prop) (ops : Array Oper) (n : Nat) (Fr : Nat → Bool) (a0 : Act) (S : World → Prop) (R : Nat → Value → World → Prop) (T : World → World → Prop) (k : Nat) (o : Oper) : Prop :=
  ∀ (K : Act → World → Prop) (L : Nat → Bool) (a : Act) (w : World), RInv ops n Fr a0 S R L a w → (∀ e ∈ o.after, Region.binds .any e = true → L e.on = true) →
    (∀ v w', T w w' → R k v w' → (Fr k = true → o.dst.isSome = true ∧ ∃ g, blockOf v = some g ∧ w.heap.size ≤ g ∧ g < w'.heap.size) → K (a.put o.dst v) w') →
    if Region.wanted o (yielded ops a.tmps) = true then o.wp P a w K Q else K (a.put o.dst undef) w
def AllOk (P : Program) (Q : Exit → Act → World → Prop) (ops : Array Oper) (n : Nat) (Fr : Nat → Bool) (a0 : Act) (S : World → Prop) (R : Nat → Value → World → Prop) (T : World → World → Prop) : Nat → List Oper → Prop
  | _, [] => True
  | k, o :: l => StepOk P Q ops n Fr a0 S R T k o ∧ AllOk P Q ops n Fr a0 S R T (k + 1) l
theorem AllOk.get {n : Nat} {Fr : Nat → Bool} {a0 : Act} {S : World → Prop} {R : Nat → Value → World → Prop} {T : World → World → Prop} : ∀ {l : List Oper} {k i : Nat} {o : Oper}, AllOk P Q ops n Fr a0 S R T k l → l[i]? = some o → StepOk P Q ops n Fr a0 S R T (k + i) o
  | [], _, _, _, _, h => by simp at h
  | x :: l, k, 0, o, h, ho => by
    simp only [List.getElem?_cons_zero, Option.some.injEq] at ho
    subst ho; exact h.1
  | x :: l, k, i + 1, o, h, ho => by
    simp only [List.getElem?_cons_succ] at ho
    have := h.2.get ho
    rwa [show k + 1 + i = k + (i + 1) by omega] at this

theorem put_slot {a : Act} {v : Value} {n : Nat} (hf : fitOps ops n = true) (hs : a.tmps.size = n) {k : Nat} {o : Oper} (ho : ops[k]? = some o) : inSlot ops (a.put o.dst v) k v := by
  unfold inSlot
  rw [ho, Option.bind_some]
  cases hd : o.dst with
  | none => trivial
  | some d =>
    have hlt : d < a.tmps.size := by rw [hs]; exact fit_lt hf (i := k) (by unfold dstOf; rw [ho]; exact hd)
    show (a.tmps.setIfInBounds d v)[d]? = some v
    simp [hlt]
theorem put_other {a : Act} {v u : Value} {n : Nat} (hf : fitOps ops n = true) {k j : Nat} {o : Oper} (ho : ops[k]? = some o) (hj : k ≠ j) (h : inSlot ops a j u) : inSlot ops (a.put o.dst v) j u := by
  unfold inSlot at h ⊢
  cases hd : o.dst with
  | none => exact h
  | some d =>
    have hne := fit_ne hf hj (d := d) (by unfold dstOf; rw [ho]; exact hd)
    unfold dstOf at hne
    cases hx : (ops[j]?).bind (·.dst) with
    | none => trivial
    | some d2 =>
      rw [hx] at h hne
      show (a.tmps.setIfInBounds d v)[d2]? = some u
      rw [Array.getElem?_setIfInBounds_ne (fun e => hne (by rw [e]))]
      exact h

/-! What an operation waits for, through others too: a mask. -/
def maskOf (acc : List Nat) (l : List Edge) : Nat := l.foldl (fun m e => if Region.binds .any e = true then m ||| (1 <<< e.on) ||| acc.getD e.on 0 else m) 0
def masks : List Nat → List Oper → List Nat
  | acc, [] => acc
  | acc, o :: os => masks (acc ++ [maskOf acc o.after.toList]) os
def waits (ops : Array Oper) (k j : Nat) : Bool := ((masks [] ops.toList).getD k 0).testBit j

theorem maskOf_bit {acc : List Nat} {j : Nat} : ∀ {l : List Edge} {m0 : Nat}, (l.foldl (fun m e => if Region.binds .any e = true then m ||| (1 <<< e.on) ||| acc.getD e.on 0 else m) m0).testBit j = true →
    m0.testBit j = true ∨ ∃ e ∈ l, Region.binds .any e = true ∧ (e.on = j ∨ (acc.getD e.on 0).testBit j = true)
  | [], m0, h => .inl h
  | e :: l, m0, h => by
    rw [List.foldl_cons] at h
    rcases maskOf_bit h with h | ⟨e2, h2, h3⟩
    · split at h
      · rename_i hb
        rw [Nat.testBit_or, Nat.testBit_or, Bool.or_eq_true, Bool.or_eq_true] at h
        rcases h with (h | h) | h
        · exact .inl h
        · refine .inr ⟨e, by simp, hb, .inl ?_⟩
          rw [Nat.one_shiftLeft, Nat.testBit_two_pow] at h
          simpa using h
        · exact .inr ⟨e, by simp, hb, .inr h⟩
      · exact .inl h
    · exact .inr ⟨e2, by simp [h2], h3⟩

/-- The masks are right. -/
def MasksOk (ops : Array Oper) (acc : List Nat) : Prop :=
  ∀ k j o, ops[k]? = some o → (acc.getD k 0).testBit j = true → ∀ L : Nat → Bool, (∀ k o, ops[k]? = some o → L k = true → ∀ e ∈ o.after, Region.binds .any e = true → L e.on = true) →
    (∀ e ∈ o.after, Region.binds .any e = true → L e.on = true) → L j = true
theorem masks_ok : ∀ (os : List Oper) (acc : List Nat), MasksOk ops acc → (∀ i, ops[acc.length + i]? = os[i]?) → MasksOk ops (masks acc os)
  | [], acc, h, _ => h
  | o :: os, acc, h, ho => by
    refine masks_ok os _ ?_ ?_
    · intro k j o2 hk hb L hL hA
      rcases Nat.lt_or_ge k acc.length with hlt | hge
      · have hb : (acc.getD k 0).testBit j = true := by
          have : (acc ++ [maskOf acc o.after.toList]).getD k 0 = acc.getD k 0 := by
            simp [List.getD, List.getElem?_append_left hlt]
          rwa [this] at hb
        exact h k j o2 hk hb L hL hA
      · by_cases he : k = acc.length
        · subst he
          have h0 := ho 0
          rw [Nat.add_zero, List.getElem?_cons_zero, hk] at h0
          injection h0 with h0
          subst h0
          have hb : (maskOf acc o2.after.toList).testBit j = true := by simpa [List.getD] using hb
          unfold maskOf at hb
          rcases maskOf_bit hb with h0 | ⟨e, he, hbe, hj⟩
          · simp at h0
          · have hLe := hA e (by simpa using he) hbe
            rcases hj with rfl | hj
            · exact hLe
            · cases hoe : ops[e.on]? with
              | none =>
                exfalso
                rcases Nat.lt_or_ge e.on acc.length with hq | hq
                · have hsz : e.on < ops.size := by
                    have hlt2 : acc.length < ops.size := (Array.getElem?_eq_some_iff.1 hk).1
                    omega
                  rw [Array.getElem?_eq_getElem hsz] at hoe
                  cases hoe
                · simp [List.getD, List.getElem?_eq_none hq] at hj
              | some oe => exact h e.on j oe hoe hj L hL (hL e.on oe hoe hLe)
        · have : (acc ++ [maskOf acc o.after.toList]).getD k 0 = 0 := by
            simp only [List.getD]
            rw [List.getElem?_eq_none (by simp; omega)]
            rfl
          rw [this] at hb
          simp at hb
    · intro i
      have := ho (i + 1)
      rw [List.getElem?_cons_succ] at this
      rw [← this]
      congr 1
      simp; omega
theorem waits_ok {k j : Nat} {o : Oper} (ho : ops[k]? = some o) (h : waits ops k j = true) {L : Nat → Bool} (hL : ∀ k o, ops[k]? = some o → L k = true → ∀ e ∈ o.after, Region.binds .any e = true → L e.on = true)
    (hA : ∀ e ∈ o.after, Region.binds .any e = true → L e.on = true) : L j = true := by
  refine masks_ok (ops := ops) ops.toList [] ?_ ?_ k j o ho h L hL hA
  · intro k j o _ hb
    simp [List.getD] at hb
  · intro i; simp

theorem getD_false_lt {listed : Array Bool} {i : Nat} (h : listed.getD i true = false) : i < listed.size ∧ listed[i]? = some false := by
  rw [Array.getD_eq_getD_getElem?] at h
  cases hx : listed[i]? with
  | none => rw [hx] at h; cases h
  | some b => rw [hx] at h; simp at h; subst h; exact ⟨(Array.getElem?_eq_some_iff.1 hx).1, rfl⟩

/-- From operation n on each waits for all ahead of it. -/
def lateOps (ops : Array Oper) (n : Nat) : Bool := (List.range ops.size).all fun k => decide (k < n) || (List.range k).all fun j => waits ops k j
theorem late_ok {n k j : Nat} {o : Oper} (h : lateOps ops n = true) (ho : ops[k]? = some o) (hn : n ≤ k) (hj : j < k) {L : Nat → Bool} (hL : ∀ (k : Nat) (o : Oper), ops[k]? = some o → L k = true → ∀ e ∈ o.after, Region.binds .any e = true → L e.on = true)
    (hA : ∀ e ∈ o.after, Region.binds .any e = true → L e.on = true) : L j = true := by
  have hk : k < ops.size := (Array.getElem?_eq_some_iff.1 ho).1
  have h1 := List.all_eq_true.1 h k (List.mem_range.2 hk)
  simp only [Bool.or_eq_true, decide_eq_true_eq] at h1
  have h2 := h1.resolve_left (by omega)
  exact waits_ok ho (List.all_eq_true.1 h2 j (List.mem_range.2 hj)) hL hA

/-- Once all ahead of the late operations are done, these come one by one. -/
theorem wpAny_seq {n z : Nat} (hf : fitOps ops z = true) (hlate : lateOps ops n = true) : ∀ (fuel m : Nat) (listed : Array Bool) (a : Act) (w : World), n ≤ m → m ≤ ops.size → ops.size - m ≤ fuel → listed.size = ops.size →
    (∀ j, j < m → listed.getD j false = true) → (∀ j, m ≤ j → listed.getD j false = false) → (∀ (k : Nat) (o : Oper), ops[k]? = some o → listed.getD k false = true → ∀ e ∈ o.after, Region.binds .any e = true → listed.getD e.on false = true) →
    wpOps P ops Q (List.range' m (ops.size - m)) a w → wpAny P .any ops Q fuel listed a w := by
  have noready : ∀ (listed : Array Bool), listed.size = ops.size → (∀ j, j < ops.size → listed.getD j false = true) → Region.ready .any ops listed = [] := by
    intro listed hz hall
    cases hr : Region.ready .any ops listed with
    | nil => rfl
    | cons i l =>
      exfalso
      have hi : i ∈ Region.ready .any ops listed := by rw [hr]; simp
      obtain ⟨h1, h2⟩ := getD_false_lt (mem_ready.1 hi).1
      have := hall i (by omega)
      rw [Array.getD_eq_getD_getElem?, h2] at this
      cases this
  intro fuel
  induction fuel with
  | zero =>
    intro m listed a w hnm hm hs hz h1 h2 hc h
    have hm' : m = ops.size := by omega
    subst hm'
    rw [Nat.sub_self] at h
    exact ⟨noready listed hz h1, h⟩
  | succ fuel ih =>
    intro m listed a w hnm hm hs hz h1 h2 hc h
    by_cases hm' : m = ops.size
    · subst hm'
      rw [Nat.sub_self] at h
      have hr := noready listed hz h1
      exact ⟨fun _ => h, by rw [hr]; simp⟩
    · have hlt : m < ops.size := by omega
      have hmem : m ∈ Region.ready .any ops listed := by
        rw [mem_ready]
        refine ⟨?_, ops[m], Array.getElem?_eq_getElem hlt, fun e he hb => h1 _ (fit_back hf (Array.getElem?_eq_getElem hlt) he hb)⟩
        have h0 := h2 m (Nat.le_refl _)
        rw [Array.getD_eq_getD_getElem?, Array.getElem?_eq_getElem (by omega : m < listed.size)] at h0 ⊢
        exact h0
      refine ⟨fun hr => by rw [hr] at hmem; (exact absurd hmem (by simp)), fun i hi => ?_⟩
      obtain ⟨hl, o, ho, hA⟩ := mem_ready.1 hi
      have him : i = m := by
        rcases Nat.lt_trichotomy i m with hx | hx | hx
        · have := h1 i hx
          obtain ⟨_, h3⟩ := getD_false_lt hl
          rw [Array.getD_eq_getD_getElem?, h3] at this
          cases this
        · exact hx
        · have := late_ok hlate ho (by omega) hx (L := fun k => listed.getD k false) hc hA
          rw [h2 m (Nat.le_refl _)] at this
          cases this
      subst him
      have e : ops.size - i = (ops.size - (i + 1)) + 1 := by omega
      rw [e, List.range'_succ, wpOps_cons] at h
      refine wpOp_mono (fun a' w' h' => ih (i + 1) _ a' w' (by omega) (by omega) (by omega) (by simpa using hz) ?_ ?_ ?_ h') h
      · intro j hj
        by_cases hij : i = j
        · subst hij
          rw [Array.getD_eq_getD_getElem?]
          simp [hz, hlt]
        · rw [getD_set_ne false hij]; exact h1 j (by omega)
      · intro j hj
        rw [getD_set_ne false (by omega)]; exact h2 j (by omega)
      · intro k o2 hk hL e he hb
        by_cases hki : i = k
        · subst hki
          rw [ho] at hk
          injection hk with hk
          subst hk
          exact getD_set_true (hA e he hb)
        · rw [getD_set_ne false hki] at hL
          exact getD_set_true (hc k o2 hk hL e he hb)

theorem RInv.next {n : Nat} {Fr : Nat → Bool} {a0 : Act} {S : World → Prop} {R : Nat → Value → World → Prop} {T : World → World → Prop} (hf : fitOps ops a0.tmps.size = true)
    (hST : ∀ w w', S w → T w w' → S w') (hRT : ∀ k v w w', S w → T w w' → R k v w → R k v w') (hTz : ∀ w w', T w w' → w.heap.size ≤ w'.heap.size)
    {L L' : Nat → Bool} {a : Act} {w : World} (hi : RInv ops n Fr a0 S R L a w) {i : Nat} {o : Oper} (hin : i < n) (ho : ops[i]? = some o) (hall2 : ∀ e ∈ o.after, Region.binds .any e = true → L e.on = true)
    (hL : ∀ k, i ≠ k → L' k = true → L k = true) (hL2 : ∀ k, L k = true → L' k = true)
    {v : Value} {w' : World} (hT : T w w') (hR : R i v w') (hF : Fr i = true → o.dst.isSome = true ∧ ∃ g, blockOf v = some g ∧ w.heap.size ≤ g ∧ g < w'.heap.size) : RInv ops n Fr a0 S R L' (a.put o.dst v) w' := by
  have hL0 := hL
  have slotI := put_slot (v := v) hf hi.size ho
  have uniq : Fr i = true → ∀ u, inSlot ops (a.put o.dst v) i u → u = v := by
    intro hFi u hu
    obtain ⟨hd, _⟩ := hF hFi
    unfold inSlot at hu slotI
    rw [ho, Option.bind_some] at hu slotI
    cases hx : o.dst with
    | none => rw [hx] at hd; cases hd
    | some d =>
      rw [hx] at hu slotI
      simp only at hu slotI
      rw [slotI] at hu
      injection hu with hu
      exact hu.symm
  have back : ∀ k u, i ≠ k → inSlot ops (a.put o.dst v) k u → inSlot ops a k u := by
    intro k u hik hu
    unfold inSlot at hu ⊢
    cases hx : (ops[k]?).bind (·.dst) with
    | none => trivial
    | some d =>
      rw [hx] at hu
      simp only at hu
      have hne := fit_ne hf (i := k) (j := i) (Ne.symm hik) (d := d) hx
      unfold dstOf at hne
      rw [ho, Option.bind_some] at hne
      cases hy : o.dst with
      | none => rw [hy] at hu; exact hu
      | some d2 =>
        rw [hy] at hu hne
        have hu : (a.tmps.setIfInBounds d2 v)[d]? = some u := hu
        rw [Array.getElem?_setIfInBounds_ne (fun e => hne (by rw [e]))] at hu
        exact hu
  refine ⟨hST _ _ hi.s hT, ?_, ?_, ?_, ?_, ?_, ?_, ?_⟩
  · rw [← hi.defers]; cases o.dst <;> rfl
  · rw [← hi.size]; cases o.dst <;> simp [Act.put]
  · intro d hd
    rw [← hi.old d hd]
    have := hd i hin
    rw [ho, Option.bind_some] at this
    cases hx : o.dst with
    | none => rfl
    | some d2 =>
      rw [hx] at this
      show (a.tmps.setIfInBounds d2 v)[d]? = a.tmps[d]?
      exact Array.getElem?_setIfInBounds_ne (fun e => this (by rw [e]))
  · intro k hk hL
    by_cases hki : i = k
    · subst hki
      exact ⟨v, slotI, hR⟩
    · have hL := hL0 k hki hL
      obtain ⟨u, h1, h2⟩ := hi.got k hk hL
      exact ⟨u, put_other hf ho hki h1, hRT k u w w' hi.s hT h2⟩
  · intro k o2 hk hL e he hb
    by_cases hki : i = k
    · subst hki
      rw [ho] at hk
      injection hk with hk
      subst hk
      exact hL2 _ (hall2 e he hb)
    · have hL := hL0 k hki hL
      exact hL2 _ (hi.closed k o2 hk hL e he hb)
  · intro k hk hL hFk u hu
    by_cases hki : i = k
    · subst hki
      obtain ⟨_, g, h1, _, h3⟩ := hF hFk
      rw [uniq hFk u hu]
      exact ⟨g, h1, h3⟩
    · have hL := hL0 k hki hL
      obtain ⟨g, h1, h2⟩ := hi.fresh k hk hL hFk u (back k u hki hu)
      exact ⟨g, h1, Nat.lt_of_lt_of_le h2 (hTz _ _ hT)⟩
  · have new : ∀ k, k < n → i ≠ k → L k = true → Fr i = true → Fr k = true → ∀ u, inSlot ops (a.put o.dst v) k u → blockOf v ≠ blockOf u := by
      intro k hk hik hL hFi hFk u hu
      obtain ⟨_, g, h1, h2, _⟩ := hF hFi
      obtain ⟨g2, h4, h5⟩ := hi.fresh k hk hL hFk u (back k u hik hu)
      rw [h1, h4]
      intro he
      injection he with he
      omega
    intro j k hj hk hjk hLj hLk hFj hFk u u2 hu hu2
    by_cases hij : i = j
    · subst hij
      have hLk := hL0 k hjk hLk
      rw [uniq hFj u hu]
      exact new k hk hjk hLk hFj hFk u2 hu2
    · have hLj := hL0 j hij hLj
      by_cases hik : i = k
      · subst hik
        rw [uniq hFk u2 hu2]
        exact (new j hj hij hLj hFk hFj u hu).symm
      · have hLk := hL0 k hik hLk
        exact hi.apart j k hj hk hjk hLj hLk hFj hFk u u2 (back j u hij hu) (back k u2 hik hu2)

theorem wpAny_inv {n : Nat} {Fr : Nat → Bool} {a0 : Act} {S : World → Prop} {R : Nat → Value → World → Prop} {T : World → World → Prop} (hn : n ≤ ops.size) (hf : fitOps ops a0.tmps.size = true) (hlate : lateOps ops n = true)
    (hST : ∀ w w', S w → T w w' → S w') (hRT : ∀ k v w w', S w → T w w' → R k v w → R k v w') (hTz : ∀ w w', T w w' → w.heap.size ≤ w'.heap.size)
    (hall : AllOk P Q ops n Fr a0 S R T 0 (ops.toList.take n))
    (hend : ∀ a w, (∀ L : Nat → Bool, (∀ k, k < n → L k = true) → RInv ops n Fr a0 S R L a w → wpOps P ops Q (List.range' n (ops.size - n)) a w)) :
    ∀ (fuel : Nat) (listed : Array Bool) (a : Act) (w : World), listed.size = ops.size → listed.toList.count false ≤ fuel → (∀ j, n ≤ j → listed.getD j false = false) → RInv ops n Fr a0 S R (fun k => listed.getD k false) a w → wpAny P .any ops Q fuel listed a w := by
  have enough : ∀ (listed : Array Bool) (m : Nat), listed.size = ops.size → (∀ j, m ≤ j → listed.getD j false = false) → m ≤ ops.size → ops.size - m ≤ listed.toList.count false := by
    intro listed m hz h hm
    have h1 : (listed.toList.drop m).count false = ops.size - m := by
      rw [List.count_eq_length.2]
      · simp [hz]
      · intro b hb
        obtain ⟨i, hi, rfl⟩ := List.mem_iff_getElem.1 hb
        have := h (m + i) (by omega)
        rw [List.length_drop, Array.length_toList] at hi
        rw [Array.getD_eq_getD_getElem?, Array.getElem?_eq_getElem (by omega)] at this
        simp only [List.getElem_drop, Array.getElem_toList]
        simpa using this.symm
    have h2 := List.Sublist.count_le false (List.drop_sublist m listed.toList)
    omega
  intro fuel
  induction fuel with
  | zero =>
    intro listed a w hz hc hl hi
    have hlen := enough listed n hz hl hn
    have hall1 : ∀ k, k < n → listed.getD k false = true := by
      intro k hk
      have hlt : k < listed.size := by omega
      rw [Array.getD_eq_getD_getElem?, Array.getElem?_eq_getElem hlt]
      have : false ∉ listed.toList := List.count_eq_zero.1 (by omega)
      cases hx : listed[k] with
      | true => rfl
      | false => exact absurd (by rw [← hx]; simp) this
    exact wpAny_seq hf hlate 0 n listed a w (Nat.le_refl _) hn (by omega) hz hall1 hl hi.closed (hend a w _ hall1 hi)
  | succ fuel ih =>
    intro listed a w hz hc hl hi
    by_cases hall1 : ∀ k, k < n → listed.getD k false = true
    · exact wpAny_seq hf hlate (fuel + 1) n listed a w (Nat.le_refl _) hn (by have := enough listed n hz hl hn; omega) hz hall1 hl hi.closed (hend a w _ hall1 hi)
    refine ⟨fun hr => ?_, fun i hmem => ?_⟩
    · exfalso
      refine hall1 ?_
      intro k
      induction k using Nat.strongRecOn with
      | ind k ihk =>
        intro hk
        cases hlk : listed.getD k false with
        | true => rfl
        | false =>
          exfalso
          have hks : k < ops.size := by omega
          have hmem : k ∈ Region.ready .any ops listed := by
            rw [mem_ready]
            refine ⟨?_, ops[k], Array.getElem?_eq_getElem hks, ?_⟩
            · rw [Array.getD_eq_getD_getElem?, Array.getElem?_eq_getElem (by omega : k < listed.size)] at hlk ⊢
              exact hlk
            · intro e he hb
              have hlt := fit_back hf (Array.getElem?_eq_getElem hks) he hb
              exact ihk e.on hlt (by omega)
          rw [hr] at hmem
          cases hmem
    obtain ⟨hlt0, o, ho, hall2⟩ := mem_ready.1 hmem
    obtain ⟨hlt, hg⟩ := getD_false_lt hlt0
    have hin : i < n := by
      rcases Nat.lt_or_ge i n with h | h
      · exact h
      · exfalso
        exact hall1 fun k hk => late_ok hlate ho h (by omega) (L := fun k => listed.getD k false) hi.closed hall2
    have hs := hall.get (i := i) (o := o) (by rw [List.getElem?_take_of_lt hin]; simpa using ho)
    rw [Nat.zero_add] at hs
    have next : ∀ v w', T w w' → R i v w' → (Fr i = true → o.dst.isSome = true ∧ ∃ g, blockOf v = some g ∧ w.heap.size ≤ g ∧ g < w'.heap.size) → wpAny P .any ops Q fuel (listed.setIfInBounds i true) (a.put o.dst v) w' := by
      intro v w' hT hR hF
      refine ih _ _ _ (by simpa using hz) ?_ ?_ ?_
      · have : (listed.toList.set i true).count false = listed.toList.count false - 1 := by
          rw [List.count_set (by simpa using hlt)]
          have : listed[i] = false := by
            rw [Array.getElem?_eq_getElem hlt] at hg
            simpa using hg
          simp [this]
        simp only [Array.toList_setIfInBounds]
        omega
      · intro j hj
        rw [getD_set_ne false (by omega)]; exact hl j hj
      · exact hi.next hf hST hRT hTz hin ho hall2 (fun k hk hx => by
          have hx : (listed.setIfInBounds i true).getD k false = true := hx
          rwa [getD_set_ne false hk] at hx) (fun k hx => getD_set_true hx) hT hR hF
    have := hs (wpAny P .any ops Q fuel (listed.setIfInBounds i true)) _ a w hi hall2 next
    unfold wpOp
    rw [ho]
    simp only
    split
    · rename_i hw
      rw [if_pos hw] at this
      exact .inl this
    · rename_i hw
      rw [if_neg hw] at this
      exact this

/-- What is known of operations that are ahead. -/
def Facts (ops : Array Oper) (R : Nat → Value → World → Prop) (a : Act) (w : World) : List Nat → Prop
  | [] => True
  | j :: l => (∃ v, inSlot ops a j v ∧ R j v w) ∧ Facts ops R a w l
theorem RInv.facts {n : Nat} {Fr : Nat → Bool} {a0 : Act} {S : World → Prop} {R : Nat → Value → World → Prop} {L : Nat → Bool} {a : Act} {w : World} (h : RInv ops n Fr a0 S R L a w) : ∀ (l : List Nat), (∀ j ∈ l, j < n ∧ L j = true) → Facts ops R a w l
  | [], _ => trivial
  | j :: l, hl => ⟨h.got j (hl j (by simp)).1 (hl j (by simp)).2, h.facts l fun i hi => hl i (by simp [hi])⟩

/-! The walk's words for a region whose operations only make memory. -/
inductive Spec where
  | any
  | is (v : Value)
  | st (p : Value → World → Prop) (h : ∀ v w w', Below w.heap.size w w' → p v w → p v w')
def Spec.holds : Spec → Value → World → Prop
  | .any, _, _ => True
  | .is v, u, _ => u = v
  | .st p _, u, w => p u w
theorem Spec.keep : ∀ (s : Spec) {v : Value} {w w' : World}, Below w.heap.size w w' → s.holds v w → s.holds v w'
  | .any, _, _, _, _, _ => trivial
  | .is _, _, _, _, _, h => h
  | .st _ hp, v, w, w', hb, h => hp v w w' hb h

theorem split_len {α : Type} (a b : Nat) (l : List α) (h : l.length = a + b) : ∃ l1 l2, l = l1 ++ l2 ∧ l1.length = a ∧ l2.length = b :=
  ⟨l.take a, l.drop a, (List.take_append_drop a l).symm, by simp; omega, by simp; omega⟩
def putAll : List Oper → List Value → Act → Act
  | o :: os, v :: vs, a => putAll os vs (a.put o.dst v)
  | _, _, a => a
theorem putAll_size : ∀ (os : List Oper) (vs : List Value) (a : Act), (putAll os vs a).tmps.size = a.tmps.size
  | [], _, _ => by simp [putAll]
  | _ :: _, [], _ => by simp [putAll]
  | o :: os, v :: vs, a => by
    rw [putAll, putAll_size os vs]
    cases o.dst <;> simp [Act.put]
theorem putAll_defers : ∀ (os : List Oper) (vs : List Value) (a : Act), (putAll os vs a).defers = a.defers
  | [], _, _ => by simp [putAll]
  | _ :: _, [], _ => by simp [putAll]
  | o :: os, v :: vs, a => by
    rw [putAll, putAll_defers os vs]
    cases o.dst <;> simp [Act.put]
theorem putAll_other {d : Tmp} : ∀ (os : List Oper) (vs : List Value) (a : Act), (∀ k : Nat, (os[k]?).bind (·.dst) ≠ some d) → (putAll os vs a).tmps[d]? = a.tmps[d]?
  | [], _, _, _ => by simp [putAll]
  | _ :: _, [], _, _ => by simp [putAll]
  | o :: os, v :: vs, a, h => by
    rw [putAll, putAll_other os vs _ (fun k => by simpa using h (k + 1))]
    have h0 : o.dst ≠ some d := by simpa using h 0
    cases hx : o.dst with
    | none => rfl
    | some d2 =>
      rw [hx] at h0
      show (a.tmps.setIfInBounds d2 v)[d]? = a.tmps[d]?
      exact Array.getElem?_setIfInBounds_ne (fun e => h0 (by rw [e]))
theorem putAll_at {d : Tmp} {v : Value} : ∀ (os : List Oper) (vs : List Value) (a : Act) (k : Nat), (os[k]?).bind (·.dst) = some d → vs[k]? = some v → (∀ j, k ≠ j → (os[j]?).bind (·.dst) ≠ some d) → d < a.tmps.size → (putAll os vs a).tmps[d]? = some v
  | [], _, _, k, hd, _, _, _ => by simp at hd
  | _ :: _, [], _, k, _, hv, _, _ => by simp at hv
  | o :: os, u :: vs, a, 0, hd, hv, hn, hlt => by
    have hd : o.dst = some d := by simpa using hd
    have hv : u = v := by simpa using hv
    subst hv
    rw [putAll, putAll_other os vs _ (fun k => by simpa using hn (k + 1) (by omega)), hd]
    show (a.tmps.setIfInBounds d u)[d]? = some u
    simp [hlt]
  | o :: os, u :: vs, a, k + 1, hd, hv, hn, hlt => by
    rw [putAll]
    refine putAll_at os vs _ k (by simpa using hd) (by simpa using hv) (fun j hj => by simpa using hn (j + 1) (by omega)) ?_
    cases o.dst <;> simpa [Act.put] using hlt

theorem vals_of {a : Act} {w : World} {R : Nat → Value → World → Prop} : ∀ (n : Nat), (∀ k, k < n → ∃ v, inSlot ops a k v ∧ R k v w) → ∃ vals : List Value, vals.length = n ∧ ∀ k v, vals[k]? = some v → inSlot ops a k v ∧ R k v w
  | 0, _ => ⟨[], rfl, by simp⟩
  | n + 1, h => by
    obtain ⟨vals, hl, hv⟩ := vals_of n fun k hk => h k (by omega)
    obtain ⟨v, hv2⟩ := h n (by omega)
    refine ⟨vals ++ [v], by simp [hl], fun k u hu => ?_⟩
    rcases Nat.lt_or_ge k n with hlt | hge
    · rw [List.getElem?_append_left (by omega)] at hu
      exact hv k u hu
    · by_cases he : k = n
      · subst he
        rw [List.getElem?_append_right (by omega), hl, Nat.sub_self] at hu
        simp at hu
        subst hu; exact hv2
      · rw [List.getElem?_eq_none (by simp; omega)] at hu
        cases hu

/-- A region that draws its order, whose operations (but the last ones, which come in the text's order) leave all memory that was there as it was. -/
theorem wp_region_t {id : Nat} {a0 : Act} {W : World} (n : Nat) (Fr : Nat → Bool) (hm : P.follows .mixedOrders = true) (R : Nat → Spec) (hf : (fitOps ops a0.tmps.size && lateOps ops n && decide (n ≤ ops.size)) = true)
    (hall : AllOk P Q ops n Fr a0 (fun w => Below W.heap.size W w) (fun k v w => (R k).holds v w) (fun w w' => Below w.heap.size w w') 0 (ops.toList.take n))
    (hend : ∀ (vals : List Value) (w : World), vals.length = n → Below W.heap.size W w → (∀ k v, vals[k]? = some v → (R k).holds v w) →
      (∀ j k u v, j ≠ k → Fr j = true → Fr k = true → vals[j]? = some u → vals[k]? = some v → blockOf u ≠ blockOf v) → wpList P ops Q (ops.toList.drop n) (putAll (ops.toList.take n) vals a0) w) :
    (Code.region id ops true).wp P Q a0 W := by
  simp only [Bool.and_eq_true, decide_eq_true_eq] at hf
  obtain ⟨⟨hf, hlate⟩, hn⟩ := hf
  refine wp_region_any hm ?_
  refine wpAny_inv (n := n) (Fr := Fr) (S := fun w => Below W.heap.size W w) (R := fun k v w => (R k).holds v w) (T := fun w w' => Below w.heap.size w w') hn hf hlate (fun w w' h1 h2 => h1.trans (h2.mono h1.size)) (fun k v w w' _ h2 h3 => (R k).keep h2 h3) (fun w w' h => h.size) hall ?_ _ _ _ _ (by simp) (by simp) (by intro j _; simp [Array.getD]) ?_
  · intro a w L hL hi
    obtain ⟨vals, hl, hv⟩ := vals_of (ops := ops) (a := a) (w := w) (R := fun k v w => (R k).holds v w) n fun k hk => hi.got k hk (hL k hk)
    have hto : ∀ k : Nat, ((ops.toList.take n)[k]?).bind (·.dst) = if k < n then (ops[k]?).bind (·.dst) else none := by
      intro k
      by_cases hk : k < n
      · rw [if_pos hk, List.getElem?_take_of_lt hk, Array.getElem?_toList]
      · rw [if_neg hk, List.getElem?_eq_none (by simp; omega)]; rfl
    have : a = putAll (ops.toList.take n) vals a0 := by
      obtain ⟨tm, df⟩ := a
      have h1 : tm = (putAll (ops.toList.take n) vals a0).tmps := by
        apply Array.ext_getElem?
        intro d
        by_cases hd : ∃ k : Nat, k < n ∧ (ops[k]?).bind (·.dst) = some d
        · obtain ⟨k, hkn, hk⟩ := hd
          have hg : vals[k]? = some vals[k] := List.getElem?_eq_getElem (by omega)
          have h2 := (hv k _ hg).1
          unfold inSlot at h2
          rw [hk] at h2
          simp only at h2
          rw [h2]
          symm
          refine putAll_at _ _ _ k (by rw [hto, if_pos hkn]; exact hk) hg (fun j hj => ?_) (fit_lt hf (i := k) hk)
          rw [hto]
          split
          · exact fit_ne hf (i := k) (j := j) hj (d := d) hk
          · simp
        · have hd : ∀ k : Nat, k < n → (ops[k]?).bind (·.dst) ≠ some d := fun k hkn hk => hd ⟨k, hkn, hk⟩
          rw [putAll_other _ _ _ (fun k => by
            rw [hto]
            split
            · rename_i h; exact hd k h
            · simp)]
          exact hi.old d hd
      have h2 : df = (putAll (ops.toList.take n) vals a0).defers := by rw [putAll_defers]; exact hi.defers
      rw [h1, h2]
    have hlen : (ops.toList.drop n).length = ops.size - n := by simp
    rw [← hlen, wpOps_eq_wpList (ops.toList.drop n) n (by intro j; simp [List.getElem?_drop])]
    rw [this]
    refine hend vals w hl hi.s (fun k v h => (hv k v h).2) fun j k u v hjk hFj hFk hu hv2 => ?_
    have hjn : j < n := by have := (List.getElem?_eq_some_iff.1 hu).1; omega
    have hkn : k < n := by have := (List.getElem?_eq_some_iff.1 hv2).1; omega
    exact hi.apart j k hjn hkn hjk (hL j hjn) (hL k hkn) hFj hFk u v (hv j u hu).1 (hv k v hv2).1
  · refine ⟨?_, rfl, rfl, fun _ _ => rfl, ?_, ?_, ?_, ?_⟩
    · exact Below.drew (Below.refl _ _)
    · intro k _ hk
      simp [Array.getD] at hk
    · intro k o _ hk
      simp [Array.getD] at hk
    · intro k _ hk
      simp [Array.getD] at hk
    · intro j k _ _ _ hk
      simp [Array.getD] at hk
/-- A region all of whose operations leave all memory that was there as it was. -/
theorem wp_region_b {id : Nat} {a0 : Act} {W : World} (hm : P.follows .mixedOrders = true) (R : Nat → Spec) (hf : (fitOps ops a0.tmps.size && lateOps ops ops.size && decide (ops.size ≤ ops.size)) = true)
    (hall : AllOk P Q ops ops.size (fun _ => false) a0 (fun w => Below W.heap.size W w) (fun k v w => (R k).holds v w) (fun w w' => Below w.heap.size w w') 0 ops.toList)
    (hend : ∀ (vals : List Value) (w : World), vals.length = ops.size → Below W.heap.size W w → (∀ k v, vals[k]? = some v → (R k).holds v w) → Q .normal (putAll ops.toList vals a0) w) :
    (Code.region id ops true).wp P Q a0 W := by
  have ht : ops.toList.take ops.size = ops.toList := List.take_of_length_le (by simp)
  refine wp_region_t ops.size (fun _ => false) hm R hf (by rw [ht]; exact hall) ?_
  intro vals w hl hb hv _
  rw [ht, List.drop_eq_nil_of_le (by simp)]
  exact hend vals w hl hb hv

/-- A region in the text's order, by the same steps. -/
theorem wp_region_s {id : Nat} {a0 : Act} {W : World} (R : Nat → Spec) (hf : fitOps ops a0.tmps.size = true)
    (hall : AllOk P Q ops ops.size (fun _ => false) a0 (fun w => Below W.heap.size W w) (fun k v w => (R k).holds v w) (fun w w' => Below w.heap.size w w') 0 ops.toList)
    (hend : ∀ (vals : List Value) (w : World), vals.length = ops.size → Below W.heap.size W w → (∀ k v, vals[k]? = some v → (R k).holds v w) → Q .normal (putAll ops.toList vals a0) w) :
    (Code.region id ops false).wp P Q a0 W := by
  have main : ∀ (g m : Nat) (a : Act) (w : World), m + g = ops.size → RInv ops ops.size (fun _ => false) a0 (fun w => Below W.heap.size W w) (fun k v w => (R k).holds v w) (fun k => decide (k < m)) a w → wpOps P ops Q (List.range' m g) a w := by
    intro g
    induction g with
    | zero =>
      intro m a w hm hi
      have hm : m = ops.size := by omega
      subst hm
      obtain ⟨vals, hl, hv⟩ := vals_of (ops := ops) (a := a) (w := w) (R := fun k v w => (R k).holds v w) ops.size fun k hk => hi.got k hk (by simpa using hk)
      have : a = putAll ops.toList vals a0 := by
        obtain ⟨tm, df⟩ := a
        have h1 : tm = (putAll ops.toList vals a0).tmps := by
          apply Array.ext_getElem?
          intro d
          by_cases hd : ∃ k : Nat, (ops[k]?).bind (·.dst) = some d
          · obtain ⟨k, hk⟩ := hd
            have hlt : k < ops.size := by
              rcases Nat.lt_or_ge k ops.size with h | h
              · exact h
              · rw [Array.getElem?_eq_none h] at hk; cases hk
            have hg : vals[k]? = some vals[k] := List.getElem?_eq_getElem (by omega)
            have h2 := (hv k _ hg).1
            unfold inSlot at h2
            rw [hk] at h2
            simp only at h2
            rw [h2]
            symm
            refine putAll_at _ _ _ k (by simpa using hk) hg (fun j hj => ?_) (fit_lt hf (i := k) hk)
            have := fit_ne hf (i := k) (j := j) hj (d := d) hk
            simpa [dstOf] using this
          · have hd : ∀ k : Nat, (ops[k]?).bind (·.dst) ≠ some d := fun k hk => hd ⟨k, hk⟩
            rw [putAll_other _ _ _ (fun k => by simpa using hd k)]
            exact hi.old d fun k _ => hd k
        have h2 : df = (putAll ops.toList vals a0).defers := by rw [putAll_defers]; exact hi.defers
        rw [h1, h2]
      show Q .normal a w
      rw [this]
      exact hend vals w hl hi.s fun k v h => (hv k v h).2
    | succ g ih =>
      intro m a w hm hi
      have hlt : m < ops.size := by omega
      have ho : ops[m]? = some ops[m] := Array.getElem?_eq_getElem hlt
      rw [List.range'_succ, wpOps_cons]
      have hA : ∀ e ∈ ops[m].after, Region.binds .any e = true → decide (e.on < m) = true := fun e he hb => decide_eq_true (fit_back hf ho he hb)
      have hs := hall.get (i := m) (o := ops[m]) (by rw [Array.getElem?_toList]; exact ho)
      rw [Nat.zero_add] at hs
      have next : ∀ v w', Below w.heap.size w w' → (R m).holds v w' → wpOps P ops Q (List.range' (m + 1) g) (ops[m].dst |> a.put <| v) w' := by
        intro v w' hT hR
        refine ih (m + 1) _ w' (by omega) ?_
        exact RInv.next (S := fun w => Below W.heap.size W w) (R := fun k v w => (R k).holds v w) (T := fun w w' => Below w.heap.size w w') (L' := fun k => decide (k < m + 1)) hf (fun w w' h1 h2 => h1.trans (h2.mono h1.size)) (fun k v w w' _ h2 h3 => (R k).keep h2 h3) (fun w w' h => h.size) hi hlt ho hA
          (fun k hk hx => by simp only [decide_eq_true_eq] at hx ⊢; omega) (fun k hx => by simp only [decide_eq_true_eq] at hx ⊢; omega) hT hR (fun h => by cases h)
      have := hs (wpOps P ops Q (List.range' (m + 1) g)) _ a w hi hA (fun v w' h1 h2 _ => next v w' h1 h2)
      unfold wpOp
      rw [ho]
      simp only
      split
      · rename_i hw
        rw [if_pos hw] at this
        exact .inl this
      · rename_i hw
        rw [if_neg hw] at this
        exact this
  refine wp_region ?_
  rw [List.range_eq_range']
  refine main ops.size 0 a0 W (by omega) ⟨Below.refl _ _, rfl, rfl, fun _ _ => rfl, ?_, ?_, ?_, ?_⟩
  · intro k _ hk
    simp at hk
  · intro k o _ hk
    simp at hk
  · intro k _ hk
    simp at hk
  · intro j k _ _ _ hk
    simp at hk

section
variable {n : Nat} {Fr : Nat → Bool} {a0 : Act} {W : World} {R : Nat → Spec} {k : Nat} {o : Oper}
abbrev BOk (P : Program) (Q : Exit → Act → World → Prop) (ops : Array Oper) (n : Nat) (Fr : Nat → Bool) (a0 : Act) (W : World) (R : Nat → Spec) (k : Nat) (l : List Oper) : Prop :=
  AllOk P Q ops n Fr a0 (fun w => Below W.heap.size W w) (fun k v w => (R k).holds v w) (fun w w' => Below w.heap.size w w') k l
/-- No operation of the region writes slot d. -/
def outer (ops : Array Oper) (d : Nat) : Bool := ops.all fun o => o.dst != some d
theorem outer_ok {d : Nat} (h : outer ops d = true) : ∀ k : Nat, (ops[k]?).bind (·.dst) ≠ some d := by
  intro k hk
  cases ho : ops[k]? with
  | none => rw [ho] at hk; cases hk
  | some o =>
    rw [ho, Option.bind_some] at hk
    unfold outer at h
    rw [Array.all_eq_true'] at h
    have := h o (Array.mem_of_getElem? ho)
    simp [hk] at this
def Outers (ops : Array Oper) (a0 a : Act) : List Nat → Prop
  | [] => True
  | d :: l => a.tmps[d]? = a0.tmps[d]? ∧ Outers ops a0 a l
theorem outers_ok {a : Act} (h : ∀ d : Tmp, (∀ k : Nat, k < n → (ops[k]?).bind (·.dst) ≠ some d) → a.tmps[d]? = a0.tmps[d]?) : ∀ (l : List Nat), l.all (outer ops) = true → Outers ops a0 a l
  | [], _ => trivial
  | d :: l, hl => by
    simp only [List.all_cons, Bool.and_eq_true] at hl
    exact ⟨h d (fun k _ => outer_ok hl.1 k), outers_ok h l hl.2⟩
theorem facts_ok {L : Nat → Bool} {a : Act} {w : World} {S : World → Prop} {R : Nat → Value → World → Prop} (hi : RInv ops n Fr a0 S R L a w) (ho : ops[k]? = some o) (hA : ∀ e ∈ o.after, Region.binds .any e = true → L e.on = true)
    {l : List Nat} (hl : (l.all fun j => decide (j < n) && waits ops k j) = true) : Facts ops R a w l := by
  refine hi.facts l fun j hj => ?_
  have := List.all_eq_true.1 hl j hj
  simp only [Bool.and_eq_true, decide_eq_true_eq] at this
  exact ⟨this.1, waits_ok ho this.2 hi.closed hA⟩

/-- An operation without a guard. -/
theorem BOk.cons {rest : List Oper} (ho : ops[k]? = some o) (l ds : List Nat) (hfr : Fr k = false) (hg : o.guard = none) (hl : (l.all fun j => decide (j < n) && waits ops k j) = true) (hds : ds.all (outer ops) = true)
    (h : ∀ (K : Act → World → Prop) (a : Act) (w : World), Below W.heap.size W w → Outers ops a0 a ds → Facts ops (fun k v w => (R k).holds v w) a w l → (∀ v w', Below w.heap.size w w' → (R k).holds v w' → K (a.put o.dst v) w') → o.wp P a w K Q)
    (hr : BOk P Q ops n Fr a0 W R (k + 1) rest) : BOk P Q ops n Fr a0 W R k (o :: rest) := by
  refine ⟨fun K L a w hi hA hK => ?_, hr⟩
  rw [if_pos (by unfold Region.wanted; rw [hg])]
  exact h K a w hi.s (outers_ok hi.old ds hds) (facts_ok hi ho hA hl) (fun v w' h1 h2 => hK v w' h1 h2 (fun h => by rw [hfr] at h; cases h))

/-- An operation without a guard that makes memory of its own. -/
theorem BOk.fresh {rest : List Oper} (ho : ops[k]? = some o) (l ds : List Nat) (hg : o.guard = none) (hd : o.dst.isSome = true) (hl : (l.all fun j => decide (j < n) && waits ops k j) = true) (hds : ds.all (outer ops) = true)
    (h : ∀ (K : Act → World → Prop) (a : Act) (w : World), Below W.heap.size W w → Outers ops a0 a ds → Facts ops (fun k v w => (R k).holds v w) a w l → (∀ v w', Below w.heap.size w w' → (R k).holds v w' → (∃ g, blockOf v = some g ∧ w.heap.size ≤ g ∧ g < w'.heap.size) → K (a.put o.dst v) w') → o.wp P a w K Q)
    (hr : BOk P Q ops n Fr a0 W R (k + 1) rest) : BOk P Q ops n Fr a0 W R k (o :: rest) := by
  refine ⟨fun K L a w hi hA hK => ?_, hr⟩
  rw [if_pos (by unfold Region.wanted; rw [hg])]
  exact h K a w hi.s (outers_ok hi.old ds hds) (facts_ok hi ho hA hl) (fun v w' h1 h2 h3 => hK v w' h1 h2 (fun _ => ⟨hd, h3⟩))

theorem guard_val {a : Act} {w : World} {g : Nat} {b : Bool} {R : Nat → Spec} (hR : R g = .is (.bool b)) (hd : ((ops[g]?).bind (·.dst)).isSome = true) (h : ∃ v, inSlot ops a g v ∧ (R g).holds v w) : yielded ops a.tmps g = some b := by
  obtain ⟨v, h1, h2⟩ := h
  rw [hR] at h2
  have h2 : v = .bool b := h2
  subst h2
  unfold inSlot at h1
  unfold yielded
  cases hx : (ops[g]?).bind (·.dst) with
  | none => rw [hx] at hd; cases hd
  | some d =>
    rw [hx] at h1
    simp only at h1
    simp [h1]
/-- An operation whose guard lets it run. -/
theorem BOk.yes {rest : List Oper} (ho : ops[k]? = some o) (l ds : List Nat) (hfr : Fr k = false) (g : Nat) (b : Bool) (hg : o.guard = some (g, b)) (hR : R g = .is (.bool b)) (hd : ((ops[g]?).bind (·.dst)).isSome = true) (hw : (decide (g < n) && waits ops k g) = true)
    (hl : (l.all fun j => decide (j < n) && waits ops k j) = true) (hds : ds.all (outer ops) = true)
    (h : ∀ (K : Act → World → Prop) (a : Act) (w : World), Below W.heap.size W w → Outers ops a0 a ds → Facts ops (fun k v w => (R k).holds v w) a w l → (∀ v w', Below w.heap.size w w' → (R k).holds v w' → K (a.put o.dst v) w') → o.wp P a w K Q)
    (hr : BOk P Q ops n Fr a0 W R (k + 1) rest) : BOk P Q ops n Fr a0 W R k (o :: rest) := by
  refine ⟨fun K L a w hi hA hK => ?_, hr⟩
  have hy : yielded ops a.tmps g = some b := guard_val (w := w) hR hd (facts_ok hi ho hA (l := [g]) (by simpa using hw)).1
  rw [if_pos (by unfold Region.wanted; rw [hg]; simp [hy])]
  exact h K a w hi.s (outers_ok hi.old ds hds) (facts_ok hi ho hA hl) (fun v w' h1 h2 => hK v w' h1 h2 (fun h => by rw [hfr] at h; cases h))
/-- An operation that its guard leaves out. -/
theorem BOk.no {rest : List Oper} (ho : ops[k]? = some o) (hfr : Fr k = false) (g : Nat) (b : Bool) (hg : o.guard = some (g, b)) (hR : R g = .is (.bool (!b))) (hd : ((ops[g]?).bind (·.dst)).isSome = true) (hw : (decide (g < n) && waits ops k g) = true)
    (hu : ∀ w, (R k).holds undef w)
    (hr : BOk P Q ops n Fr a0 W R (k + 1) rest) : BOk P Q ops n Fr a0 W R k (o :: rest) := by
  refine ⟨fun K L a w hi hA hK => ?_, hr⟩
  have hy : yielded ops a.tmps g = some (!b) := guard_val (w := w) hR hd (facts_ok hi ho hA (l := [g]) (by simpa using hw)).1
  rw [if_neg (by unfold Region.wanted; rw [hg]; simp [hy])]
  exact hK undef w (Below.refl _ _) (hu w) (fun h => by rw [hfr] at h; cases h)
/-- An operation whose guard was left out itself. -/
theorem BOk.gone {rest : List Oper} (ho : ops[k]? = some o) (hfr : Fr k = false) (g : Nat) (b : Bool) (hg : o.guard = some (g, b)) (hR : R g = .is undef) (hd : ((ops[g]?).bind (·.dst)).isSome = true) (hw : (decide (g < n) && waits ops k g) = true)
    (hu : ∀ w, (R k).holds undef w)
    (hr : BOk P Q ops n Fr a0 W R (k + 1) rest) : BOk P Q ops n Fr a0 W R k (o :: rest) := by
  refine ⟨fun K L a w hi hA hK => ?_, hr⟩
  have hy : yielded ops a.tmps g = none := by
    obtain ⟨v, h1, h2⟩ := (facts_ok hi ho hA (l := [g]) (by simpa using hw)).1
    have h2 : (R g).holds v w := h2
    rw [hR] at h2
    have h2 : v = undef := h2
    subst h2
    unfold inSlot at h1
    unfold yielded
    cases hx : (ops[g]?).bind (·.dst) with
    | none => rw [hx] at hd; cases hd
    | some d =>
      rw [hx] at h1
      simp only at h1
      simp [h1, undef]
  rw [if_neg (by unfold Region.wanted; rw [hg]; simp [hy])]
  exact hK undef w (Below.refl _ _) (hu w) (fun h => by rw [hfr] at h; cases h)
theorem BOk.nil : BOk P Q ops n Fr a0 W R k [] := trivial
end
end
end Go.Proofs.YtbopndepklafgaaDoor
