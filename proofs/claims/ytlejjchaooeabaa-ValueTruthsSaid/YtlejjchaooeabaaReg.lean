/- A region whose order is open, walked once for each of its operations: an invariant in the place of its orders. Plain. -/
import Derived.Test.YtlejjchaooeabaaMem
import Derived.Orders
namespace Go.Proofs.Ytlejjchaooeabaa
open Go.RowKit

section
variable {P : Program} {ops : Array Oper} {Q : Exit → Act → World → Prop}

/-- The value v lies in the slot of operation j. -/
def inSlot (ops : Array Oper) (a : Act) (j : Nat) (v : Value) : Prop :=
  match (ops[j]?).bind (·.dst) with
  | some d => a.tmps[d]? = some v
  | none => True

/-- What holds of a state inside the region: T is what each operation does to the world at most, R what it leaves in its slot. -/
structure RInv (ops : Array Oper) (a0 : Act) (S : World → Prop) (R : Nat → Value → World → Prop) (L : Nat → Bool) (a : Act) (w : World) : Prop where
  s : S w
  defers : a.defers = a0.defers
  size : a.tmps.size = a0.tmps.size
  old : ∀ d : Tmp, (∀ k : Nat, (ops[k]?).bind (·.dst) ≠ some d) → a.tmps[d]? = a0.tmps[d]?
  got : ∀ k : Nat, k < ops.size → L k = true → ∃ v, inSlot ops a k v ∧ R k v w
  closed : ∀ (k : Nat) (o : Oper), ops[k]? = some o → L k = true → ∀ e ∈ o.after, Region.binds .any e = true → L e.on = true

def dstOf (ops : Array Oper) (k : Nat) : Option Tmp := (ops[k]?).bind (·.dst)
/-- Each slot is written once, and lies in the frame; each operation waits only for those ahead of it in the text. -/
def fitOps (ops : Array Oper) (n : Nat) : Bool :=
  (List.range ops.size).all fun i =>
    (match dstOf ops i with
     | none => true
     | some d => decide (d < n) && (List.range i).all fun j => dstOf ops j != some d) &&
    (match ops[i]? with
     | none => true
     | some o => o.after.all fun e => !Region.binds .any e || decide (e.on < i))

theorem fit_lt {n : Nat} (h : fitOps ops n = true) {i d : Nat} (hd : dstOf ops i = some d) : d < n := by
  have hi : i < ops.size := by
    unfold dstOf at hd
    rcases Nat.lt_or_ge i ops.size with h | h
    · exact h
    · rw [Array.getElem?_eq_none h] at hd; cases hd
  have := List.all_eq_true.1 h i (List.mem_range.2 hi)
  simp only [hd, Bool.and_eq_true, decide_eq_true_eq] at this
  exact this.1.1
theorem fit_lt' {n : Nat} (h : fitOps ops n = true) {i j d : Nat} (hij : j < i) (hd : dstOf ops i = some d) : dstOf ops j ≠ some d := by
  have hi : i < ops.size := by
    unfold dstOf at hd
    rcases Nat.lt_or_ge i ops.size with h | h
    · exact h
    · rw [Array.getElem?_eq_none h] at hd; cases hd
  have := List.all_eq_true.1 h i (List.mem_range.2 hi)
  simp only [hd, Bool.and_eq_true] at this
  have := List.all_eq_true.1 this.1.2 j (List.mem_range.2 hij)
  simpa using this
theorem fit_ne {n : Nat} (h : fitOps ops n = true) {i j d : Nat} (hij : i ≠ j) (hd : dstOf ops i = some d) : dstOf ops j ≠ some d := by
  rcases Nat.lt_or_ge i j with hl | hl
  · intro he
    exact fit_lt' h hl he hd
  · exact fit_lt' h (by omega) hd
theorem fit_back {n : Nat} (h : fitOps ops n = true) {i : Nat} {o : Oper} (ho : ops[i]? = some o) {e : Edge} (he : e ∈ o.after) (hb : Region.binds .any e = true) : e.on < i := by
  have hi : i < ops.size := (Array.getElem?_eq_some_iff.1 ho).1
  have := List.all_eq_true.1 h i (List.mem_range.2 hi)
  simp only [ho, Bool.and_eq_true] at this
  have h2 := this.2
  rw [Array.all_eq_true'] at h2
  have := h2 e he
  simpa [hb] using this

/-- One step. -/
def StepOk (P : Program) (Q : Exit → Act → World → Prop) (ops : Array Oper) (a0 : Act) (S : World → Prop) (R : Nat → Value → World → Prop) (T : World → World → Prop) (k : Nat) (o : Oper) : Prop :=
  ∀ (K : Act → World → Prop) (L : Nat → Bool) (a : Act) (w : World), RInv ops a0 S R L a w → (∀ e ∈ o.after, Region.binds .any e = true → L e.on = true) →
    (∀ v w', T w w' → R k v w' → K (a.put o.dst v) w') →
    if Region.wanted o (yielded ops a.tmps) = true then o.wp P a w K Q else K (a.put o.dst undef) w
def AllOk (P : Program) (Q : Exit → Act → World → Prop) (ops : Array Oper) (a0 : Act) (S : World → Prop) (R : Nat → Value → World → Prop) (T : World → World → Prop) : Nat → List Oper → Prop
  | _, [] => True
  | k, o :: l => StepOk P Q ops a0 S R T k o ∧ AllOk P Q ops a0 S R T (k + 1) l
theorem AllOk.get {a0 : Act} {S : World → Prop} {R : Nat → Value → World → Prop} {T : World → World → Prop} : ∀ {l : List Oper} {k i : Nat} {o : Oper}, AllOk P Q ops a0 S R T k l → l[i]? = some o → StepOk P Q ops a0 S R T (k + i) o
  | [], _, _, _, _, h => by simp at h
  | x :: l, k, 0, o, h, ho => by
    simp only [List.getElem?_cons_zero, Option.some.injEq] at ho
    subst ho; exact h.1
  | x :: l, k, i + 1, o, h, ho => by
    simp only [List.getElem?_cons_succ] at ho
    have := h.2.get ho
    rwa [show k + 1 + i = k + (i + 1) by omega] at this

theorem put_slot {a : Act} {v : Value} {n : Nat} (hf : fitOps ops n = true) (hs : a.tmps.size = n) {k : Nat} {o : Oper} (ho : ops[k]? = some o) : inSlot ops (a.put o.dst v) k v := by
  unfold inSlot
  rw [ho, Option.bind_some]
  cases hd : o.dst with
  | none => trivial
  | some d =>
    have hlt : d < a.tmps.size := by rw [hs]; exact fit_lt hf (i := k) (by unfold dstOf; rw [ho]; exact hd)
    show (a.tmps.setIfInBounds d v)[d]? = some v
    simp [hlt]
theorem put_other {a : Act} {v u : Value} {n : Nat} (hf : fitOps ops n = true) {k j : Nat} {o : Oper} (ho : ops[k]? = some o) (hj : k ≠ j) (h : inSlot ops a j u) : inSlot ops (a.put o.dst v) j u := by
  unfold inSlot at h ⊢
  cases hd : o.dst with
  | none => exact h
  | some d =>
    have hne := fit_ne hf hj (d := d) (by unfold dstOf; rw [ho]; exact hd)
    unfold dstOf at hne
    cases hx : (ops[j]?).bind (·.dst) with
    | none => trivial
    | some d2 =>
      rw [hx] at h hne
      show (a.tmps.setIfInBounds d v)[d2]? = some u
      rw [Array.getElem?_setIfInBounds_ne (fun e => hne (by rw [e]))]
      exact h

theorem wpAny_inv {a0 : Act} {S : World → Prop} {R : Nat → Value → World → Prop} {T : World → World → Prop} (hf : fitOps ops a0.tmps.size = true)
    (hST : ∀ w w', S w → T w w' → S w') (hRT : ∀ k v w w', S w → T w w' → R k v w → R k v w')
    (hall : AllOk P Q ops a0 S R T 0 ops.toList)
    (hend : ∀ a w, (∀ L : Nat → Bool, (∀ k, k < ops.size → L k = true) → RInv ops a0 S R L a w → Q .normal a w)) :
    ∀ (fuel : Nat) (listed : Array Bool) (a : Act) (w : World), listed.size = ops.size → listed.toList.count false ≤ fuel → RInv ops a0 S R (fun k => listed.getD k false) a w → wpAny P .any ops Q fuel listed a w := by
  have full : ∀ (listed : Array Bool) (a : Act) (w : World), listed.size = ops.size → RInv ops a0 S R (fun k => listed.getD k false) a w → Region.ready .any ops listed = [] → Q .normal a w := by
    intro listed a w hz hi hr
    refine hend a w _ ?_ hi
    intro k
    induction k using Nat.strongRecOn with
    | ind k ih =>
      intro hk
      show listed.getD k false = true
      cases hl : listed.getD k false with
      | true => rfl
      | false =>
        exfalso
        have hmem : k ∈ Region.ready .any ops listed := by
          rw [mem_ready]
          refine ⟨?_, ops[k], Array.getElem?_eq_getElem hk, ?_⟩
          · have hlt : k < listed.size := by omega
            have hl : listed.getD k false = false := hl
            rw [Array.getD_eq_getD_getElem?] at hl ⊢
            simp only [Array.getElem?_eq_getElem hlt, Option.getD_some] at hl ⊢
            exact hl
          · intro e he hb
            have hlt := fit_back hf (Array.getElem?_eq_getElem hk) he hb
            exact ih e.on hlt (by omega)
        rw [hr] at hmem
        cases hmem
  have allT : ∀ listed : Array Bool, listed.toList.count false = 0 → Region.ready .any ops listed = [] := by
    intro listed hc
    cases hr : Region.ready .any ops listed with
    | nil => rfl
    | cons i l =>
      exfalso
      have hi : i ∈ Region.ready .any ops listed := by rw [hr]; simp
      have h1 := (mem_ready.1 hi).1
      rw [List.count_eq_zero] at hc
      have hlt : i < listed.size := by
        rcases Nat.lt_or_ge i listed.size with h | h
        · exact h
        · simp [Array.getD, Nat.not_lt.2 h] at h1
      have hg : listed[i] = false := by simpa [Array.getD, hlt] using h1
      exact hc (by rw [← hg]; simp)
  intro fuel
  induction fuel with
  | zero =>
    intro listed a w hz hc hi
    have := allT listed (by omega)
    exact ⟨this, full listed a w hz hi this⟩
  | succ fuel ih =>
    intro listed a w hz hc hi
    refine ⟨fun hr => full listed a w hz hi hr, fun i hmem => ?_⟩
    obtain ⟨hl, o, ho, hall2⟩ := mem_ready.1 hmem
    have hlt : i < listed.size := by
      rcases Nat.lt_or_ge i listed.size with h | h
      · exact h
      · simp [Array.getD, Nat.not_lt.2 h] at hl
    have hg : listed[i] = false := by simpa [Array.getD, hlt] using hl
    have hs := hall.get (i := i) (o := o) (by simpa using ho)
    rw [Nat.zero_add] at hs
    have next : ∀ v w', T w w' → R i v w' → wpAny P .any ops Q fuel (listed.setIfInBounds i true) (a.put o.dst v) w' := by
      intro v w' hT hR
      refine ih _ _ _ (by simpa using hz) ?_ ?_
      · have : (listed.toList.set i true).count false = listed.toList.count false - 1 := by
          rw [List.count_set (by simpa using hlt)]
          simp [hg]
        simp only [Array.toList_setIfInBounds]
        have := this
        omega
      · refine ⟨hST _ _ hi.s hT, ?_, ?_, ?_, ?_, ?_⟩
        · rw [← hi.defers]; cases o.dst <;> rfl
        · rw [← hi.size]; cases o.dst <;> simp [Act.put]
        · intro d hd
          rw [← hi.old d hd]
          have := hd i
          rw [ho, Option.bind_some] at this
          cases hx : o.dst with
          | none => rfl
          | some d2 =>
            rw [hx] at this
            show (a.tmps.setIfInBounds d2 v)[d]? = a.tmps[d]?
            exact Array.getElem?_setIfInBounds_ne (fun e => this (by rw [e]))
        · intro k hk hL
          by_cases hki : i = k
          · subst hki
            exact ⟨v, put_slot hf hi.size ho, hR⟩
          · rw [getD_set_ne false hki] at hL
            obtain ⟨u, h1, h2⟩ := hi.got k hk hL
            exact ⟨u, put_other hf ho hki h1, hRT k u w w' hi.s hT h2⟩
        · intro k o2 hk hL e he hb
          by_cases hki : i = k
          · subst hki
            rw [ho] at hk
            injection hk with hk
            subst hk
            exact getD_set_true (hall2 e he hb)
          · rw [getD_set_ne false hki] at hL
            exact getD_set_true (hi.closed k o2 hk hL e he hb)
    have := hs (wpAny P .any ops Q fuel (listed.setIfInBounds i true)) _ a w hi hall2 next
    unfold wpOp
    rw [ho]
    simp only
    split
    · rename_i hw
      rw [if_pos hw] at this
      exact .inl this
    · rename_i hw
      rw [if_neg hw] at this
      exact this

/-! What an operation waits for, through others too: a mask. -/
def maskOf (acc : List Nat) (l : List Edge) : Nat := l.foldl (fun m e => if Region.binds .any e = true then m ||| (1 <<< e.on) ||| acc.getD e.on 0 else m) 0
def masks : List Nat → List Oper → List Nat
  | acc, [] => acc
  | acc, o :: os => masks (acc ++ [maskOf acc o.after.toList]) os
def waits (ops : Array Oper) (k j : Nat) : Bool := ((masks [] ops.toList).getD k 0).testBit j

theorem maskOf_bit {acc : List Nat} {j : Nat} : ∀ {l : List Edge} {m0 : Nat}, (l.foldl (fun m e => if Region.binds .any e = true then m ||| (1 <<< e.on) ||| acc.getD e.on 0 else m) m0).testBit j = true →
    m0.testBit j = true ∨ ∃ e ∈ l, Region.binds .any e = true ∧ (e.on = j ∨ (acc.getD e.on 0).testBit j = true)
  | [], m0, h => .inl h
  | e :: l, m0, h => by
    rw [List.foldl_cons] at h
    rcases maskOf_bit h with h | ⟨e2, h2, h3⟩
    · split at h
      · rename_i hb
        rw [Nat.testBit_or, Nat.testBit_or, Bool.or_eq_true, Bool.or_eq_true] at h
        rcases h with (h | h) | h
        · exact .inl h
        · refine .inr ⟨e, by simp, hb, .inl ?_⟩
          rw [Nat.one_shiftLeft, Nat.testBit_two_pow] at h
          simpa using h
        · exact .inr ⟨e, by simp, hb, .inr h⟩
      · exact .inl h
    · exact .inr ⟨e2, by simp [h2], h3⟩

/-- The masks are right. -/
def MasksOk (ops : Array Oper) (acc : List Nat) : Prop :=
  ∀ k j o, ops[k]? = some o → (acc.getD k 0).testBit j = true → ∀ L : Nat → Bool, (∀ k o, ops[k]? = some o → L k = true → ∀ e ∈ o.after, Region.binds .any e = true → L e.on = true) →
    (∀ e ∈ o.after, Region.binds .any e = true → L e.on = true) → L j = true
theorem masks_ok : ∀ (os : List Oper) (acc : List Nat), MasksOk ops acc → (∀ i, ops[acc.length + i]? = os[i]?) → MasksOk ops (masks acc os)
  | [], acc, h, _ => h
  | o :: os, acc, h, ho => by
    refine masks_ok os _ ?_ ?_
    · intro k j o2 hk hb L hL hA
      rcases Nat.lt_or_ge k acc.length with hlt | hge
      · have hb : (acc.getD k 0).testBit j = true := by
          have : (acc ++ [maskOf acc o.after.toList]).getD k 0 = acc.getD k 0 := by
            simp [List.getD, List.getElem?_append_left hlt]
          rwa [this] at hb
        exact h k j o2 hk hb L hL hA
      · by_cases he : k = acc.length
        · subst he
          have h0 := ho 0
          rw [Nat.add_zero, List.getElem?_cons_zero, hk] at h0
          injection h0 with h0
          subst h0
          have hb : (maskOf acc o2.after.toList).testBit j = true := by simpa [List.getD] using hb
          unfold maskOf at hb
          rcases maskOf_bit hb with h0 | ⟨e, he, hbe, hj⟩
          · simp at h0
          · have hLe := hA e (by simpa using he) hbe
            rcases hj with rfl | hj
            · exact hLe
            · cases hoe : ops[e.on]? with
              | none =>
                exfalso
                rcases Nat.lt_or_ge e.on acc.length with hq | hq
                · have hsz : e.on < ops.size := by
                    have hlt2 : acc.length < ops.size := (Array.getElem?_eq_some_iff.1 hk).1
                    omega
                  rw [Array.getElem?_eq_getElem hsz] at hoe
                  cases hoe
                · simp [List.getD, List.getElem?_eq_none hq] at hj
              | some oe => exact h e.on j oe hoe hj L hL (hL e.on oe hoe hLe)
        · have : (acc ++ [maskOf acc o.after.toList]).getD k 0 = 0 := by
            simp only [List.getD]
            rw [List.getElem?_eq_none (by simp; omega)]
            rfl
          rw [this] at hb
          simp at hb
    · intro i
      have := ho (i + 1)
      rw [List.getElem?_cons_succ] at this
      rw [← this]
      congr 1
      simp; omega
theorem waits_ok {k j : Nat} {o : Oper} (ho : ops[k]? = some o) (h : waits ops k j = true) {L : Nat → Bool} (hL : ∀ k o, ops[k]? = some o → L k = true → ∀ e ∈ o.after, Region.binds .any e = true → L e.on = true)
    (hA : ∀ e ∈ o.after, Region.binds .any e = true → L e.on = true) : L j = true := by
  refine masks_ok (ops := ops) ops.toList [] ?_ ?_ k j o ho h L hL hA
  · intro k j o _ hb
    simp [List.getD] at hb
  · intro i; simp

/-- What is known of operations that are ahead. -/
def Facts (ops : Array Oper) (R : Nat → Value → World → Prop) (a : Act) (w : World) : List Nat → Prop
  | [] => True
  | j :: l => (∃ v, inSlot ops a j v ∧ R j v w) ∧ Facts ops R a w l
theorem RInv.facts {a0 : Act} {S : World → Prop} {R : Nat → Value → World → Prop} {L : Nat → Bool} {a : Act} {w : World} (h : RInv ops a0 S R L a w) : ∀ (l : List Nat), (∀ j ∈ l, j < ops.size ∧ L j = true) → Facts ops R a w l
  | [], _ => trivial
  | j :: l, hl => ⟨h.got j (hl j (by simp)).1 (hl j (by simp)).2, h.facts l fun i hi => hl i (by simp [hi])⟩

/-! The walk's words for a region whose operations only make memory. -/
inductive Spec where
  | any
  | is (v : Value)
  | st (p : Value → World → Prop) (h : ∀ v w w', Below w.heap.size w w' → p v w → p v w')
def Spec.holds : Spec → Value → World → Prop
  | .any, _, _ => True
  | .is v, u, _ => u = v
  | .st p _, u, w => p u w
theorem Spec.keep : ∀ (s : Spec) {v : Value} {w w' : World}, Below w.heap.size w w' → s.holds v w → s.holds v w'
  | .any, _, _, _, _, _ => trivial
  | .is _, _, _, _, _, h => h
  | .st _ hp, v, w, w', hb, h => hp v w w' hb h

def putAll : List Oper → List Value → Act → Act
  | o :: os, v :: vs, a => putAll os vs (a.put o.dst v)
  | _, _, a => a
theorem putAll_size : ∀ (os : List Oper) (vs : List Value) (a : Act), (putAll os vs a).tmps.size = a.tmps.size
  | [], _, _ => by simp [putAll]
  | _ :: _, [], _ => by simp [putAll]
  | o :: os, v :: vs, a => by
    rw [putAll, putAll_size os vs]
    cases o.dst <;> simp [Act.put]
theorem putAll_defers : ∀ (os : List Oper) (vs : List Value) (a : Act), (putAll os vs a).defers = a.defers
  | [], _, _ => by simp [putAll]
  | _ :: _, [], _ => by simp [putAll]
  | o :: os, v :: vs, a => by
    rw [putAll, putAll_defers os vs]
    cases o.dst <;> simp [Act.put]
theorem putAll_other {d : Tmp} : ∀ (os : List Oper) (vs : List Value) (a : Act), (∀ k : Nat, (os[k]?).bind (·.dst) ≠ some d) → (putAll os vs a).tmps[d]? = a.tmps[d]?
  | [], _, _, _ => by simp [putAll]
  | _ :: _, [], _, _ => by simp [putAll]
  | o :: os, v :: vs, a, h => by
    rw [putAll, putAll_other os vs _ (fun k => by simpa using h (k + 1))]
    have h0 : o.dst ≠ some d := by simpa using h 0
    cases hx : o.dst with
    | none => rfl
    | some d2 =>
      rw [hx] at h0
      show (a.tmps.setIfInBounds d2 v)[d]? = a.tmps[d]?
      exact Array.getElem?_setIfInBounds_ne (fun e => h0 (by rw [e]))
theorem putAll_at {d : Tmp} {v : Value} : ∀ (os : List Oper) (vs : List Value) (a : Act) (k : Nat), (os[k]?).bind (·.dst) = some d → vs[k]? = some v → (∀ j, k ≠ j → (os[j]?).bind (·.dst) ≠ some d) → d < a.tmps.size → (putAll os vs a).tmps[d]? = some v
  | [], _, _, k, hd, _, _, _ => by simp at hd
  | _ :: _, [], _, k, _, hv, _, _ => by simp at hv
  | o :: os, u :: vs, a, 0, hd, hv, hn, hlt => by
    have hd : o.dst = some d := by simpa using hd
    have hv : u = v := by simpa using hv
    subst hv
    rw [putAll, putAll_other os vs _ (fun k => by simpa using hn (k + 1) (by omega)), hd]
    show (a.tmps.setIfInBounds d u)[d]? = some u
    simp [hlt]
  | o :: os, u :: vs, a, k + 1, hd, hv, hn, hlt => by
    rw [putAll]
    refine putAll_at os vs _ k (by simpa using hd) (by simpa using hv) (fun j hj => by simpa using hn (j + 1) (by omega)) ?_
    cases o.dst <;> simpa [Act.put] using hlt

theorem vals_of {a : Act} {w : World} {R : Nat → Value → World → Prop} : ∀ (n : Nat), (∀ k, k < n → ∃ v, inSlot ops a k v ∧ R k v w) → ∃ vals : List Value, vals.length = n ∧ ∀ k v, vals[k]? = some v → inSlot ops a k v ∧ R k v w
  | 0, _ => ⟨[], rfl, by simp⟩
  | n + 1, h => by
    obtain ⟨vals, hl, hv⟩ := vals_of n fun k hk => h k (by omega)
    obtain ⟨v, hv2⟩ := h n (by omega)
    refine ⟨vals ++ [v], by simp [hl], fun k u hu => ?_⟩
    rcases Nat.lt_or_ge k n with hlt | hge
    · rw [List.getElem?_append_left (by omega)] at hu
      exact hv k u hu
    · by_cases he : k = n
      · subst he
        rw [List.getElem?_append_right (by omega), hl, Nat.sub_self] at hu
        simp at hu
        subst hu; exact hv2
      · rw [List.getElem?_eq_none (by simp; omega)] at hu
        cases hu

/-- A region that draws its order, whose operations leave all memory that was there as it was. -/
theorem wp_region_b {id : Nat} {a0 : Act} {W : World} (hm : P.follows .mixedOrders = true) (R : Nat → Spec) (hf : fitOps ops a0.tmps.size = true)
    (hall : AllOk P Q ops a0 (fun w => Below W.heap.size W w) (fun k v w => (R k).holds v w) (fun w w' => Below w.heap.size w w') 0 ops.toList)
    (hend : ∀ (vals : List Value) (w : World), vals.length = ops.size → Below W.heap.size W w → (∀ k v, vals[k]? = some v → (R k).holds v w) → Q .normal (putAll ops.toList vals a0) w) :
    (Code.region id ops true).wp P Q a0 W := by
  refine wp_region_any hm ?_
  refine wpAny_inv (S := fun w => Below W.heap.size W w) (R := fun k v w => (R k).holds v w) (T := fun w w' => Below w.heap.size w w') hf (fun w w' h1 h2 => h1.trans (h2.mono h1.size)) (fun k v w w' _ h2 h3 => (R k).keep h2 h3) hall ?_ _ _ _ _ (by simp) (by simp) ?_
  · intro a w L hL hi
    obtain ⟨vals, hl, hv⟩ := vals_of (ops := ops) (a := a) (w := w) (R := fun k v w => (R k).holds v w) ops.size fun k hk => hi.got k hk (hL k hk)
    have : a = putAll ops.toList vals a0 := by
      obtain ⟨tm, df⟩ := a
      have h1 : tm = (putAll ops.toList vals a0).tmps := by
        apply Array.ext_getElem?
        intro d
        by_cases hd : ∃ k : Nat, (ops[k]?).bind (·.dst) = some d
        · obtain ⟨k, hk⟩ := hd
          have hlt : k < ops.size := by
            rcases Nat.lt_or_ge k ops.size with h | h
            · exact h
            · rw [Array.getElem?_eq_none h] at hk; cases hk
          have hg : vals[k]? = some vals[k] := List.getElem?_eq_getElem (by omega)
          have h2 := (hv k _ hg).1
          unfold inSlot at h2
          rw [hk] at h2
          simp only at h2
          rw [h2]
          symm
          refine putAll_at _ _ _ k (by simpa using hk) hg (fun j hj => ?_) (fit_lt hf (i := k) hk)
          have := fit_ne hf (i := k) (j := j) hj (d := d) hk
          simpa [dstOf] using this
        · have hd : ∀ k : Nat, (ops[k]?).bind (·.dst) ≠ some d := fun k hk => hd ⟨k, hk⟩
          rw [putAll_other _ _ _ (fun k => by simpa using hd k)]
          exact hi.old d hd
      have h2 : df = (putAll ops.toList vals a0).defers := by rw [putAll_defers]; exact hi.defers
      rw [h1, h2]
    rw [this]
    exact hend vals w hl hi.s fun k v h => (hv k v h).2
  · refine ⟨?_, rfl, rfl, fun _ _ => rfl, ?_, ?_⟩
    · exact Below.drew (Below.refl _ _)
    · intro k _ hk
      simp [Array.getD] at hk
    · intro k o _ hk
      simp [Array.getD] at hk

section
variable {a0 : Act} {W : World} {R : Nat → Spec} {k : Nat} {o : Oper}
abbrev BOk (P : Program) (Q : Exit → Act → World → Prop) (ops : Array Oper) (a0 : Act) (W : World) (R : Nat → Spec) (k : Nat) (l : List Oper) : Prop :=
  AllOk P Q ops a0 (fun w => Below W.heap.size W w) (fun k v w => (R k).holds v w) (fun w w' => Below w.heap.size w w') k l
/-- No operation of the region writes slot d. -/
def outer (ops : Array Oper) (d : Nat) : Bool := ops.all fun o => o.dst != some d
theorem outer_ok {d : Nat} (h : outer ops d = true) : ∀ k : Nat, (ops[k]?).bind (·.dst) ≠ some d := by
  intro k hk
  cases ho : ops[k]? with
  | none => rw [ho] at hk; cases hk
  | some o =>
    rw [ho, Option.bind_some] at hk
    unfold outer at h
    rw [Array.all_eq_true'] at h
    have := h o (Array.mem_of_getElem? ho)
    simp [hk] at this
def Outers (ops : Array Oper) (a0 a : Act) : List Nat → Prop
  | [] => True
  | d :: l => a.tmps[d]? = a0.tmps[d]? ∧ Outers ops a0 a l
theorem outers_ok {a : Act} (h : ∀ d, (∀ k : Nat, (ops[k]?).bind (·.dst) ≠ some d) → a.tmps[d]? = a0.tmps[d]?) : ∀ (l : List Nat), l.all (outer ops) = true → Outers ops a0 a l
  | [], _ => trivial
  | d :: l, hl => by
    simp only [List.all_cons, Bool.and_eq_true] at hl
    exact ⟨h d (outer_ok hl.1), outers_ok h l hl.2⟩
theorem facts_ok {L : Nat → Bool} {a : Act} {w : World} {S : World → Prop} {R : Nat → Value → World → Prop} (hi : RInv ops a0 S R L a w) (ho : ops[k]? = some o) (hA : ∀ e ∈ o.after, Region.binds .any e = true → L e.on = true)
    {l : List Nat} (hl : (l.all fun j => decide (j < ops.size) && waits ops k j) = true) : Facts ops R a w l := by
  refine hi.facts l fun j hj => ?_
  have := List.all_eq_true.1 hl j hj
  simp only [Bool.and_eq_true, decide_eq_true_eq] at this
  exact ⟨this.1, waits_ok ho this.2 hi.closed hA⟩

/-- An operation without a guard. -/
theorem BOk.cons {rest : List Oper} (ho : ops[k]? = some o) (l ds : List Nat) (hg : o.guard = none) (hl : (l.all fun j => decide (j < ops.size) && waits ops k j) = true) (hds : ds.all (outer ops) = true)
    (h : ∀ (K : Act → World → Prop) (a : Act) (w : World), Below W.heap.size W w → Outers ops a0 a ds → Facts ops (fun k v w => (R k).holds v w) a w l → (∀ v w', Below w.heap.size w w' → (R k).holds v w' → K (a.put o.dst v) w') → o.wp P a w K Q)
    (hr : BOk P Q ops a0 W R (k + 1) rest) : BOk P Q ops a0 W R k (o :: rest) := by
  refine ⟨fun K L a w hi hA hK => ?_, hr⟩
  rw [if_pos (by unfold Region.wanted; rw [hg])]
  exact h K a w hi.s (outers_ok hi.old ds hds) (facts_ok hi ho hA hl) hK

theorem guard_val {a : Act} {w : World} {g : Nat} {b : Bool} {R : Nat → Spec} (hR : R g = .is (.bool b)) (hd : ((ops[g]?).bind (·.dst)).isSome = true) (h : ∃ v, inSlot ops a g v ∧ (R g).holds v w) : yielded ops a.tmps g = some b := by
  obtain ⟨v, h1, h2⟩ := h
  rw [hR] at h2
  have h2 : v = .bool b := h2
  subst h2
  unfold inSlot at h1
  unfold yielded
  cases hx : (ops[g]?).bind (·.dst) with
  | none => rw [hx] at hd; cases hd
  | some d =>
    rw [hx] at h1
    simp only at h1
    simp [h1]
/-- An operation whose guard lets it run. -/
theorem BOk.yes {rest : List Oper} (ho : ops[k]? = some o) (l ds : List Nat) (g : Nat) (b : Bool) (hg : o.guard = some (g, b)) (hR : R g = .is (.bool b)) (hd : ((ops[g]?).bind (·.dst)).isSome = true) (hw : (decide (g < ops.size) && waits ops k g) = true)
    (hl : (l.all fun j => decide (j < ops.size) && waits ops k j) = true) (hds : ds.all (outer ops) = true)
    (h : ∀ (K : Act → World → Prop) (a : Act) (w : World), Below W.heap.size W w → Outers ops a0 a ds → Facts ops (fun k v w => (R k).holds v w) a w l → (∀ v w', Below w.heap.size w w' → (R k).holds v w' → K (a.put o.dst v) w') → o.wp P a w K Q)
    (hr : BOk P Q ops a0 W R (k + 1) rest) : BOk P Q ops a0 W R k (o :: rest) := by
  refine ⟨fun K L a w hi hA hK => ?_, hr⟩
  have hy : yielded ops a.tmps g = some b := guard_val (w := w) hR hd (facts_ok hi ho hA (l := [g]) (by simpa using hw)).1
  rw [if_pos (by unfold Region.wanted; rw [hg]; simp [hy])]
  exact h K a w hi.s (outers_ok hi.old ds hds) (facts_ok hi ho hA hl) hK
/-- An operation that its guard leaves out. -/
theorem BOk.no {rest : List Oper} (ho : ops[k]? = some o) (g : Nat) (b : Bool) (hg : o.guard = some (g, b)) (hR : R g = .is (.bool (!b))) (hd : ((ops[g]?).bind (·.dst)).isSome = true) (hw : (decide (g < ops.size) && waits ops k g) = true)
    (hu : ∀ w, (R k).holds undef w)
    (hr : BOk P Q ops a0 W R (k + 1) rest) : BOk P Q ops a0 W R k (o :: rest) := by
  refine ⟨fun K L a w hi hA hK => ?_, hr⟩
  have hy : yielded ops a.tmps g = some (!b) := guard_val (w := w) hR hd (facts_ok hi ho hA (l := [g]) (by simpa using hw)).1
  rw [if_neg (by unfold Region.wanted; rw [hg]; simp [hy])]
  exact hK undef w (Below.refl _ _) (hu w)
theorem BOk.nil : BOk P Q ops a0 W R k [] := trivial
end
end
end Go.Proofs.Ytlejjchaooeabaa
