/- What can be read as data, opened to cells: one step a kind of type. Plain. -/
import Derived.Test.YtbopndepklafgaaDoorLaw
import Derived.Deep.Slices
namespace Go.Proofs.YtbopndepklafgaaDoor
open Go.ChangeShapes Go.WideShapes Go.ChangeAt Go.RowKit

section
variable {H : Type} (enc : TypeId × Value → H) (P : Program) (w : World)

/-- Whatever reads as data of the type t, by at most N steps, within the reach, is of the form R. -/
def Opens (N : Nat) (t : TypeId) (R : List Value → Prop) : Prop :=
  ∀ fuel, fuel ≤ N → ∀ (cs : List Value) (y : DataW H × List MemPlace), DataW.trod enc P w 0 (fun _ => true) true fuel t cs = some y → (y.1.weights P t).all (· ≤ reachBytes) = true → R cs

variable {enc P w} {N : Nat} {t : TypeId} {R R' : List Value → Prop}

theorem Opens.imp (h : Opens enc P w N t R) (hr : ∀ cs, R cs → R' cs) : Opens enc P w N t R' := fun fuel hf cs y hy hw => hr _ (h fuel hf cs y hy hw)

theorem opens_int {k : IntKind} (ht : P.underlying t = some (.int k)) : Opens enc P w N t (fun cs => ∃ n, cs = [.int k n] ∧ (Lit.int k n).wf = true) := by
  intro fuel _ cs y hy _
  obtain ⟨n, h1, _, h2⟩ := DataW.trod_int ht hy
  exact ⟨n, h1, h2⟩
theorem opens_bool (ht : P.underlying t = some .bool) : Opens enc P w N t (fun cs => ∃ b, cs = [.bool b]) := by
  intro fuel _ cs y hy _
  obtain ⟨b, h1, _⟩ := DataW.trod_bool ht hy
  exact ⟨b, h1⟩
theorem opens_string (ht : P.underlying t = some .string) : Opens enc P w N t (fun cs => ∃ s : ByteArray, cs = [.string s] ∧ s.size ≤ 140737488351232) := by
  intro fuel _ cs y hy hw
  obtain ⟨s, h1, h2, _⟩ := DataW.trod_string ht hy
  subst h2
  refine ⟨s, h1, ?_⟩
  have := List.all_eq_true.1 hw s.data.toList.length (by simp [DataW.weights])
  rw [Array.length_toList] at this
  exact of_decide_eq_true this

theorem weights_all {e : TypeId} : ∀ {l : List (DataW H)}, (DataW.weightsAll P e l).all (· ≤ reachBytes) = true → ∀ d ∈ l, (d.weights P e).all (· ≤ reachBytes) = true
  | [], _, d, hd => by cases hd
  | x :: l, h, d, hd => by
    simp only [DataW.weightsAll, List.all_append, Bool.and_eq_true] at h
    rcases List.mem_cons.1 hd with rfl | hd
    · exact h.1
    · exact weights_all h.2 d hd
theorem weights_each : ∀ {ts : List TypeId} {l : List (DataW H)} {i : Nat} {t : TypeId} {d : DataW H}, (DataW.weightsEach P ts l).all (· ≤ reachBytes) = true → ts[i]? = some t → l[i]? = some d → (d.weights P t).all (· ≤ reachBytes) = true
  | t0 :: ts, d0 :: l, 0, t, d, h, ht, hd => by
    simp only [DataW.weightsEach, List.all_append, Bool.and_eq_true] at h
    simp only [List.getElem?_cons_zero, Option.some.injEq] at ht hd
    subst ht; subst hd; exact h.1
  | t0 :: ts, d0 :: l, i + 1, t, d, h, ht, hd => by
    simp only [DataW.weightsEach, List.all_append, Bool.and_eq_true] at h
    simp only [List.getElem?_cons_succ] at ht hd
    exact weights_each h.2 ht hd
  | [], _, _, _, _, _, ht, _ => by simp at ht
  | _ :: _, [], _, _, _, _, _, hd => by simp at hd

/-- A struct: each field by itself. -/
theorem opens_struct {fs : Array Field} (ht : P.underlying t = some (.struct fs)) {F : Nat → List Value → Prop} (hF : ∀ i f, fs[i]? = some f → Opens enc P w N f.type (F i)) :
    Opens enc P w (N + 1) t (fun cs => cs.length = P.cellsOf t ∧ ∀ i f, fs[i]? = some f → F i ((cs.drop f.offset).take (P.cellsOf f.type))) := by
  intro fuel hf cs y hy hw
  obtain ⟨xs, n, hn, hx, hl, hlx, hg⟩ := DataW.trod_struct ht hy
  subst hx
  refine ⟨hl, fun i f hi => ?_⟩
  have hlt : i < fs.size := (Array.getElem?_eq_some_iff.1 hi).1
  have hy := hg i f hi
  rw [List.getElem?_eq_getElem (by omega)] at hy
  refine hF i f hi n (by omega) _ _ hy ?_
  simp only [DataW.weights, ht] at hw
  refine weights_each hw (i := i) ?_ ?_
  · rw [List.getElem?_map]
    have : fs.toList[i]? = some f := by simpa using hi
    rw [this]; rfl
  · rw [List.getElem?_map, List.getElem?_eq_getElem (by omega)]; rfl

/-- A slice: its elements as a list, its capacity within the reach. -/
theorem opens_slice {e : TypeId} {n b : Nat} {α : Type} {f : α → List Value} {Q : α → Prop} (ht : P.underlying t = some (.slice e)) (hn : P.cellsOf e = n) (hpos : 0 < n) (hb : P.bytesOf e = b) (hlen : ∀ x, (f x).length = n)
    (he : Opens enc P w N e (fun cs => ∃ x, cs = f x ∧ Q x)) :
    Opens enc P w (N + 1) t (fun cs => ∃ (A : Option Addr) (c : Nat) (l : List α), cs = [.slice A l.length c] ∧ l.length ≤ c ∧ c * b ≤ 140737488351232 ∧ Rd w w.heap.size A (l.flatMap f) ∧ ∀ x ∈ l, Q x) := by
  intro fuel hf cs y hy hw
  rcases DataW.trod_slice ht hy with ⟨hcs, _⟩ | ⟨a, len, cap, elems, rest, m, hm, hcs, hx, _, hlc, _, hel, hcell, hsp, _⟩
  · exact ⟨none, 0, [], hcs, Nat.le_refl _, by omega, Rd.nil, by simp⟩
  subst hx
  simp only [DataW.weights, ht, List.all_cons, List.all_append, Bool.and_eq_true] at hw
  obtain ⟨hw0, hw1, hw2⟩ := hw
  have hrest := (hsp rfl).1
  have hcap : cap * b ≤ 140737488351232 := by
    have := of_decide_eq_true hw0
    simp only [List.length_map, hel, hrest, hb] at this
    have e : len + (cap - len) = cap := by omega
    rw [e] at this
    exact this
  -- each element
  have each : ∀ i, i < len → ∃ x : α, w.cells? 0 (a.add (i * n)) n = some (f x) ∧ Q x := by
    intro i hi
    have h1 := hcell i hi
    rw [List.getElem?_eq_getElem (by omega), hn] at h1
    obtain ⟨cs', h2, h3⟩ := Option.bind_eq_some_iff.1 h1
    obtain ⟨x, rfl, hq⟩ := he m (by omega) cs' _ h3 (weights_all hw1 _ (List.mem_map_of_mem (List.getElem_mem _)))
    exact ⟨x, h2, hq⟩
  obtain ⟨l, hl, hall⟩ : ∃ l : List α, l.length = len ∧ ∀ i (hi : i < l.length), w.cells? 0 (a.add (i * n)) n = some (f l[i]) ∧ Q l[i] := by
    refine ⟨(List.range len).attach.map fun i => (each i.1 (List.mem_range.1 i.2)).choose, by simp, fun i hi => ?_⟩
    simp only [List.getElem_map, List.getElem_attach, List.getElem_range]
    exact (each i (by simpa using hi)).choose_spec
  subst hl
  refine ⟨some a, cap, l, hcs, hlc, hcap, ?_, ?_⟩
  · rcases Nat.eq_zero_or_pos l.length with h0 | h0
    · have : l = [] := List.eq_nil_of_length_eq_zero h0
      subst this; exact .inl rfl
    -- the address
    have h00 := World.cells?_some (hall 0 h0).1
    have hv := h00.2.2 0 hpos
    rw [List.getElem?_eq_getElem (by rw [hlen]; exact hpos)] at hv
    have ha : (a.add (0 * n)).add 0 = a := by simp [Addr.add]
    rw [ha] at hv
    have hblk := World.block_lt_of_cell? w a hv
    have hspot : a.spot = none := by
      unfold World.cell? at hv
      split at hv
      · split at hv
        · cases hv
        · rename_i h; simpa using h
      · cases hv
    obtain ⟨blk, off, sp⟩ := a
    simp only at hspot hblk
    subst hspot
    refine .inr ⟨blk, off, rfl, hblk, fun j u hu => ?_⟩
    have hj : j < l.length * n := by have := (List.getElem?_eq_some_iff.1 hu).1; rwa [flat_len f hlen] at this
    have hdm : j = j / n * n + j % n := by rw [Nat.mul_comm]; exact (Nat.div_add_mod j n).symm
    have hq : j / n < l.length := (Nat.div_lt_iff_lt_mul hpos).2 hj
    have hr : j % n < n := Nat.mod_lt _ hpos
    have hfl := flat_at f hlen l (j / n) (j % n) hq hr
    rw [← hdm, hu] at hfl
    have hc := (World.cells?_some (hall (j / n) hq).1).2.2 (j % n) hr
    rw [← hfl, Deep.add_add] at hc
    have e : ((⟨blk, off, none⟩ : Addr).add (j / n * n + j % n)) = ⟨blk, off + j, none⟩ := by
      rw [← hdm]
      unfold Addr.add
      by_cases h : j = 0 <;> simp [h]
    rw [e] at hc
    exact hc
  · intro x hx
    obtain ⟨i, hi, rfl⟩ := List.mem_iff_getElem.1 hx
    exact (hall i hi).2

end
theorem flat_one {α β : Type} (f : α → β) (l : List α) : l.flatMap (fun s => [f s]) = l.map f := by
  induction l with
  | nil => rfl
  | cons x l ih => rw [List.flatMap_cons, ih]; rfl

/-- Two fields of one cell each. -/
theorem two_fields {fs : Array Field} {t0 t1 : TypeId} (h : fs.toList.map (fun f => (f.type, f.offset)) = [(t0, 0), (t1, 1)]) :
    ∃ f0 f1 : Field, fs = #[f0, f1] ∧ f0.type = t0 ∧ f0.offset = 0 ∧ f1.type = t1 ∧ f1.offset = 1 := by
  obtain ⟨l⟩ := fs
  have hl : l.length = 2 := by simpa using congrArg List.length h
  match l, hl, h with
  | [f0, f1], _, h =>
    simp only [List.map_cons, List.map_nil, List.cons.injEq, Prod.mk.injEq, and_true] at h
    exact ⟨f0, f1, rfl, h.1.1, h.1.2, h.2.1, h.2.2⟩

section
variable {H : Type} {enc : TypeId × Value → H} {P : Program} {w : World} {N : Nat} {t : TypeId}
theorem opens_struct2 {fs : Array Field} {t0 t1 : TypeId} {R0 R1 : Value → Prop} (ht : P.underlying t = some (.struct fs)) (h : fs.toList.map (fun f => (f.type, f.offset)) = [(t0, 0), (t1, 1)]) (hc : P.cellsOf t = 2)
    (c0 : P.cellsOf t0 = 1) (c1 : P.cellsOf t1 = 1) (h0 : Opens enc P w N t0 (fun cs => ∃ v, cs = [v] ∧ R0 v)) (h1 : Opens enc P w N t1 (fun cs => ∃ v, cs = [v] ∧ R1 v)) :
    Opens enc P w (N + 1) t (fun cs => ∃ u v, cs = [u, v] ∧ R0 u ∧ R1 v) := by
  obtain ⟨f0, f1, rfl, e0, o0, e1, o1⟩ := two_fields h
  refine (opens_struct ht (F := fun i cs => match i with | 0 => ∃ v, cs = [v] ∧ R0 v | 1 => ∃ v, cs = [v] ∧ R1 v | _ => True) (N := N) ?_).imp ?_
  · intro i f hi
    match i, hi with
    | 0, hi => simp at hi; subst hi; rw [e0]; exact h0
    | 1, hi => simp at hi; subst hi; rw [e1]; exact h1
    | i + 2, hi => simp at hi
  · rintro cs ⟨hl, hf⟩
    rw [hc] at hl
    match cs, hl with
    | [a, b], _ =>
      obtain ⟨u, hu, hr0⟩ := hf 0 f0 rfl
      obtain ⟨v, hv, hr1⟩ := hf 1 f1 rfl
      rw [e0, c0, o0] at hu
      rw [e1, c1, o1] at hv
      simp at hu hv
      subst hu; subst hv
      exact ⟨a, b, rfl, hr0, hr1⟩
end


section
variable {H : Type} {enc : TypeId × Value → H} {P : Program} {w : World} {N : Nat} {t : TypeId} {R R' : List Value → Prop}
/-- An argument. -/
theorem Opens.arg (h : ∀ N, Opens enc P w N t R) {v : Value} {d : DataW H} {p : List MemPlace} (ht : DataW.Trod enc P w 0 (fun _ => true) true t v d p) (hw : (d.weights P t).all (· ≤ reachBytes) = true) : R v.cells.toList := by
  obtain ⟨fuel, hf⟩ := ht
  exact h fuel fuel (Nat.le_refl _) _ _ hf hw
end
end Go.Proofs.YtbopndepklafgaaDoor
