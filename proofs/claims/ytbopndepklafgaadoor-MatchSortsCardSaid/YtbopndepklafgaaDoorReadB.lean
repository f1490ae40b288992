/- What can be read as data and is of bounded bulk, opened to cells: one step a kind of type. Plain. -/
import Derived.Test.YtbopndepklafgaaDoorRead
import Derived.Test.YtbopndepklafgaaDoorRows
import Derived.OpenShut
namespace Go.Proofs.YtbopndepklafgaaDoor
open Go.ChangeShapes Go.WideShapes Go.ChangeAt Go.RowKit

theorem okWide_array {P : Program} {w : World} {r : Reach} {base : Nat} {t e : TypeId} {n : Nat} {v : Value} (ht : P.underlying t = some (.array n e)) (h : Value.okWide P w r base t v) : ∃ cs, v = .agg cs ∧ cs.size = P.cellsOf t := by
  simp only [Value.okWide, ht] at h
  obtain ⟨cs, h1, h2, _⟩ := h
  exact ⟨cs, h1, h2⟩
theorem bulk_part {H : Type} {d : DataW H} {l : List (DataW H)} (h : d ∈ l) : Rows.uptoBulk d ≤ Rows.uptoBulkAll l := by
  induction l with
  | nil => cases h
  | cons x r ih =>
    simp only [Rows.uptoBulkAll]
    cases List.mem_cons.1 h with
    | inl e => subst e; omega
    | inr e => have := ih e; omega
theorem bulk_one {H : Type} (d : DataW H) : 1 ≤ Rows.uptoBulk d := by
  cases d with
  | lit l => cases l <;> simp [Rows.uptoBulk]
  | nil => simp [Rows.uptoBulk]
  | ptr d => simp [Rows.uptoBulk]
  | slice elems spare => simp [Rows.uptoBulk]
  | agg parts => simp [Rows.uptoBulk]
  | iface t d => simp [Rows.uptoBulk]
  | map entries => simp [Rows.uptoBulk]
  | held h => simp [Rows.uptoBulk]
theorem bulk_len {H : Type} (l : List (DataW H)) : l.length ≤ Rows.uptoBulkAll l := by
  induction l with
  | nil => simp [Rows.uptoBulkAll]
  | cons x r ih => have := bulk_one x; simp only [Rows.uptoBulkAll, List.length_cons]; omega

section
variable {H : Type} (enc : TypeId × Value → H) (P : Program) (w : World)
/-- Whatever reads as data of the type t, by at most N steps, within the reach, of bounded bulk, is of the form R. -/
def OpensB (N : Nat) (t : TypeId) (R : List Value → Prop) : Prop :=
  ∀ fuel, fuel ≤ N → ∀ (cs : List Value) (y : DataW H × List MemPlace), DataW.trod enc P w 0 (fun _ => true) true fuel t cs = some y → (y.1.weights P t).all (· ≤ reachBytes) = true → Rows.uptoBulk y.1 ≤ 1048576 → R cs
variable {enc P w} {N : Nat} {t : TypeId} {R R' : List Value → Prop}
theorem OpensB.imp (h : OpensB enc P w N t R) (hr : ∀ cs, R cs → R' cs) : OpensB enc P w N t R' := fun fuel hf cs y hy hw hb => hr _ (h fuel hf cs y hy hw hb)
theorem Opens.b (h : Opens enc P w N t R) : OpensB enc P w N t R := fun fuel hf cs y hy hw _ => h fuel hf cs y hy hw
theorem opensB_zero : OpensB enc P w 0 t R := by
  intro fuel hf cs y hy
  obtain rfl : fuel = 0 := by omega
  simp [DataW.trod] at hy
/-- A string of bounded bulk. -/
theorem opensB_string (ht : P.underlying t = some .string) : OpensB enc P w N t (fun cs => ∃ s : ByteArray, cs = [.string s] ∧ s.size ≤ 1048576) := by
  intro fuel _ cs y hy hw hb
  obtain ⟨s, h1, h2, _⟩ := DataW.trod_string ht hy
  subst h2
  refine ⟨s, h1, ?_⟩
  simp only [Rows.uptoBulk] at hb
  have e : s.data.toList.length = s.size := by rw [Array.length_toList]; rfl
  omega
/-- A struct: each field by itself, by its place. -/
theorem opensB_struct {fs : Array Field} {ts : List (TypeId × Nat)} (ht : P.underlying t = some (.struct fs)) (h : fs.toList.map (fun f => (f.type, f.offset)) = ts) {F : Nat → List Value → Prop}
    (hF : ∀ (i : Nat) (p : TypeId × Nat), ts[i]? = some p → OpensB enc P w N p.1 (F i)) :
    OpensB enc P w (N + 1) t (fun cs => cs.length = P.cellsOf t ∧ ∀ (i : Nat) (p : TypeId × Nat), ts[i]? = some p → F i ((cs.drop p.2).take (P.cellsOf p.1))) := by
  intro fuel hf cs y hy hw hb
  obtain ⟨xs, n, hn, hx, hl, hlx, hg⟩ := DataW.trod_struct ht hy
  subst hx
  refine ⟨hl, fun i p hi => ?_⟩
  rw [← h, List.getElem?_map] at hi
  obtain ⟨f, hfi, rfl⟩ := Option.map_eq_some_iff.1 hi
  have hfi : fs[i]? = some f := by simpa using hfi
  have hlt : i < fs.size := (Array.getElem?_eq_some_iff.1 hfi).1
  have hy := hg i f hfi
  rw [List.getElem?_eq_getElem (by omega)] at hy
  refine hF i (f.type, f.offset) (by rw [← h, List.getElem?_map]; simp [hfi]) n (by omega) _ _ hy ?_ ?_
  · simp only [DataW.weights, ht] at hw
    refine weights_each hw (i := i) ?_ ?_
    · rw [List.getElem?_map]
      have : fs.toList[i]? = some f := by simpa using hfi
      rw [this]; rfl
    · rw [List.getElem?_map, List.getElem?_eq_getElem (by omega)]; rfl
  · simp only [Rows.uptoBulk] at hb
    have := bulk_part (List.mem_map_of_mem (f := fun x : DataW H × List MemPlace => x.1) (List.getElem_mem (l := xs) (by omega : i < xs.length)))
    omega
/-- An array of elements. -/
theorem opensB_array {e : TypeId} {n : Nat} {F : List Value → Prop} (ht : P.underlying t = some (.array n e)) (he : OpensB enc P w N e F) :
    OpensB enc P w (N + 1) t (fun cs => cs.length = P.cellsOf t ∧ ∀ i, i < n → F ((cs.drop (i * P.cellsOf e)).take (P.cellsOf e))) := by
  intro fuel hf cs y hy hw hb
  obtain ⟨xs, m, hn, hx, hl, hlx, hg⟩ := DataW.trod_array ht hy
  subst hx
  refine ⟨hl, fun i hi => ?_⟩
  have hy := hg i hi
  rw [List.getElem?_eq_getElem (by omega)] at hy
  have hmem := List.mem_map_of_mem (f := fun x : DataW H × List MemPlace => x.1) (List.getElem_mem (l := xs) (by omega : i < xs.length))
  simp only [DataW.weights, ht] at hw
  refine he m (by omega) _ _ hy (weights_all hw _ hmem) ?_
  simp only [Rows.uptoBulk] at hb
  have := bulk_part hmem
  omega
/-- A slice: its elements as a list, no longer than the bulk. -/
theorem opensB_slice {e : TypeId} {n : Nat} {α : Type} {f : α → List Value} {Q : α → Prop} (ht : P.underlying t = some (.slice e)) (hn : P.cellsOf e = n) (hpos : 0 < n) (hlen : ∀ x, (f x).length = n)
    (he : OpensB enc P w N e (fun cs => ∃ x, cs = f x ∧ Q x)) :
    OpensB enc P w (N + 1) t (fun cs => ∃ (A : Option Addr) (c : Nat) (l : List α), cs = [.slice A l.length c] ∧ l.length ≤ c ∧ l.length ≤ 1048576 ∧ Rd w w.heap.size A (l.flatMap f) ∧ ∀ x ∈ l, Q x) := by
  intro fuel hf cs y hy hw hbk
  rcases DataW.trod_slice ht hy with ⟨hcs, _⟩ | ⟨a, len, cap, elems, rest, m, hm, hcs, hx, _, hlc, _, hel, hcell, hsp, _⟩
  · exact ⟨none, 0, [], hcs, Nat.le_refl _, by simp, Rd.nil, by simp⟩
  subst hx
  simp only [DataW.weights, ht, List.all_cons, List.all_append, Bool.and_eq_true] at hw
  obtain ⟨hw0, hw1, hw2⟩ := hw
  simp only [Rows.uptoBulk] at hbk
  have hlb := bulk_len (elems.map (·.1))
  rw [List.length_map] at hlb
  have each : ∀ i, i < len → ∃ x : α, w.cells? 0 (a.add (i * n)) n = some (f x) ∧ Q x := by
    intro i hi
    have h1 := hcell i hi
    rw [List.getElem?_eq_getElem (by omega), hn] at h1
    obtain ⟨cs', h2, h3⟩ := Option.bind_eq_some_iff.1 h1
    have hmem := List.mem_map_of_mem (f := fun x : DataW H × List MemPlace => x.1) (List.getElem_mem (l := elems) (by omega : i < elems.length))
    obtain ⟨x, rfl, hq⟩ := he m (by omega) cs' _ h3 (weights_all hw1 _ hmem) (by have := bulk_part hmem; omega)
    exact ⟨x, h2, hq⟩
  obtain ⟨l, hl, hall⟩ : ∃ l : List α, l.length = len ∧ ∀ i (hi : i < l.length), w.cells? 0 (a.add (i * n)) n = some (f l[i]) ∧ Q l[i] := by
    refine ⟨(List.range len).attach.map fun i => (each i.1 (List.mem_range.1 i.2)).choose, by simp, fun i hi => ?_⟩
    simp only [List.getElem_map, List.getElem_attach, List.getElem_range]
    exact (each i (by simpa using hi)).choose_spec
  subst hl
  refine ⟨some a, cap, l, hcs, hlc, by omega, ?_, ?_⟩
  · rcases Nat.eq_zero_or_pos l.length with h0 | h0
    · have : l = [] := List.eq_nil_of_length_eq_zero h0
      subst this; exact .inl rfl
    have h00 := World.cells?_some (hall 0 h0).1
    have hv := h00.2.2 0 hpos
    rw [List.getElem?_eq_getElem (by rw [hlen]; exact hpos)] at hv
    have ha : (a.add (0 * n)).add 0 = a := by simp [Addr.add]
    rw [ha] at hv
    have hblk := World.block_lt_of_cell? w a hv
    have hspot : a.spot = none := by
      unfold World.cell? at hv
      split at hv
      · split at hv
        · cases hv
        · rename_i h; simpa using h
      · cases hv
    obtain ⟨blk, off, sp⟩ := a
    simp only at hspot hblk
    subst hspot
    refine .inr ⟨blk, off, rfl, hblk, fun j u hu => ?_⟩
    have hj : j < l.length * n := by have := (List.getElem?_eq_some_iff.1 hu).1; rwa [flat_len f hlen] at this
    have hdm : j = j / n * n + j % n := by rw [Nat.mul_comm]; exact (Nat.div_add_mod j n).symm
    have hq : j / n < l.length := (Nat.div_lt_iff_lt_mul hpos).2 hj
    have hr : j % n < n := Nat.mod_lt _ hpos
    have hfl := flat_at f hlen l (j / n) (j % n) hq hr
    rw [← hdm, hu] at hfl
    have hc := (World.cells?_some (hall (j / n) hq).1).2.2 (j % n) hr
    rw [← hfl, Deep.add_add] at hc
    have e : ((⟨blk, off, none⟩ : Addr).add (j / n * n + j % n)) = ⟨blk, off + j, none⟩ := by
      rw [← hdm]
      unfold Addr.add
      by_cases h : j = 0 <;> simp [h]
    rw [e] at hc
    exact hc
  · intro x hx
    obtain ⟨i, hi, rfl⟩ := List.mem_iff_getElem.1 hx
    exact (hall i hi).2
/-- An argument. -/
theorem OpensB.arg (h : ∀ N, OpensB enc P w N t R) {v : Value} {d : DataW H} {p : List MemPlace} (ht : DataW.Trod enc P w 0 (fun _ => true) true t v d p) (hw : (d.weights P t).all (· ≤ reachBytes) = true) (hb : Rows.uptoBulk d ≤ 1048576) : R v.cells.toList := by
  obtain ⟨fuel, hf⟩ := ht
  exact h fuel fuel (Nat.le_refl _) _ _ hf hw hb
end
end Go.Proofs.YtbopndepklafgaaDoor
