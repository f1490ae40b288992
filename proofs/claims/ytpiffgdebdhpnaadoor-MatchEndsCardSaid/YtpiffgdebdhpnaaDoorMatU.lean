/- Layer 10: matches of bounded bulk, opened: all their places together are bounded. Plain. -/
import Derived.Test.YtpiffgdebdhpnaaDoorReadB
import Derived.Test.YtpiffgdebdhpnaaDoorMatT
import Derived.Test.YtpiffgdebdhpnaaDoorMatP
namespace Go.Proofs.YtpiffgdebdhpnaaDoor
open Go.ChangeShapes Go.WideShapes Go.ChangeAt Go.RowKit
set_option linter.unusedVariables false
set_option maxRecDepth 10000

theorem sum_ones {α : Type} : ∀ l : List α, (l.map fun _ => 1).sum = l.length
  | [] => rfl
  | _ :: l => by have := sum_ones l; simp only [List.map_cons, List.sum_cons, List.length_cons]; omega
theorem bulk_sum {H α : Type} {g : α → Nat} : ∀ (l : List α) (m : List (DataW H)), l.length = m.length → (∀ (i : Nat) (h : i < l.length) (h2 : i < m.length), g l[i] ≤ Rows.uptoBulk m[i]) → (l.map g).sum ≤ Rows.uptoBulkAll m
  | [], [], _, _ => Nat.zero_le _
  | x :: l, y :: m, h, hi => by
    have h1 := hi 0 (by simp) (by simp)
    have h2 := bulk_sum l m (by simpa using h) fun i h3 h4 => hi (i + 1) (by simpa using h3) (by simpa using h4)
    simp only [List.map_cons, List.sum_cons, Rows.uptoBulkAll, List.getElem_cons_zero] at h1 h2 ⊢
    omega
section
variable {H : Type} (enc : TypeId × Value → H) (P : Program) (w : World)
def OpensW (N : Nat) (t : TypeId) (R : Nat → List Value → Prop) : Prop :=
  ∀ fuel, fuel ≤ N → ∀ (cs : List Value) (y : DataW H × List MemPlace), DataW.trod enc P w 0 (fun _ => true) true fuel t cs = some y → (y.1.weights P t).all (· ≤ reachBytes) = true → Rows.uptoBulk y.1 ≤ 1048576 → R (Rows.uptoBulk y.1) cs
variable {enc P w} {N : Nat} {t : TypeId} {R R' : Nat → List Value → Prop}
theorem OpensW.imp (h : OpensW enc P w N t R) (hr : ∀ b cs, R b cs → R' b cs) : OpensW enc P w N t R' := fun fuel hf cs y hy hw hb => hr _ _ (h fuel hf cs y hy hw hb)
theorem Opens.wB {R : List Value → Prop} (h : Opens enc P w N t R) : OpensW enc P w N t (fun b cs => 1 ≤ b ∧ R cs) := fun fuel hf cs y hy hw _ => ⟨bulk_one _, h fuel hf cs y hy hw⟩
theorem opensW_zero : OpensW enc P w 0 t R := by
  intro fuel hf cs y hy
  obtain rfl : fuel = 0 := by omega
  simp [DataW.trod] at hy
theorem OpensB.ofW {R : Nat → List Value → Prop} {R2 : List Value → Prop} (h : OpensW enc P w N t R) (hr : ∀ b cs, b ≤ 1048576 → R b cs → R2 cs) : OpensB enc P w N t R2 := fun fuel hf cs y hy hw hb => hr _ _ hb (h fuel hf cs y hy hw hb)
/-- A slice: its elements as a list; what they measure together is no more than the bulk. -/
theorem opensW_slice {e : TypeId} {n : Nat} {α : Type} {f : α → List Value} {Q : α → Prop} {g : α → Nat} (ht : P.underlying t = some (.slice e)) (hn : P.cellsOf e = n) (hpos : 0 < n) (hlen : ∀ x, (f x).length = n)
    (he : OpensW enc P w N e (fun b cs => ∃ x, cs = f x ∧ Q x ∧ g x ≤ b)) :
    OpensW enc P w (N + 1) t (fun b cs => ∃ (A : Option Addr) (c : Nat) (l : List α), cs = [.slice A l.length c] ∧ (l.map g).sum + 1 ≤ b ∧ Rd w w.heap.size A (l.flatMap f) ∧ ∀ x ∈ l, Q x) := by
  intro fuel hf cs y hy hw hbk
  have hb1 := bulk_one y.1
  rcases DataW.trod_slice ht hy with ⟨hcs, _⟩ | ⟨a, len, cap, elems, rest, m, hm, hcs, hx, _, hlc, _, hel, hcell, hsp, _⟩
  · exact ⟨none, 0, [], hcs, by simpa using hb1, Rd.nil, by simp⟩
  subst hx
  simp only [DataW.weights, ht, List.all_cons, List.all_append, Bool.and_eq_true] at hw
  obtain ⟨hw0, hw1, hw2⟩ := hw
  simp only [Rows.uptoBulk] at hbk ⊢
  have each : ∀ i, (hi : i < len) → ∃ x : α, w.cells? 0 (a.add (i * n)) n = some (f x) ∧ Q x ∧ g x ≤ Rows.uptoBulk (elems[i]'(by omega)).1 := by
    intro i hi
    have h1 := hcell i hi
    rw [List.getElem?_eq_getElem (by omega), hn] at h1
    obtain ⟨cs', h2, h3⟩ := Option.bind_eq_some_iff.1 h1
    have hmem := List.mem_map_of_mem (f := fun x : DataW H × List MemPlace => x.1) (List.getElem_mem (l := elems) (by omega : i < elems.length))
    obtain ⟨x, rfl, hq, hg⟩ := he m (by omega) cs' _ h3 (weights_all hw1 _ hmem) (by have := bulk_part hmem; omega)
    exact ⟨x, h2, hq, hg⟩
  obtain ⟨l, hl, hall⟩ : ∃ l : List α, l.length = len ∧ ∀ i (hi : i < l.length) (hi2 : i < elems.length), w.cells? 0 (a.add (i * n)) n = some (f l[i]) ∧ Q l[i] ∧ g l[i] ≤ Rows.uptoBulk elems[i].1 := by
    refine ⟨(List.range len).attach.map fun i => (each i.1 (List.mem_range.1 i.2)).choose, by simp, fun i hi hi2 => ?_⟩
    simp only [List.getElem_map, List.getElem_attach, List.getElem_range]
    exact (each i (by simpa using hi)).choose_spec
  subst hl
  have hsum : (l.map g).sum ≤ Rows.uptoBulkAll (elems.map (·.1)) := bulk_sum l _ (by simp; omega) fun i h1 h2 => by
    rw [List.getElem_map]
    exact (hall i h1 (by omega)).2.2
  refine ⟨some a, cap, l, hcs, by omega, ?_, ?_⟩
  · rcases Nat.eq_zero_or_pos l.length with h0 | h0
    · have : l = [] := List.eq_nil_of_length_eq_zero h0
      subst this; exact .inl rfl
    have h00 := World.cells?_some (hall 0 h0 (by omega)).1
    have hv := h00.2.2 0 hpos
    rw [List.getElem?_eq_getElem (by rw [hlen]; exact hpos)] at hv
    have ha : (a.add (0 * n)).add 0 = a := by simp [Addr.add]
    rw [ha] at hv
    have hblk := World.block_lt_of_cell? w a hv
    have hspot : a.spot = none := by
      unfold World.cell? at hv
      split at hv
      · split at hv
        · cases hv
        · rename_i h; simpa using h
      · cases hv
    obtain ⟨blk, off, sp⟩ := a
    simp only at hspot hblk
    subst hspot
    refine .inr ⟨blk, off, rfl, hblk, fun j u hu => ?_⟩
    have hj : j < l.length * n := by have := (List.getElem?_eq_some_iff.1 hu).1; rwa [flat_len f hlen] at this
    have hdm : j = j / n * n + j % n := by rw [Nat.mul_comm]; exact (Nat.div_add_mod j n).symm
    have hq : j / n < l.length := (Nat.div_lt_iff_lt_mul hpos).2 hj
    have hr : j % n < n := Nat.mod_lt _ hpos
    have hfl := flat_at f hlen l (j / n) (j % n) hq hr
    rw [← hdm, hu] at hfl
    have hc := (World.cells?_some (hall (j / n) hq (by omega)).1).2.2 (j % n) hr
    rw [← hfl, Deep.add_add] at hc
    have e : ((⟨blk, off, none⟩ : Addr).add (j / n * n + j % n)) = ⟨blk, off + j, none⟩ := by
      rw [← hdm]
      unfold Addr.add
      by_cases h : j = 0 <;> simp [h]
    rw [e] at hc
    exact hc
  · intro x hx
    obtain ⟨i, hi, rfl⟩ := List.mem_iff_getElem.1 hx
    exact (hall i hi (by omega)).2.1
end

/-- A match that is small. -/
structure MatV.okB (m : MatV) (w : World) (B : Nat) : Prop where
  ok : m.ok w B
  tot : tot m.L ≤ 1048576
theorem tot_mem : ∀ (L : List (List Int)), ∀ l ∈ L, l.length + 1 ≤ tot L
  | x :: L, y, h => by
    simp only [tot, List.map_cons, List.sum_cons]
    rcases List.mem_cons.1 h with rfl | h
    · omega
    · have := tot_mem L y h; simp only [tot] at this; omega
theorem tot_len : ∀ L : List (List Int), L.length ≤ tot L
  | [] => Nat.le_refl _
  | x :: L => by have := tot_len L; simp [tot] at this ⊢; omega
theorem MatV.okB.rows {m : MatV} {w : World} {B : Nat} (h : m.okB w B) : m.rows.length ≤ 1048576 := by
  have h1 := tot_len m.L
  have h2 := h.tot
  have h3 : m.L.length = m.rows.length := by simp [MatV.L]
  omega
theorem MatV.okB.row {m : MatV} {w : World} {B : Nat} (h : m.okB w B) : ∀ r ∈ m.rows, r.l.length ≤ 1048576 := by
  intro r hr
  have h1 := tot_mem m.L r.l (List.mem_map_of_mem hr)
  have h2 := h.tot
  omega
section
variable {H : Type} {enc : TypeId × Value → H} {w : World}
theorem ow_rows (N : Nat) : OpensW enc Tryd.prog w N 22 (fun b cs => ∃ (A : Option Addr) (c : Nat) (l : List RowV), cs = [.slice A l.length c] ∧ (l.map fun r => r.l.length + 1).sum + 1 ≤ b ∧ b ≤ 1048576 ∧ Rd w w.heap.size A (l.flatMap RowV.cells) ∧ ∀ x ∈ l, x.ok w w.heap.size) := by
  cases N with
  | zero => exact opensW_zero
  | succ N =>
    have h0 : OpensW enc Tryd.prog w (N + 1) 22 (fun b cs => ∃ (A : Option Addr) (c : Nat) (l : List RowV), cs = [.slice A l.length c] ∧ (l.map fun r => r.l.length + 1).sum + 1 ≤ b ∧ Rd w w.heap.size A (l.flatMap RowV.cells) ∧ ∀ x ∈ l, x.ok w w.heap.size) := by
      refine opensW_slice (f := RowV.cells) (Q := fun x => x.ok w w.heap.size) (g := fun r => r.l.length + 1) Tryd.underlying22 cInts (by omega) (fun _ => rfl) ?_
      cases N with
      | zero => exact opensW_zero
      | succ N =>
        have h1 : OpensW enc Tryd.prog w (N + 1) 35 (fun b cs => ∃ (A : Option Addr) (c : Nat) (l : List Int), cs = [.slice A l.length c] ∧ (l.map fun _ => 1).sum + 1 ≤ b ∧ Rd w w.heap.size A (l.flatMap fun n : Int => [Value.int .i64 n]) ∧ ∀ x ∈ l, True) :=
          opensW_slice (f := fun n : Int => [Value.int .i64 n]) (Q := fun _ => True) (g := fun _ => 1) Tryd.underlying35 cInt (by omega) (fun _ => rfl) ((opens_int Tryd.underlying3).wB.imp fun b cs ⟨hb, n, h, _⟩ => ⟨n, h, trivial, hb⟩)
        intro fuel hf cs y hy hw hb
        obtain ⟨A, c, l, h, hs, hr, _⟩ := h1 fuel hf cs y hy hw hb
        have hs2 : l.length + 1 ≤ Rows.uptoBulk y.1 := by rw [sum_ones] at hs; exact hs
        exact ⟨⟨A, c, l⟩, h, ⟨by rw [ints, ← flat_one]; exact hr, by show l.length ≤ _; omega⟩, hs2⟩
    intro fuel hf cs y hy hw hb
    obtain ⟨A, c, l, h, hs, hr, hq⟩ := h0 fuel hf cs y hy hw hb
    exact ⟨A, c, l, h, hs, hb, hr, hq⟩
theorem ob_mat (N : Nat) : OpensB enc Tryd.prog w N 24 (fun cs => ∃ e : MatV, cs = e.cells ∧ e.okB w w.heap.size) := by
  cases N with
  | zero => exact opensB_zero
  | succ N =>
  obtain ⟨fs, hu, hfs⟩ := matStruct
  have hi : ∀ N, OpensB enc Tryd.prog w N 3 (fun cs => ∃ n, cs = [Value.int .i64 n] ∧ -9223372036854775808 ≤ n ∧ n ≤ 9223372036854775807) := fun N => by
    refine ((opens_int Tryd.underlying3).imp fun cs ⟨n, h, hw⟩ => ⟨n, h, ?_⟩).b
    simp [Lit.wf] at hw
    have : IntKind.i64.min = -9223372036854775808 := by rfl
    have : IntKind.i64.max = 9223372036854775807 := by rfl
    omega
  have hrw : ∀ N, OpensB enc Tryd.prog w N 22 (fun cs => ∃ (A : Option Addr) (c : Nat) (l : List RowV), cs = [.slice A l.length c] ∧ (l.map fun r => r.l.length + 1).sum ≤ 1048576 ∧ Rd w w.heap.size A (l.flatMap RowV.cells) ∧ ∀ x ∈ l, x.ok w w.heap.size) := fun N =>
    OpensB.ofW (ow_rows N) fun b cs hb ⟨A, c, l, h, hs, _, hr, hq⟩ => ⟨A, c, l, h, by omega, hr, hq⟩
  refine (opensB_struct hu hfs (F := fun i cs => match i with | 0 => ∃ n, cs = [.int .i64 n] ∧ -9223372036854775808 ≤ n ∧ n ≤ 9223372036854775807 | 1 => ∃ n, cs = [.int .i64 n] ∧ -9223372036854775808 ≤ n ∧ n ≤ 9223372036854775807 | _ => ∃ (A : Option Addr) (c : Nat) (l : List RowV), cs = [.slice A l.length c] ∧ (l.map fun r => r.l.length + 1).sum ≤ 1048576 ∧ Rd w w.heap.size A (l.flatMap RowV.cells) ∧ ∀ x ∈ l, x.ok w w.heap.size) (N := N) ?_).imp ?_
  · intro i p hip
    match i, hip with
    | 0, hip => simp at hip; subst hip; exact hi _
    | 1, hip => simp at hip; subst hip; exact hi _
    | 2, hip => simp at hip; subst hip; exact hrw _
    | i + 3, hip => simp at hip
  · rintro cs ⟨hl, hf⟩
    rw [cMat] at hl
    obtain ⟨k, hk, hk2⟩ := hf 0 _ rfl
    obtain ⟨b, hb, hb2⟩ := hf 1 _ rfl
    obtain ⟨A, c, l, hs, hlen, hr, hq⟩ := hf 2 _ rfl
    obtain ⟨c0, c1, c2, rfl⟩ := len_3 hl
    simp only [cInt, cRows] at hk hb hs
    simp at hk hb hs
    subst hk; subst hb; subst hs
    have htot : tot (l.map (·.l)) ≤ 1048576 := by
      unfold tot
      rw [List.map_map]
      exact hlen
    have hll : l.length ≤ 1048576 := by
      have := tot_len (l.map (·.l))
      rw [List.length_map] at this
      omega
    exact ⟨⟨k, b, A, c, l⟩, rfl, ⟨hr, by show l.length ≤ _; omega, hq, hk2, hb2⟩, htot⟩
theorem open_matB {r : Reach} {b0 : Nat} {v : Value} {d : DataW H} {p : List MemPlace} (hv : Value.okWide Tryd.prog w r b0 24 v) (h : DataW.Trod enc Tryd.prog w 0 (fun _ => true) true 24 v d p)
    (hw : (d.weights Tryd.prog 24).all (· ≤ reachBytes) = true) (hb : Rows.uptoBulk d ≤ 1048576) : ∃ e : MatV, v = e.val ∧ e.okB w w.heap.size := by
  obtain ⟨fs, hu, _⟩ := matStruct
  obtain ⟨cs, rfl, _⟩ := okWide_struct hu hv
  obtain ⟨e, he, hok⟩ := OpensB.arg (fun N => ob_mat N) h hw hb
  refine ⟨e, ?_, hok⟩
  obtain ⟨l⟩ := cs
  simp [Value.cells] at he
  subst he
  rfl
theorem open_strB {r : Reach} {b0 : Nat} {v : Value} {d : DataW H} {p : List MemPlace} (hv : Value.okWide Tryd.prog w r b0 9 v) (h : DataW.Trod enc Tryd.prog w 0 (fun _ => true) true 9 v d p)
    (hw : (d.weights Tryd.prog 9).all (· ≤ reachBytes) = true) (hb : Rows.uptoBulk d ≤ 1048576) : ∃ s : ByteArray, v = .string s ∧ s.size ≤ 1048576 := by
  obtain ⟨s, hs, hl⟩ := OpensB.arg (fun N => opensB_string (N := N) Tryd.underlying9) h hw hb
  obtain ⟨s', rfl⟩ := okWide_string Tryd.underlying9 hv
  simp [Value.cells] at hs
  subst hs
  exact ⟨s', rfl, hl⟩
end
end Go.Proofs.YtpiffgdebdhpnaaDoor
