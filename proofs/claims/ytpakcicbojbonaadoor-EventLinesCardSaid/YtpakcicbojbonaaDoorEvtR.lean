/- Events and rows of ints that are handed in, opened: their cells. Plain. -/
import Derived.Test.YtpakcicbojbonaaDoorSchRd
import Derived.Test.YtpakcicbojbonaaDoorEvtA
namespace Go.Proofs.YtpakcicbojbonaaDoor
open Go.ChangeShapes Go.WideShapes Go.ChangeAt Go.RowKit
set_option maxRecDepth 10000
set_option linter.unusedVariables false
set_option linter.unusedSimpArgs false

theorem valStruct : ∃ fs : Array Field, Tryd.prog.underlying 71 = some (.struct fs) ∧ fs.toList.map (fun f => (f.type, f.offset)) = [(3, 0), (68, 1)] := ⟨_, Tryd.underlying71, by kernel_rfl⟩
theorem eventStruct : ∃ fs : Array Field, Tryd.prog.underlying 25 = some (.struct fs) ∧ fs.toList.map (fun f => (f.type, f.offset)) = [(3, 0), (2, 1), (23, 2)] := ⟨_, Tryd.underlying25, by kernel_rfl⟩
theorem cU64 : Tryd.prog.cellsOf 68 = 1 := by kernel_rfl
theorem cI64 : Tryd.prog.cellsOf 2 = 1 := by kernel_rfl
theorem cVal : Tryd.prog.cellsOf 71 = 2 := by kernel_rfl
theorem cVals : Tryd.prog.cellsOf 23 = 1 := by kernel_rfl
theorem cEvent : Tryd.prog.cellsOf 25 = 3 := by kernel_rfl
theorem cInts : Tryd.prog.cellsOf 30 = 1 := by kernel_rfl
theorem bVal : Tryd.prog.bytesOf 71 = 16 := by kernel_rfl
theorem bInt : Tryd.prog.bytesOf 3 = 8 := by kernel_rfl
theorem bInts : Tryd.prog.bytesOf 30 = 24 := by kernel_rfl
theorem bEvent : Tryd.prog.bytesOf 25 = 40 := by kernel_rfl

theorem len_3 {cs : List Value} (h : cs.length = 3) : ∃ c0 c1 c2, cs = [c0, c1, c2] := by
  match cs, h with
  | [c0, c1, c2], _ => exact ⟨_, _, _, rfl⟩
section
variable {H : Type} {enc : TypeId × Value → H} {w : World}
theorem opens_val (N : Nat) : Opens enc Tryd.prog w (N + 1) 71 (fun cs => ∃ x : V, cs = x.cells ∧ x.fits) := by
  obtain ⟨fs, hu, hfs⟩ := valStruct
  refine (opens_struct2 (R0 := fun v => ∃ n, v = .int .i64 n) (R1 := fun v => ∃ n : Nat, v = .int .u64 n ∧ n < 18446744073709551616) hu hfs cVal cInt cU64 ?_ ?_).imp ?_
  · exact (opens_int Tryd.underlying3).imp fun cs ⟨n, h, _⟩ => ⟨_, h, n, rfl⟩
  · refine (opens_int Tryd.underlying68).imp fun cs ⟨n, h, hw⟩ => ⟨_, h, n.toNat, ?_, ?_⟩
    · simp [Lit.wf] at hw
      have : IntKind.u64.min = 0 := by rfl
      rw [Int.toNat_of_nonneg (by omega)]
    · simp [Lit.wf] at hw
      have : IntKind.u64.max = 18446744073709551615 := by rfl
      omega
  · rintro cs ⟨u, v, rfl, ⟨k, rfl⟩, n, rfl, hn⟩
    exact ⟨⟨k, n⟩, rfl, hn⟩
theorem opens_vals (N : Nat) : Opens enc Tryd.prog w (N + 2) 23 (fun cs => ∃ (A : Option Addr) (c : Nat) (l : List V), cs = [.slice A l.length c] ∧ l.length ≤ 8796093021952 ∧ Rd w w.heap.size A (l.flatMap V.cells) ∧ ∀ x ∈ l, x.fits) :=
  (opens_slice Tryd.underlying23 cVal (by omega) bVal (fun _ => rfl) (opens_val N)).imp fun cs ⟨A, c, l, h, hl, hc, hr, hq⟩ => ⟨A, c, l, h, by omega, hr, hq⟩
theorem opens_event (N : Nat) : Opens enc Tryd.prog w (N + 3) 25 (fun cs => ∃ e : EventV, cs = e.cells ∧ e.ok w w.heap.size) := by
  obtain ⟨fs, hu, hfs⟩ := eventStruct
  obtain ⟨l⟩ := fs
  have h3 : l.length = 3 := by simpa using congrArg List.length hfs
  match l, h3, hu, hfs with
  | [f0, f1, f2], _, hu, hfs =>
  simp only [List.map_cons, List.map_nil, List.cons.injEq, Prod.mk.injEq, and_true] at hfs
  obtain ⟨⟨e0, o0⟩, ⟨e1, o1⟩, e2, o2⟩ := hfs
  refine (opens_struct hu (F := fun i cs => match i with | 0 => ∃ n, cs = [.int .i64 n] | 1 => ∃ n, cs = [.int .i64 n] ∧ -9223372036854775808 ≤ n ∧ n ≤ 9223372036854775807 | _ => ∃ (A : Option Addr) (c : Nat) (l : List V), cs = [.slice A l.length c] ∧ l.length ≤ 8796093021952 ∧ Rd w w.heap.size A (l.flatMap V.cells) ∧ ∀ x ∈ l, x.fits) (N := N + 2) ?_).imp ?_
  · intro i f hi
    match i, hi with
    | 0, hi => simp at hi; subst hi; rw [e0]; exact (opens_int Tryd.underlying3).imp fun cs ⟨n, h, _⟩ => ⟨n, h⟩
    | 1, hi =>
      simp at hi; subst hi; rw [e1]
      refine (opens_int Tryd.underlying2).imp fun cs ⟨n, h, hw⟩ => ⟨n, h, ?_⟩
      simp [Lit.wf] at hw
      have : IntKind.i64.min = -9223372036854775808 := by rfl
      have : IntKind.i64.max = 9223372036854775807 := by rfl
      omega
    | 2, hi => simp at hi; subst hi; rw [e2]; exact opens_vals N
    | i + 3, hi => simp at hi
  · rintro cs ⟨hl, hf⟩
    rw [cEvent] at hl
    obtain ⟨k, hk⟩ := hf 0 f0 rfl
    obtain ⟨b, hb, ht⟩ := hf 1 f1 rfl
    obtain ⟨A, c, l, hs, hlen, hr, hq⟩ := hf 2 f2 rfl
    obtain ⟨c0, c1, c2, rfl⟩ := len_3 hl
    rw [e0, o0, cInt] at hk
    rw [e1, o1, cI64] at hb
    rw [e2, o2, cVals] at hs
    simp at hk hb hs
    subst hk; subst hb; subst hs
    exact ⟨⟨k, b, A, c, l⟩, rfl, hr, hlen, hq, ht⟩
theorem opens_events (N : Nat) : Opens enc Tryd.prog w (N + 4) 51 (fun cs => ∃ (A : Option Addr) (c : Nat) (l : List EventV), cs = [.slice A l.length c] ∧ l.length ≤ 3518437208780 ∧ Rd w w.heap.size A (l.flatMap EventV.cells) ∧ ∀ x ∈ l, x.ok w w.heap.size) :=
  (opens_slice Tryd.underlying51 cEvent (by omega) bEvent (fun _ => rfl) (opens_event N)).imp fun cs ⟨A, c, l, h, hl, hc, hr, hq⟩ => ⟨A, c, l, h, by omega, hr, hq⟩
theorem opens_row (N : Nat) : Opens enc Tryd.prog w (N + 1) 30 (fun cs => ∃ r : RowV, cs = r.cells ∧ r.ok w w.heap.size) :=
  (opens_slice (f := fun n : Int => [Value.int .i64 n]) (Q := fun _ => True) Tryd.underlying30 cInt (by omega) bInt (fun _ => rfl) ((opens_int Tryd.underlying3).imp fun cs ⟨n, h, _⟩ => ⟨n, h, trivial⟩)).imp
    fun cs ⟨A, c, l, h, hl, hc, hr, hq⟩ => ⟨⟨A, c, l⟩, h, by rw [ints, ← flat_one]; exact hr, by show l.length ≤ _; omega⟩
theorem opens_rows (N : Nat) : Opens enc Tryd.prog w (N + 2) 22 (fun cs => ∃ (A : Option Addr) (c : Nat) (l : List RowV), cs = [.slice A l.length c] ∧ l.length ≤ 5864062014634 ∧ Rd w w.heap.size A (l.flatMap RowV.cells) ∧ ∀ x ∈ l, x.ok w w.heap.size) :=
  (opens_slice Tryd.underlying22 cInts (by omega) bInts (fun _ => rfl) (opens_row N)).imp fun cs ⟨A, c, l, h, hl, hc, hr, hq⟩ => ⟨A, c, l, h, by omega, hr, hq⟩

/-- As arguments. -/
theorem open_event {r : Reach} {b0 : Nat} {v : Value} {d : DataW H} {p : List MemPlace} (hv : Value.okWide Tryd.prog w r b0 25 v) (h : DataW.Trod enc Tryd.prog w 0 (fun _ => true) true 25 v d p)
    (hw : (d.weights Tryd.prog 25).all (· ≤ reachBytes) = true) : ∃ e : EventV, v = e.val ∧ e.ok w w.heap.size := by
  obtain ⟨fs, hu, _⟩ := eventStruct
  obtain ⟨cs, rfl, _⟩ := okWide_struct hu hv
  obtain ⟨fuel, hf⟩ := h
  obtain ⟨e, he, hok⟩ := opens_event fuel fuel (by omega) _ _ hf hw
  refine ⟨e, ?_, hok⟩
  obtain ⟨l⟩ := cs
  simp [Value.cells] at he
  subst he
  rfl
theorem open_events {r : Reach} {b0 : Nat} {v : Value} {d : DataW H} {p : List MemPlace} (hv : Value.okWide Tryd.prog w r b0 51 v) (h : DataW.Trod enc Tryd.prog w 0 (fun _ => true) true 51 v d p)
    (hw : (d.weights Tryd.prog 51).all (· ≤ reachBytes) = true) : ∃ (A : Option Addr) (c : Nat) (l : List EventV), v = .slice A l.length c ∧ l.length ≤ 3518437208780 ∧ Rd w w.heap.size A (l.flatMap EventV.cells) ∧ ∀ x ∈ l, x.ok w w.heap.size := by
  obtain ⟨A0, n0, c0, rfl⟩ := okWide_slice Tryd.underlying51 hv
  obtain ⟨A, c, l, hx, hl, hr, hq⟩ := Opens.arg (fun N => fun fuel hf => opens_events N fuel (by omega)) h hw
  refine ⟨A, c, l, ?_, hl, hr, hq⟩
  simpa [Value.cells] using hx
theorem open_rows {r : Reach} {b0 : Nat} {v : Value} {d : DataW H} {p : List MemPlace} (hv : Value.okWide Tryd.prog w r b0 22 v) (h : DataW.Trod enc Tryd.prog w 0 (fun _ => true) true 22 v d p)
    (hw : (d.weights Tryd.prog 22).all (· ≤ reachBytes) = true) : ∃ (A : Option Addr) (c : Nat) (l : List RowV), v = .slice A l.length c ∧ l.length ≤ 5864062014634 ∧ Rd w w.heap.size A (l.flatMap RowV.cells) ∧ ∀ x ∈ l, x.ok w w.heap.size := by
  obtain ⟨A0, n0, c0, rfl⟩ := okWide_slice Tryd.underlying22 hv
  obtain ⟨A, c, l, hx, hl, hr, hq⟩ := Opens.arg (fun N => fun fuel hf => opens_rows N fuel (by omega)) h hw
  refine ⟨A, c, l, ?_, hl, hr, hq⟩
  simpa [Value.cells] using hx
end
end Go.Proofs.YtpakcicbojbonaaDoor
