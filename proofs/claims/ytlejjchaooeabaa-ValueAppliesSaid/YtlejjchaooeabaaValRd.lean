/- Values that are handed in, opened: their cells. Plain. -/
import Derived.Test.YtlejjchaooeabaaRead
import Derived.Test.YtlejjchaooeabaaValI
namespace Go.Proofs.Ytlejjchaooeabaa
open Go.ChangeShapes Go.WideShapes Go.ChangeAt Go.RowKit

theorem valStruct : ∃ fs : Array Field, Try.prog.underlying 24 = some (.struct fs) ∧ fs.toList.map (fun f => (f.type, f.offset)) = [(3, 0), (22, 1)] := ⟨_, Try.underlying24, by kernel_rfl⟩
theorem cInt : Try.prog.cellsOf 3 = 1 := by kernel_rfl
theorem cU64 : Try.prog.cellsOf 22 = 1 := by kernel_rfl
theorem cVal : Try.prog.cellsOf 24 = 2 := by kernel_rfl
theorem bVal : Try.prog.bytesOf 24 = 16 := by kernel_rfl
theorem bInt : Try.prog.bytesOf 3 = 8 := by kernel_rfl

section
variable {H : Type} {enc : TypeId × Value → H} {w : World}
theorem opens_val (N : Nat) : Opens enc Try.prog w (N + 1) 24 (fun cs => ∃ x : V, cs = x.cells ∧ x.fits) := by
  obtain ⟨fs, hu, hfs⟩ := valStruct
  refine (opens_struct2 (R0 := fun v => ∃ n, v = .int .i64 n) (R1 := fun v => ∃ n : Nat, v = .int .u64 n ∧ n < 18446744073709551616) hu hfs cVal cInt cU64 ?_ ?_).imp ?_
  · exact (opens_int Try.underlying3).imp fun cs ⟨n, h, _⟩ => ⟨_, h, n, rfl⟩
  · refine (opens_int Try.underlying22).imp fun cs ⟨n, h, hw⟩ => ⟨_, h, n.toNat, ?_, ?_⟩
    · simp [Lit.wf] at hw
      have : IntKind.u64.min = 0 := by rfl
      rw [Int.toNat_of_nonneg (by omega)]
    · simp [Lit.wf] at hw
      have : IntKind.u64.max = 18446744073709551615 := by rfl
      omega
  · rintro cs ⟨u, v, rfl, ⟨k, rfl⟩, n, rfl, hn⟩
    exact ⟨⟨k, n⟩, rfl, hn⟩
theorem opens_vals (N : Nat) : Opens enc Try.prog w (N + 2) 35 (fun cs => ∃ (A : Option Addr) (c : Nat) (l : List V), cs = [.slice A l.length c] ∧ l.length * 16 ≤ 140737488351232 ∧ Rd w w.heap.size A (l.flatMap V.cells) ∧ ∀ x ∈ l, x.fits) :=
  (opens_slice Try.underlying35 cVal (by omega) bVal (fun _ => rfl) (opens_val N)).imp fun cs ⟨A, c, l, h, hl, hc, hr, hq⟩ => ⟨A, c, l, h, by omega, hr, hq⟩
theorem opens_ints (N : Nat) : Opens enc Try.prog w (N + 1) 32 (fun cs => ∃ (A : Option Addr) (c : Nat) (l : List Int), cs = [.slice A l.length c] ∧ l.length * 8 ≤ 140737488351232 ∧ Rd w w.heap.size A (kcells l)) :=
  (opens_slice (f := fun n : Int => [Value.int .i64 n]) (Q := fun _ => True) Try.underlying32 cInt (by omega) bInt (fun _ => rfl) ((opens_int Try.underlying3).imp fun cs ⟨n, h, _⟩ => ⟨n, h, trivial⟩)).imp
    fun cs ⟨A, c, l, h, hl, hc, hr, hq⟩ => ⟨A, c, l, h, by omega, by rw [kcells, ← flat_one]; exact hr⟩

theorem open_v {r : Reach} {b0 : Nat} {v : Value} {d : DataW H} {p : List MemPlace} (hv : Value.okWide Try.prog w r b0 24 v) (h : DataW.Trod enc Try.prog w 0 (fun _ => true) true 24 v d p)
    (hw : (d.weights Try.prog 24).all (· ≤ reachBytes) = true) : ∃ x : V, v = x.v ∧ x.fits := by
  obtain ⟨fs, hu, _⟩ := valStruct
  obtain ⟨cs, rfl, _⟩ := okWide_struct hu hv
  obtain ⟨fuel, hf⟩ := h
  obtain ⟨x, hx, hq⟩ := opens_val fuel fuel (by omega) _ _ hf hw
  refine ⟨x, ?_, hq⟩
  obtain ⟨l⟩ := cs
  simp [Value.cells] at hx
  subst hx
  rfl
theorem open_vs {r : Reach} {b0 : Nat} {v : Value} {d : DataW H} {p : List MemPlace} (hv : Value.okWide Try.prog w r b0 35 v) (h : DataW.Trod enc Try.prog w 0 (fun _ => true) true 35 v d p)
    (hw : (d.weights Try.prog 35).all (· ≤ reachBytes) = true) : ∃ (A : Option Addr) (c : Nat) (l : List V), v = .slice A l.length c ∧ l.length * 16 ≤ 140737488351232 ∧ Rd w w.heap.size A (l.flatMap V.cells) ∧ ∀ x ∈ l, x.fits := by
  obtain ⟨A0, n0, c0, rfl⟩ := okWide_slice Try.underlying35 hv
  obtain ⟨A, c, l, hx, hl, hr, hq⟩ := Opens.arg (fun N => fun fuel hf => opens_vals N fuel (by omega)) h hw
  refine ⟨A, c, l, ?_, hl, hr, hq⟩
  simpa [Value.cells] using hx
theorem open_ks {r : Reach} {b0 : Nat} {v : Value} {d : DataW H} {p : List MemPlace} (hv : Value.okWide Try.prog w r b0 32 v) (h : DataW.Trod enc Try.prog w 0 (fun _ => true) true 32 v d p)
    (hw : (d.weights Try.prog 32).all (· ≤ reachBytes) = true) : ∃ (A : Option Addr) (c : Nat) (l : List Int), v = .slice A l.length c ∧ l.length * 8 ≤ 140737488351232 ∧ Rd w w.heap.size A (kcells l) := by
  obtain ⟨A0, n0, c0, rfl⟩ := okWide_slice Try.underlying32 hv
  obtain ⟨A, c, l, hx, hl, hr⟩ := Opens.arg (fun N => fun fuel hf => opens_ints N fuel (by omega)) h hw
  refine ⟨A, c, l, ?_, hl, hr⟩
  simpa [Value.cells] using hx
end
end Go.Proofs.Ytlejjchaooeabaa
