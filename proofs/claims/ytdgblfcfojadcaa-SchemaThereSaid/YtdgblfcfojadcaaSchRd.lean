/- A schema that is handed in, opened: its cells. Plain. -/
import Derived.Test.YtdgblfcfojadcaaRead
import Derived.Test.YtdgblfcfojadcaaSchC
namespace Go.Proofs.Ytdgblfcfojadcaa
open Go.ChangeShapes Go.WideShapes Go.ChangeAt Go.RowKit

theorem fieldStruct : ∃ fs : Array Field, Try.prog.underlying 55 = some (.struct fs) ∧ fs.toList.map (fun f => (f.type, f.offset)) = [(9, 0), (3, 1)] := ⟨_, Try.underlying55, by kernel_rfl⟩
theorem typeStruct : ∃ fs : Array Field, Try.prog.underlying 53 = some (.struct fs) ∧ fs.toList.map (fun f => (f.type, f.offset)) = [(9, 0), (51, 1)] := ⟨_, Try.underlying53, by kernel_rfl⟩
theorem schemaStruct : ∃ fs : Array Field, Try.prog.underlying 30 = some (.struct fs) ∧ fs.toList.map (fun f => (f.type, f.offset)) = [(28, 0), (24, 1)] := ⟨_, Try.underlying30, by kernel_rfl⟩
theorem cStr : Try.prog.cellsOf 9 = 1 := by kernel_rfl
theorem cInt : Try.prog.cellsOf 3 = 1 := by kernel_rfl
theorem cFields : Try.prog.cellsOf 51 = 1 := by kernel_rfl
theorem cTypes : Try.prog.cellsOf 28 = 1 := by kernel_rfl
theorem cStrs : Try.prog.cellsOf 24 = 1 := by kernel_rfl
theorem cField : Try.prog.cellsOf 55 = 2 := by kernel_rfl
theorem cType : Try.prog.cellsOf 53 = 2 := by kernel_rfl
theorem cSchema : Try.prog.cellsOf 30 = 2 := by kernel_rfl
theorem bStr : Try.prog.bytesOf 9 = 16 := by kernel_rfl
theorem bField : Try.prog.bytesOf 55 = 24 := by kernel_rfl
theorem bType : Try.prog.bytesOf 53 = 40 := by kernel_rfl

section
variable {H : Type} {enc : TypeId × Value → H} {w : World}
theorem opens_field (N : Nat) : Opens enc Try.prog w (N + 1) 55 (fun cs => ∃ f : FieldV, cs = f.cells ∧ f.name.size ≤ 140737488351232) := by
  obtain ⟨fs, hu, hfs⟩ := fieldStruct
  refine (opens_struct2 (R0 := fun v => ∃ s : ByteArray, v = .string s ∧ s.size ≤ 140737488351232) (R1 := fun v => ∃ n, v = .int .i64 n) hu hfs cField cStr cInt ?_ ?_).imp ?_
  · exact (opens_string Try.underlying9).imp fun cs ⟨s, h, hs⟩ => ⟨_, h, s, rfl, hs⟩
  · exact (opens_int Try.underlying3).imp fun cs ⟨n, h, _⟩ => ⟨_, h, n, rfl⟩
  · rintro cs ⟨u, v, rfl, ⟨s, rfl, hs⟩, n, rfl⟩
    exact ⟨⟨s, n⟩, rfl, hs⟩
theorem opens_type (N : Nat) : Opens enc Try.prog w (N + 3) 53 (fun cs => ∃ t : TypeV, cs = t.cells ∧ t.ok w w.heap.size) := by
  obtain ⟨fs, hu, hfs⟩ := typeStruct
  refine (opens_struct2 (R0 := fun v => ∃ s : ByteArray, v = .string s ∧ s.size ≤ 140737488351232) (R1 := fun v => ∃ (A : Option Addr) (c : Nat) (l : List FieldV), v = .slice A l.length c ∧ l.length ≤ 5864062014634 ∧ Rd w w.heap.size A (l.flatMap FieldV.cells) ∧ ∀ f ∈ l, f.name.size ≤ 140737488351232) hu hfs cType cStr cFields ?_ ?_).imp ?_
  · exact (opens_string Try.underlying9).imp fun cs ⟨s, h, hs⟩ => ⟨_, h, s, rfl, hs⟩
  · exact (opens_slice Try.underlying51 cField (by omega) bField (fun _ => rfl) (opens_field N)).imp fun cs ⟨A, c, l, h, hl, hc, hr, hq⟩ => ⟨_, h, A, c, l, rfl, by omega, hr, hq⟩
  · rintro cs ⟨u, v, rfl, ⟨s, rfl, hs⟩, A, c, l, rfl, hl, hr, hq⟩
    exact ⟨⟨s, A, c, l⟩, rfl, hr, hl, hs, hq⟩
theorem opens_strs (N : Nat) : Opens enc Try.prog w (N + 1) 24 (fun cs => ∃ (A : Option Addr) (c : Nat) (l : List ByteArray), cs = [.slice A l.length c] ∧ l.length ≤ 8796093021952 ∧ Rd w w.heap.size A (l.map .string) ∧ ∀ x ∈ l, x.size ≤ 140737488351232) :=
  (opens_slice (f := fun s : ByteArray => [Value.string s]) (Q := fun s => s.size ≤ 140737488351232) Try.underlying24 cStr (by omega) bStr (fun _ => rfl) ((opens_string Try.underlying9).imp fun cs ⟨s, h, hs⟩ => ⟨s, h, hs⟩)).imp
    fun cs ⟨A, c, l, h, hl, hc, hr, hq⟩ => ⟨A, c, l, h, by omega, by rw [← flat_one]; exact hr, hq⟩
theorem opens_schema (N : Nat) : Opens enc Try.prog w (N + 5) 30 (fun cs => ∃ s : SchemaV, .agg cs.toArray = s.val ∧ s.ok w w.heap.size) := by
  obtain ⟨fs, hu, hfs⟩ := schemaStruct
  refine (opens_struct2 (R0 := fun v => ∃ (A : Option Addr) (c : Nat) (l : List TypeV), v = .slice A l.length c ∧ l.length ≤ 3518437208780 ∧ Rd w w.heap.size A (l.flatMap TypeV.cells) ∧ ∀ t ∈ l, t.ok w w.heap.size)
    (R1 := fun v => ∃ (A : Option Addr) (c : Nat) (l : List ByteArray), v = .slice A l.length c ∧ l.length ≤ 8796093021952 ∧ Rd w w.heap.size A (l.map .string) ∧ ∀ x ∈ l, x.size ≤ 140737488351232) hu hfs cSchema cTypes cStrs ?_ ?_).imp ?_
  · exact (opens_slice Try.underlying28 cType (by omega) bType (fun _ => rfl) (opens_type N)).imp fun cs ⟨A, c, l, h, hl, hc, hr, hq⟩ => ⟨_, h, A, c, l, rfl, by omega, hr, hq⟩
  · exact (opens_strs (N + 3)).imp fun cs ⟨A, c, l, h, hl, hr, hq⟩ => ⟨_, h, A, c, l, rfl, hl, hr, hq⟩
  · rintro cs ⟨u, v, rfl, ⟨A, c, l, rfl, hl, hr, hq⟩, A2, c2, l2, rfl, hl2, hr2, hq2⟩
    exact ⟨⟨A, c, l, A2, c2, l2⟩, rfl, hr, hl, hq, hr2, hl2, hq2⟩

/-- A schema as an argument. -/
theorem open_schema {r : Reach} {b0 : Nat} {v : Value} {d : DataW H} {p : List MemPlace} (hv : Value.okWide Try.prog w r b0 30 v) (h : DataW.Trod enc Try.prog w 0 (fun _ => true) true 30 v d p)
    (hw : (d.weights Try.prog 30).all (· ≤ reachBytes) = true) : ∃ s : SchemaV, v = s.val ∧ s.ok w w.heap.size := by
  obtain ⟨fs, hu, _⟩ := schemaStruct
  obtain ⟨cs, rfl, _⟩ := okWide_struct hu hv
  obtain ⟨fuel, hf⟩ := h
  exact opens_schema fuel fuel (by omega) _ _ hf hw
end
end Go.Proofs.Ytdgblfcfojadcaa
