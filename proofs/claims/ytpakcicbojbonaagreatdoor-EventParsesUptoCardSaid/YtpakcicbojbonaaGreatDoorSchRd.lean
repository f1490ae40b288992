/- A schema that is handed in, opened: its cells. Plain. -/
import Derived.Test.YtpakcicbojbonaaGreatDoorRead
import Derived.Test.YtpakcicbojbonaaGreatDoorSchC
namespace Go.Proofs.YtpakcicbojbonaaGreatDoor
set_option maxRecDepth 10000
open Go.ChangeShapes Go.WideShapes Go.ChangeAt Go.RowKit

theorem fieldStruct : ∃ fs : Array Field, Tryz.prog.underlying 64 = some (.struct fs) ∧ fs.toList.map (fun f => (f.type, f.offset)) = [(9, 0), (3, 1)] := ⟨_, Tryz.underlying64, by kernel_rfl⟩
theorem typeStruct : ∃ fs : Array Field, Tryz.prog.underlying 63 = some (.struct fs) ∧ fs.toList.map (fun f => (f.type, f.offset)) = [(9, 0), (61, 1)] := ⟨_, Tryz.underlying63, by kernel_rfl⟩
theorem schemaStruct : ∃ fs : Array Field, Tryz.prog.underlying 25 = some (.struct fs) ∧ fs.toList.map (fun f => (f.type, f.offset)) = [(22, 0), (23, 1)] := ⟨_, Tryz.underlying25, by kernel_rfl⟩
theorem cStr : Tryz.prog.cellsOf 9 = 1 := by kernel_rfl
theorem cInt : Tryz.prog.cellsOf 3 = 1 := by kernel_rfl
theorem cFields : Tryz.prog.cellsOf 61 = 1 := by kernel_rfl
theorem cTypes : Tryz.prog.cellsOf 22 = 1 := by kernel_rfl
theorem cStrs : Tryz.prog.cellsOf 23 = 1 := by kernel_rfl
theorem cField : Tryz.prog.cellsOf 64 = 2 := by kernel_rfl
theorem cType : Tryz.prog.cellsOf 63 = 2 := by kernel_rfl
theorem cSchema : Tryz.prog.cellsOf 25 = 2 := by kernel_rfl
theorem bStr : Tryz.prog.bytesOf 9 = 16 := by kernel_rfl
theorem bField : Tryz.prog.bytesOf 64 = 24 := by kernel_rfl
theorem bType : Tryz.prog.bytesOf 63 = 40 := by kernel_rfl

section
variable {H : Type} {enc : TypeId × Value → H} {w : World}
theorem opens_field (N : Nat) : Opens enc Tryz.prog w (N + 1) 64 (fun cs => ∃ f : FieldV, cs = f.cells ∧ f.name.size ≤ 140737488351232) := by
  obtain ⟨fs, hu, hfs⟩ := fieldStruct
  refine (opens_struct2 (R0 := fun v => ∃ s : ByteArray, v = .string s ∧ s.size ≤ 140737488351232) (R1 := fun v => ∃ n, v = .int .i64 n) hu hfs cField cStr cInt ?_ ?_).imp ?_
  · exact (opens_string Tryz.underlying9).imp fun cs ⟨s, h, hs⟩ => ⟨_, h, s, rfl, hs⟩
  · exact (opens_int Tryz.underlying3).imp fun cs ⟨n, h, _⟩ => ⟨_, h, n, rfl⟩
  · rintro cs ⟨u, v, rfl, ⟨s, rfl, hs⟩, n, rfl⟩
    exact ⟨⟨s, n⟩, rfl, hs⟩
theorem opens_type (N : Nat) : Opens enc Tryz.prog w (N + 3) 63 (fun cs => ∃ t : TypeV, cs = t.cells ∧ t.ok w w.heap.size) := by
  obtain ⟨fs, hu, hfs⟩ := typeStruct
  refine (opens_struct2 (R0 := fun v => ∃ s : ByteArray, v = .string s ∧ s.size ≤ 140737488351232) (R1 := fun v => ∃ (A : Option Addr) (c : Nat) (l : List FieldV), v = .slice A l.length c ∧ l.length ≤ 5864062014634 ∧ Rd w w.heap.size A (l.flatMap FieldV.cells) ∧ ∀ f ∈ l, f.name.size ≤ 140737488351232) hu hfs cType cStr cFields ?_ ?_).imp ?_
  · exact (opens_string Tryz.underlying9).imp fun cs ⟨s, h, hs⟩ => ⟨_, h, s, rfl, hs⟩
  · exact (opens_slice Tryz.underlying61 cField (by omega) bField (fun _ => rfl) (opens_field N)).imp fun cs ⟨A, c, l, h, hl, hc, hr, hq⟩ => ⟨_, h, A, c, l, rfl, by omega, hr, hq⟩
  · rintro cs ⟨u, v, rfl, ⟨s, rfl, hs⟩, A, c, l, rfl, hl, hr, hq⟩
    exact ⟨⟨s, A, c, l⟩, rfl, hr, hl, hs, hq⟩
theorem opens_strs (N : Nat) : Opens enc Tryz.prog w (N + 1) 23 (fun cs => ∃ (A : Option Addr) (c : Nat) (l : List ByteArray), cs = [.slice A l.length c] ∧ l.length ≤ 8796093021952 ∧ Rd w w.heap.size A (l.map .string) ∧ ∀ x ∈ l, x.size ≤ 140737488351232) :=
  (opens_slice (f := fun s : ByteArray => [Value.string s]) (Q := fun s => s.size ≤ 140737488351232) Tryz.underlying23 cStr (by omega) bStr (fun _ => rfl) ((opens_string Tryz.underlying9).imp fun cs ⟨s, h, hs⟩ => ⟨s, h, hs⟩)).imp
    fun cs ⟨A, c, l, h, hl, hc, hr, hq⟩ => ⟨A, c, l, h, by omega, by rw [← flat_one]; exact hr, hq⟩
theorem opens_schema (N : Nat) : Opens enc Tryz.prog w (N + 5) 25 (fun cs => ∃ s : SchemaV, .agg cs.toArray = s.val ∧ s.ok w w.heap.size) := by
  obtain ⟨fs, hu, hfs⟩ := schemaStruct
  refine (opens_struct2 (R0 := fun v => ∃ (A : Option Addr) (c : Nat) (l : List TypeV), v = .slice A l.length c ∧ l.length ≤ 3518437208780 ∧ Rd w w.heap.size A (l.flatMap TypeV.cells) ∧ ∀ t ∈ l, t.ok w w.heap.size)
    (R1 := fun v => ∃ (A : Option Addr) (c : Nat) (l : List ByteArray), v = .slice A l.length c ∧ l.length ≤ 8796093021952 ∧ Rd w w.heap.size A (l.map .string) ∧ ∀ x ∈ l, x.size ≤ 140737488351232) hu hfs cSchema cTypes cStrs ?_ ?_).imp ?_
  · exact (opens_slice Tryz.underlying22 cType (by omega) bType (fun _ => rfl) (opens_type N)).imp fun cs ⟨A, c, l, h, hl, hc, hr, hq⟩ => ⟨_, h, A, c, l, rfl, by omega, hr, hq⟩
  · exact (opens_strs (N + 3)).imp fun cs ⟨A, c, l, h, hl, hr, hq⟩ => ⟨_, h, A, c, l, rfl, hl, hr, hq⟩
  · rintro cs ⟨u, v, rfl, ⟨A, c, l, rfl, hl, hr, hq⟩, A2, c2, l2, rfl, hl2, hr2, hq2⟩
    exact ⟨⟨A, c, l, A2, c2, l2⟩, rfl, hr, hl, hq, hr2, hl2, hq2⟩

/-- A schema as an argument. -/
theorem open_schema {r : Reach} {b0 : Nat} {v : Value} {d : DataW H} {p : List MemPlace} (hv : Value.okWide Tryz.prog w r b0 25 v) (h : DataW.Trod enc Tryz.prog w 0 (fun _ => true) true 25 v d p)
    (hw : (d.weights Tryz.prog 25).all (· ≤ reachBytes) = true) : ∃ s : SchemaV, v = s.val ∧ s.ok w w.heap.size := by
  obtain ⟨fs, hu, _⟩ := schemaStruct
  obtain ⟨cs, rfl, _⟩ := okWide_struct hu hv
  obtain ⟨fuel, hf⟩ := h
  exact opens_schema fuel fuel (by omega) _ _ hf hw
end
end Go.Proofs.YtpakcicbojbonaaGreatDoor
