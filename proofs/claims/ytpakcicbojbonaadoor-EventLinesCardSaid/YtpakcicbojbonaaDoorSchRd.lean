/- A schema that is handed in, opened: its cells. Plain. -/
import Derived.Test.YtpakcicbojbonaaDoorRead
import Derived.Test.YtpakcicbojbonaaDoorSchC
namespace Go.Proofs.YtpakcicbojbonaaDoor
set_option maxRecDepth 10000
open Go.ChangeShapes Go.WideShapes Go.ChangeAt Go.RowKit

theorem fieldStruct : ∃ fs : Array Field, Tryd.prog.underlying 36 = some (.struct fs) ∧ fs.toList.map (fun f => (f.type, f.offset)) = [(9, 0), (3, 1)] := ⟨_, Tryd.underlying36, by kernel_rfl⟩
theorem typeStruct : ∃ fs : Array Field, Tryd.prog.underlying 34 = some (.struct fs) ∧ fs.toList.map (fun f => (f.type, f.offset)) = [(9, 0), (32, 1)] := ⟨_, Tryd.underlying34, by kernel_rfl⟩
theorem schemaStruct : ∃ fs : Array Field, Tryd.prog.underlying 29 = some (.struct fs) ∧ fs.toList.map (fun f => (f.type, f.offset)) = [(26, 0), (27, 1)] := ⟨_, Tryd.underlying29, by kernel_rfl⟩
theorem cStr : Tryd.prog.cellsOf 9 = 1 := by kernel_rfl
theorem cInt : Tryd.prog.cellsOf 3 = 1 := by kernel_rfl
theorem cFields : Tryd.prog.cellsOf 32 = 1 := by kernel_rfl
theorem cTypes : Tryd.prog.cellsOf 26 = 1 := by kernel_rfl
theorem cStrs : Tryd.prog.cellsOf 27 = 1 := by kernel_rfl
theorem cField : Tryd.prog.cellsOf 36 = 2 := by kernel_rfl
theorem cType : Tryd.prog.cellsOf 34 = 2 := by kernel_rfl
theorem cSchema : Tryd.prog.cellsOf 29 = 2 := by kernel_rfl
theorem bStr : Tryd.prog.bytesOf 9 = 16 := by kernel_rfl
theorem bField : Tryd.prog.bytesOf 36 = 24 := by kernel_rfl
theorem bType : Tryd.prog.bytesOf 34 = 40 := by kernel_rfl

section
variable {H : Type} {enc : TypeId × Value → H} {w : World}
theorem opens_field (N : Nat) : Opens enc Tryd.prog w (N + 1) 36 (fun cs => ∃ f : FieldV, cs = f.cells ∧ f.name.size ≤ 140737488351232) := by
  obtain ⟨fs, hu, hfs⟩ := fieldStruct
  refine (opens_struct2 (R0 := fun v => ∃ s : ByteArray, v = .string s ∧ s.size ≤ 140737488351232) (R1 := fun v => ∃ n, v = .int .i64 n) hu hfs cField cStr cInt ?_ ?_).imp ?_
  · exact (opens_string Tryd.underlying9).imp fun cs ⟨s, h, hs⟩ => ⟨_, h, s, rfl, hs⟩
  · exact (opens_int Tryd.underlying3).imp fun cs ⟨n, h, _⟩ => ⟨_, h, n, rfl⟩
  · rintro cs ⟨u, v, rfl, ⟨s, rfl, hs⟩, n, rfl⟩
    exact ⟨⟨s, n⟩, rfl, hs⟩
theorem opens_type (N : Nat) : Opens enc Tryd.prog w (N + 3) 34 (fun cs => ∃ t : TypeV, cs = t.cells ∧ t.ok w w.heap.size) := by
  obtain ⟨fs, hu, hfs⟩ := typeStruct
  refine (opens_struct2 (R0 := fun v => ∃ s : ByteArray, v = .string s ∧ s.size ≤ 140737488351232) (R1 := fun v => ∃ (A : Option Addr) (c : Nat) (l : List FieldV), v = .slice A l.length c ∧ l.length ≤ 5864062014634 ∧ Rd w w.heap.size A (l.flatMap FieldV.cells) ∧ ∀ f ∈ l, f.name.size ≤ 140737488351232) hu hfs cType cStr cFields ?_ ?_).imp ?_
  · exact (opens_string Tryd.underlying9).imp fun cs ⟨s, h, hs⟩ => ⟨_, h, s, rfl, hs⟩
  · exact (opens_slice Tryd.underlying32 cField (by omega) bField (fun _ => rfl) (opens_field N)).imp fun cs ⟨A, c, l, h, hl, hc, hr, hq⟩ => ⟨_, h, A, c, l, rfl, by omega, hr, hq⟩
  · rintro cs ⟨u, v, rfl, ⟨s, rfl, hs⟩, A, c, l, rfl, hl, hr, hq⟩
    exact ⟨⟨s, A, c, l⟩, rfl, hr, hl, hs, hq⟩
theorem opens_strs (N : Nat) : Opens enc Tryd.prog w (N + 1) 27 (fun cs => ∃ (A : Option Addr) (c : Nat) (l : List ByteArray), cs = [.slice A l.length c] ∧ l.length ≤ 8796093021952 ∧ Rd w w.heap.size A (l.map .string) ∧ ∀ x ∈ l, x.size ≤ 140737488351232) :=
  (opens_slice (f := fun s : ByteArray => [Value.string s]) (Q := fun s => s.size ≤ 140737488351232) Tryd.underlying27 cStr (by omega) bStr (fun _ => rfl) ((opens_string Tryd.underlying9).imp fun cs ⟨s, h, hs⟩ => ⟨s, h, hs⟩)).imp
    fun cs ⟨A, c, l, h, hl, hc, hr, hq⟩ => ⟨A, c, l, h, by omega, by rw [← flat_one]; exact hr, hq⟩
theorem opens_schema (N : Nat) : Opens enc Tryd.prog w (N + 5) 29 (fun cs => ∃ s : SchemaV, .agg cs.toArray = s.val ∧ s.ok w w.heap.size) := by
  obtain ⟨fs, hu, hfs⟩ := schemaStruct
  refine (opens_struct2 (R0 := fun v => ∃ (A : Option Addr) (c : Nat) (l : List TypeV), v = .slice A l.length c ∧ l.length ≤ 3518437208780 ∧ Rd w w.heap.size A (l.flatMap TypeV.cells) ∧ ∀ t ∈ l, t.ok w w.heap.size)
    (R1 := fun v => ∃ (A : Option Addr) (c : Nat) (l : List ByteArray), v = .slice A l.length c ∧ l.length ≤ 8796093021952 ∧ Rd w w.heap.size A (l.map .string) ∧ ∀ x ∈ l, x.size ≤ 140737488351232) hu hfs cSchema cTypes cStrs ?_ ?_).imp ?_
  · exact (opens_slice Tryd.underlying26 cType (by omega) bType (fun _ => rfl) (opens_type N)).imp fun cs ⟨A, c, l, h, hl, hc, hr, hq⟩ => ⟨_, h, A, c, l, rfl, by omega, hr, hq⟩
  · exact (opens_strs (N + 3)).imp fun cs ⟨A, c, l, h, hl, hr, hq⟩ => ⟨_, h, A, c, l, rfl, hl, hr, hq⟩
  · rintro cs ⟨u, v, rfl, ⟨A, c, l, rfl, hl, hr, hq⟩, A2, c2, l2, rfl, hl2, hr2, hq2⟩
    exact ⟨⟨A, c, l, A2, c2, l2⟩, rfl, hr, hl, hq, hr2, hl2, hq2⟩

/-- A schema as an argument. -/
theorem open_schema {r : Reach} {b0 : Nat} {v : Value} {d : DataW H} {p : List MemPlace} (hv : Value.okWide Tryd.prog w r b0 29 v) (h : DataW.Trod enc Tryd.prog w 0 (fun _ => true) true 29 v d p)
    (hw : (d.weights Tryd.prog 29).all (· ≤ reachBytes) = true) : ∃ s : SchemaV, v = s.val ∧ s.ok w w.heap.size := by
  obtain ⟨fs, hu, _⟩ := schemaStruct
  obtain ⟨cs, rfl, _⟩ := okWide_struct hu hv
  obtain ⟨fuel, hf⟩ := h
  exact opens_schema fuel fuel (by omega) _ _ hf hw
end
end Go.Proofs.YtpakcicbojbonaaDoor
