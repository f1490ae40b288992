/- Contracts of the functions of layer 3 that go through a schema. No conditions. -/
import Derived.Test.YtpakcicbojbonaaGreatDoorSchB
namespace Go.Proofs.YtpakcicbojbonaaGreatDoor
set_option maxRecDepth 10000
open Go.RowKit

structure FieldV where
  name : ByteArray
  kind : Int
structure TypeV where
  name : ByteArray
  fa : Option Addr
  fc : Nat
  fields : List FieldV
structure SchemaV where
  ta : Option Addr
  tc : Nat
  types : List TypeV
  sa : Option Addr
  sc : Nat
  syms : List ByteArray
def FieldV.cells (f : FieldV) : List Value := [.string f.name, .int .i64 f.kind]
def TypeV.cells (t : TypeV) : List Value := [.string t.name, .slice t.fa t.fields.length t.fc]
def SchemaV.val (s : SchemaV) : Value := .agg #[.slice s.ta s.types.length s.tc, .slice s.sa s.syms.length s.sc]
structure TypeV.ok (t : TypeV) (w : World) (B : Nat) : Prop where
  rd : Rd w B t.fa (t.fields.flatMap FieldV.cells)
  len : t.fields.length ≤ 5864062014634
  nsize : t.name.size ≤ 140737488351232
  fsize : ∀ f ∈ t.fields, f.name.size ≤ 140737488351232
structure SchemaV.ok (s : SchemaV) (w : World) (B : Nat) : Prop where
  rd : Rd w B s.ta (s.types.flatMap TypeV.cells)
  len : s.types.length ≤ 3518437208780
  each : ∀ t ∈ s.types, t.ok w B
  syms : Rd w B s.sa (s.syms.map .string)
  slen : s.syms.length ≤ 8796093021952
  ssize : ∀ x ∈ s.syms, x.size ≤ 140737488351232

/-- The place of the attribute of a name among attributes; -1. -/
def fieldFrom (s : List UInt8) (k : Nat) (l : List FieldV) : Int := atFrom s k (l.map (·.name.toList))
def attrAt (s : SchemaV) (t : Int) (nm : List UInt8) : Int := if 0 ≤ t then (match s.types[t.toNat]? with | some x => fieldFrom nm 0 x.fields | none => -1) else -1

theorem fieldFrom_drop (nm : List UInt8) (l : List FieldV) (k : Nat) (h : k < l.length) : fieldFrom nm k (l.drop k) = if (l[k].name.toList == nm) = true then (k : Int) else fieldFrom nm (k + 1) (l.drop (k + 1)) := by
  rw [List.drop_eq_getElem_cons h]; rfl
def typeAt (s : SchemaV) (nm : List UInt8) : Int := atFrom nm 0 (s.types.map (·.name.toList))

/-- The kind of an attribute, or of the time. -/
def kindAt (s : SchemaV) (t a : Int) : Int :=
  if 0 ≤ t then (match s.types[t.toNat]? with
    | some x => if a = -1 then 1 else if 0 ≤ a then (match x.fields[a.toNat]? with | some f => f.kind | none => 0) else 0
    | none => 0) else 0
theorem kindAt_none (s : SchemaV) (t a : Int) (h : ¬ (0 ≤ t ∧ t < s.types.length)) : kindAt s t a = 0 := by
  unfold kindAt
  split
  · rw [List.getElem?_eq_none (by omega)]
  · rfl
theorem kindAt_some (s : SchemaV) (t : Nat) (a : Int) (h : t < s.types.length) : kindAt s t a = if a = -1 then 1 else if 0 ≤ a then (match s.types[t].fields[a.toNat]? with | some f => f.kind | none => 0) else 0 := by
  simp [kindAt, h]

end Go.Proofs.YtpakcicbojbonaaGreatDoor
