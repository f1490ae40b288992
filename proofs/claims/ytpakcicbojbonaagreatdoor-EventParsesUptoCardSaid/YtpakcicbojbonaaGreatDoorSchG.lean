/- Contract of awake of layer 3: it is true. No conditions. -/
import Derived.Test.YtpakcicbojbonaaGreatDoorSchD
import Derived.Test.YtpakcicbojbonaaGreatDoorSchF
import Derived.Test.YtpakcicbojbonaaGreatDoorSchTo
namespace Go.Proofs.YtpakcicbojbonaaGreatDoor
set_option maxRecDepth 10000
open Go.RowKit

theorem SchemaV.ok.old {s : SchemaV} {w w' : World} (h : s.ok w w.heap.size) (hb : Below w.heap.size w w') : s.ok w' w'.heap.size :=
  ⟨(h.rd.below hb).more hb.size, h.len, fun t ht => ⟨((h.each t ht).rd.below hb).more hb.size, (h.each t ht).len, (h.each t ht).nsize, (h.each t ht).fsize⟩, (h.syms.below hb).more hb.size, h.slen, h.ssize⟩

theorem SchemaV.ok.step {s : SchemaV} {W w' : World} {R : Prop} (h : s.ok W W.heap.size) (hb : Below W.heap.size W w' ∧ R) : s.ok w' w'.heap.size := h.old hb.1

def sig (t : TypeV) : ByteArray × List FieldV := (t.name, t.fields)
def typeSig (l : List (ByteArray × List FieldV)) (nm : List UInt8) : Int := atFrom nm 0 (l.map (·.1.toList))
def attrSig (l : List (ByteArray × List FieldV)) (t : Int) (nm : List UInt8) : Int := if 0 ≤ t then (match l[t.toNat]? with | some x => fieldFrom nm 0 x.2 | none => -1) else -1
def kindSig (l : List (ByteArray × List FieldV)) (t a : Int) : Int :=
  if 0 ≤ t then (match l[t.toNat]? with
    | some x => if a = -1 then 1 else if 0 ≤ a then (match x.2[a.toNat]? with | some f => f.kind | none => 0) else 0
    | none => 0) else 0
theorem typeAt_sig (s : SchemaV) (nm : List UInt8) : typeAt s nm = typeSig (s.types.map sig) nm := by simp [typeAt, typeSig, List.map_map, Function.comp_def, sig]
theorem attrAt_sig (s : SchemaV) (t : Int) (nm : List UInt8) : attrAt s t nm = attrSig (s.types.map sig) t nm := by
  unfold attrAt attrSig
  rw [List.getElem?_map]
  cases s.types[t.toNat]? <;> rfl
theorem kindAt_sig (s : SchemaV) (t a : Int) : kindAt s t a = kindSig (s.types.map sig) t a := by
  unfold kindAt kindSig
  rw [List.getElem?_map]
  cases s.types[t.toNat]? <;> rfl

/-- The types of the example. -/
def oneSig : List (ByteArray × List FieldV) := [(⟨#[84]⟩, [⟨⟨#[120]⟩, 1⟩]), (⟨#[85]⟩, [])]
def oneSyms : List ByteArray := [⟨#[97, 110, 110]⟩]

end Go.Proofs.YtpakcicbojbonaaGreatDoor
