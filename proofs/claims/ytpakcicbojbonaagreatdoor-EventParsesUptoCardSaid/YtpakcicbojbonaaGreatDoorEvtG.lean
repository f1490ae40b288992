/- Layer 4: small facts. Plain. -/
import Derived.Test.YtpakcicbojbonaaGreatDoorEvtF
import Derived.IntWalk
namespace Go.Proofs.YtpakcicbojbonaaGreatDoor
open Go.RowKit
theorem ite_f {α : Type} (a b : α) : (if false = true then a else b) = b := rfl
theorem ite_t {α : Type} (a b : α) : (if true = true then a else b) = a := rfl
theorem schema_old {s : SchemaV} {w w' : World} (h : s.ok w w.heap.size) (hb : Below w.heap.size w w') : s.ok w' w'.heap.size := h.old hb
end Go.Proofs.YtpakcicbojbonaaGreatDoor
