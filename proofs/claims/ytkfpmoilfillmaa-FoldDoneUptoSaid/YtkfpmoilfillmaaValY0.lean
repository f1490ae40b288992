/- Plain words of the document's compare. No conditions. -/
import Derived.Test.YtkfpmoilfillmaaValX
import Derived.Deep.DeepCutAuto
namespace Go.Proofs.Ytkfpmoilfillmaa
open Go.RowKit
set_option linter.unusedSimpArgs false
set_option linter.unusedVariables false

def eqV (x y : V) : Bool := (x.k == y.k) && (x.b == y.b)
end Go.Proofs.Ytkfpmoilfillmaa
