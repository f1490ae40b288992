/- Contracts of the functions of layer 3 that go through lists. No conditions. -/
import Derived.Test.YtpakcicbojbonaaGreatDoorBase
import Derived.Test.YtpakcicbojbonaaGreatDoorSchA
namespace Go.Proofs.YtpakcicbojbonaaGreatDoor
set_option maxRecDepth 10000
open Go.RowKit

/-- The first place of a text in a list; -1. -/
def atFrom (s : List UInt8) : Nat → List (List UInt8) → Int
  | _, [] => -1
  | k, x :: l => if x == s then k else atFrom s (k + 1) l

end Go.Proofs.YtpakcicbojbonaaGreatDoor
