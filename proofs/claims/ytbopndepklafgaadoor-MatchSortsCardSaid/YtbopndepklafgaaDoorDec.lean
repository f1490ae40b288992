/- Digits, plain (of base/Dec the part without a program). No conditions. -/
import Derived.Test.YtbopndepklafgaaDoorMem
import Derived.Lib.ItoaNum
import Derived.WalkSpells
import Derived.IntWalk
import Derived.Lib.AppendIntMem
namespace Go.Proofs.YtbopndepklafgaaDoor
open Go.RowKit
set_option linter.unusedVariables false
set_option linter.unusedSimpArgs false

def bytes (l : List UInt8) : ByteArray := ⟨l.toArray⟩
theorem bytes_size (l : List UInt8) : (bytes l).size = l.length := by simp [bytes, ByteArray.size]
theorem bytes_list (l : List UInt8) : (bytes l).toList = l := by simp [bytes, ByteArray.toList_eq]
theorem cat_bytes (a b : ByteArray) : a ++ b = bytes (a.toList ++ b.toList) := by
  apply ByteArray.ext
  simp [bytes, ByteArray.toList_eq]
def dgt (d : Nat) : UInt8 := UInt8.ofNat (48 + d)
theorem dec_small (u : Nat) (h : u < 10) : Lib.decDigits u = [dgt u] := by unfold dgt; rw [Lib.decDigits, dif_pos h]
theorem dec_more (u : Nat) (h : ¬ u < 10) : Lib.decDigits u = Lib.decDigits (u / 10) ++ [dgt (u % 10)] := by unfold dgt; rw [Lib.decDigits, dif_neg h]

end Go.Proofs.YtbopndepklafgaaDoor
