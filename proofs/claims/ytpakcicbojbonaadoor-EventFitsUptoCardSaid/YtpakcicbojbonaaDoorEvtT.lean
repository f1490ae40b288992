/- Layer 4: what the rows' lists of variables give; a world that has them. Plain. -/
import Derived.Test.YtpakcicbojbonaaDoorLawC
import Derived.Test.YtpakcicbojbonaaDoorEvtI
import Derived.Test.YtpakcicbojbonaaDoorEvtR
import Derived.Stop.LaidErr
namespace Go.Proofs.YtpakcicbojbonaaDoor
open Go.ChangeShapes Go.WideShapes Go.ChangeAt Go.RowKit
set_option linter.unusedVariables false

theorem own : ownKnob Tryd.prog.godebug = none := by kernel_rfl
theorem laidOut : laidOutB Tryd.prog = true := by kernel_rfl
theorem gTab : Tryd.prog.globalNamed "internal/strconv.uint64pow10" = some 0 := by kernel_rfl
theorem gTabType : (Tryd.prog.globals[0]?).map (·.type) = some 131 := by kernel_rfl
theorem cTab : Tryd.prog.cellsOf 131 = 20 := by kernel_rfl
theorem cTab1 : Tryd.prog.cellsOf 68 = 1 := by kernel_rfl
theorem laid_pow : (Rows.laid_internal_strconv_uint64pow10 : DataW Unit) = Lib.tabData .u64 Lib.pow10Tab := by rfl
def laid3 : List (String × DataW Unit) := [("math/bits.deBruijn32tab", Rows.laid_math_bits_deBruijn32tab), ("math/bits.deBruijn64tab", Rows.laid_math_bits_deBruijn64tab), ("internal/strconv.uint64pow10", Rows.laid_internal_strconv_uint64pow10)]
theorem tab_of {W : World} (h : laidMetH Tryd.prog laid3 W) : Tab W := by
  have h1 : laidMet Tryd.prog laid3 W := h
  unfold laid3 at h1
  rw [laid_pow] at h1
  exact Lib.tabIs_of_head (rest := []) gTab gTabType Tryd.underlying131 Tryd.underlying68 cTab1 cTab h1.tail.tail

def lits (k : IntKind) : DataW Unit → Array Value
  | .agg l => (l.map fun d => match d with | .lit (.int _ z) => Value.int k z | _ => undef).toArray
  | _ => #[]
def setTab (k : IntKind) (d : DataW Unit) : Obj → Obj
  | .cells _ t frozen => .cells (lits k d) t frozen
  | o => o
/-- A world in which the tables lie as the text lays them. -/
noncomputable def laidWorld (os : Os) (args : Array Value) : World :=
  { World.holding Tryd.prog os ⟨#[], args, []⟩ with
    heap := (((World.holding Tryd.prog os ⟨#[], args, []⟩).heap.modify 4 (setTab .u8 Rows.laid_math_bits_deBruijn32tab)).modify 5 (setTab .u8 Rows.laid_math_bits_deBruijn64tab)).modify 0 (setTab .u64 Rows.laid_internal_strconv_uint64pow10) }
end Go.Proofs.YtpakcicbojbonaaDoor
