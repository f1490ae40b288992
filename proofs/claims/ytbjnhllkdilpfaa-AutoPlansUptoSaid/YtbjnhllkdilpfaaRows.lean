/-
  NARROWER THAN 'FOR EVERY INPUT', by the rows' own cells (each row's printed sentence says how): AutoTree: loops · AutoPlans: loops.
  DERIVED. THE GIVEN ROWS OF THIS SEAT. 3 by the template 'for every input the law returns true; each argument reads behind the call as it read before'; 0 by the template 'total and deterministic' (their statements: YtbjnhllkdilpfaaTotals.lean).
  GIVEN WITH THE SEED: the statements are not yours to turn. If you find one false, say at which input.
  Laid BY PROGRAM, IN A SANDBOX (cutbox-rows.mjs): the forced cells as the released guide's own fill.sh prints them over the translation 3d480ddbc759adf3… (all of the seat's roots in one cut). By AI agents, Wed Nov 11 2026. No macro, syntax, notation, axiom, sorry.
-/
import Derived.Test.YtbjnhllkdilpfaaChecked
import GoSem.Claim
import GoSem.ClaimJoined
import GoSem.ClaimMapViews
import Derived.JoinedTies
import Derived.KernelRfl
namespace Go.Proofs.Ytbjnhllkdilpfaa
/- THE CELL 'sum', in the pinned program and in every row, IS THE sha256 OF THE DUMP (.gsa) THAT YtbjnhllkdilpfaaProg.lean LOADS. Nothing in Lean hashes anything: it is a label: what it is worth is what the hold of that sum in a sandbox is worth. -/
noncomputable def Try.pinned : Pinned := { name := "ytbjnhllkdilpfaa", sum := "3d480ddbc759adf33d39cdd2c4dac33e9262d4778bb05ec961571632413a40ab", checked := Try.checked }
namespace Rows
def none {H : Type} : Left H := { results := [], args := [] }

/-- 'auspicelaw14.AutoFull': WHATEVER THE INPUT: true; the input reads as it did. -/
def autoFullSpec : ChangeSpec := { name := "autoFull", fn := fun _ => fun
  | [] => { results := [.lit (.bool true)], args := [] }
  | _ => none }
def autoFullRow : OpenClaim := { program := "ytbjnhllkdilpfaa", sum := "3d480ddbc759adf33d39cdd2c4dac33e9262d4778bb05ec961571632413a40ab", func := "auspice/auspicelaw14.AutoFull", spec := "autoFull", inPlace := ["math.Float64frombits", "math.Float64bits"], recurses := true, apart := false }
def AutoFullSaid : Prop := autoFullRow.holds Try.pinned (OpenSpec.ofChange autoFullSpec)

/-- ITS FALSE NEIGHBOUR: 'it returns false'. Refute it at one input. -/
def autoFullWrong : ChangeSpec := { name := "autoFull", fn := fun _ => fun
  | [] => { results := [.lit (.bool false)], args := [] }
  | _ => none }
def AutoFullWrongFalsely : Prop := autoFullRow.holds Try.pinned (OpenSpec.ofChange autoFullWrong)

/-- 'auspicelaw14.AutoTree': WHATEVER THE INPUT: true; the input reads as it did. -/
def autoTreeSpec : ChangeSpec := { name := "autoTree", fn := fun _ => fun
  | [d] => { results := [.lit (.bool true)], args := [d] }
  | _ => none }
def autoTreeRow : OpenClaim := { program := "ytbjnhllkdilpfaa", sum := "3d480ddbc759adf33d39cdd2c4dac33e9262d4778bb05ec961571632413a40ab", func := "auspice/auspicelaw14.AutoTree", spec := "autoTree", inPlace := ["math.Float64frombits", "math.Float64bits"], recurses := true, loops := true, apart := false }
def AutoTreeSaid : Prop := autoTreeRow.holds Try.pinned (OpenSpec.ofChange autoTreeSpec)

/-- ITS FALSE NEIGHBOUR: 'it returns false'. Refute it at one input. -/
def autoTreeWrong : ChangeSpec := { name := "autoTree", fn := fun _ => fun
  | [d] => { results := [.lit (.bool false)], args := [d] }
  | _ => none }
def AutoTreeWrongFalsely : Prop := autoTreeRow.holds Try.pinned (OpenSpec.ofChange autoTreeWrong)

/-- 'auspicelaw14.AutoPlans': WHATEVER THE INPUT: true; the input reads as it did. -/
def autoPlansSpec : ChangeSpec := { name := "autoPlans", fn := fun _ => fun
  | [d] => { results := [.lit (.bool true)], args := [d] }
  | _ => none }
def autoPlansRow : OpenClaim := { program := "ytbjnhllkdilpfaa", sum := "3d480ddbc759adf33d39cdd2c4dac33e9262d4778bb05ec961571632413a40ab", func := "auspice/auspicelaw14.AutoPlans", spec := "autoPlans", inPlace := ["math.Float64frombits", "math.Float64bits"], unfollowed := true, recurses := true, loops := true, apart := false }
def AutoPlansSaid : Prop := autoPlansRow.holds Try.pinned (OpenSpec.ofChange autoPlansSpec)

/-- ITS FALSE NEIGHBOUR: 'it returns false'. Refute it at one input. -/
def autoPlansWrong : ChangeSpec := { name := "autoPlans", fn := fun _ => fun
  | [d] => { results := [.lit (.bool false)], args := [d] }
  | _ => none }
def AutoPlansWrongFalsely : Prop := autoPlansRow.holds Try.pinned (OpenSpec.ofChange autoPlansWrong)

/- THE SECOND FORM. 'bulk': how many values and letters a reading holds, each counted each time it is reached (what is shared counts as often as it is met; a slice's spare places count too). A statement '..UptoSaid' is the law's where the arguments, and the package variables that the reading takes, are together of bulk at most 1048576: NARROWER than '..Said'. Prove '..Said' where nothing that the law and all that it calls make is longer than what came in: it says more and counts as full. Else prove '..UptoSaid'. A law counts once. -/
mutual
def uptoBulk {H : Type} : DataW H → Nat
  | .lit (.string bytes) => bytes.length + 1
  | .lit _ => 1
  | .nil => 1
  | .ptr d => uptoBulk d + 1
  | .slice elems spare => uptoBulkAll elems + uptoBulkAll spare + 1
  | .agg parts => uptoBulkAll parts + 1
  | .iface _ d => uptoBulk d + 1
  | .map entries => uptoBulkEntries entries + 1
  | .held _ => 1
def uptoBulkAll {H : Type} : List (DataW H) → Nat
  | [] => 0
  | d :: r => uptoBulk d + uptoBulkAll r
def uptoBulkEntries {H : Type} : List (Lit × DataW H) → Nat
  | [] => 0
  | x :: r => uptoBulkEntry x + uptoBulkEntries r
def uptoBulkEntry {H : Type} : Lit × DataW H → Nat
  | (.string bytes, d) => bytes.length + uptoBulk d + 1
  | (_, d) => uptoBulk d + 1
 end
def uptoSmall : (H : Type) → List (DataW H) → Bool := fun _ ds => decide (uptoBulkAll ds ≤ 1048576)
def OpenSpec.upto (s : _root_.Go.ChangeSpec) : _root_.Go.OpenSpec := { _root_.Go.OpenSpec.ofChange s with cond := some uptoSmall }

/-- 'auspicelaw14.AutoFull', WHERE WHAT IT READS IS OF BULK AT MOST 1048576: true; the input reads as it did. -/
def autoFullUptoRow : OpenClaim := { program := "ytbjnhllkdilpfaa", sum := "3d480ddbc759adf33d39cdd2c4dac33e9262d4778bb05ec961571632413a40ab", func := "auspice/auspicelaw14.AutoFull", spec := "autoFull", inPlace := ["math.Float64frombits", "math.Float64bits"], recurses := true, apart := false, narrowed := true }
def AutoFullUptoSaid : Prop := autoFullUptoRow.holds Try.pinned (OpenSpec.upto autoFullSpec)

/-- 'auspicelaw14.AutoTree', WHERE WHAT IT READS IS OF BULK AT MOST 1048576: true; the input reads as it did. -/
def autoTreeUptoRow : OpenClaim := { program := "ytbjnhllkdilpfaa", sum := "3d480ddbc759adf33d39cdd2c4dac33e9262d4778bb05ec961571632413a40ab", func := "auspice/auspicelaw14.AutoTree", spec := "autoTree", inPlace := ["math.Float64frombits", "math.Float64bits"], recurses := true, loops := true, apart := false, narrowed := true }
def AutoTreeUptoSaid : Prop := autoTreeUptoRow.holds Try.pinned (OpenSpec.upto autoTreeSpec)

/-- 'auspicelaw14.AutoPlans', WHERE WHAT IT READS IS OF BULK AT MOST 1048576: true; the input reads as it did. -/
def autoPlansUptoRow : OpenClaim := { program := "ytbjnhllkdilpfaa", sum := "3d480ddbc759adf33d39cdd2c4dac33e9262d4778bb05ec961571632413a40ab", func := "auspice/auspicelaw14.AutoPlans", spec := "autoPlans", inPlace := ["math.Float64frombits", "math.Float64bits"], unfollowed := true, recurses := true, loops := true, apart := false, narrowed := true }
def AutoPlansUptoSaid : Prop := autoPlansUptoRow.holds Try.pinned (OpenSpec.upto autoPlansSpec)

end Rows
end Go.Proofs.Ytbjnhllkdilpfaa
