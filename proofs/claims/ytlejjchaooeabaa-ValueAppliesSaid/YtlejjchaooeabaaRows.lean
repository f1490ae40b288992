/-
  No cell of these rows narrows 'for every input' (looked for: loops, veiled, ifaces, maps, wideKeys, modest, calm, conditions, laid).
  DERIVED. THE GIVEN ROWS OF THIS SEAT. 10 by the template 'for every input the law returns true; each argument reads behind the call as it read before'; 0 by the template 'total and deterministic' (their statements: YtlejjchaooeabaaTotals.lean).
  GIVEN WITH THE SEED: the statements are not yours to turn. If you find one false, say at which input.
  Laid BY PROGRAM, IN A SANDBOX (cutbox-rows.mjs): the forced cells as the released guide's own fill.sh prints them over the translation c9aee6997040f9b3… (all of the seat's roots in one cut). By AI agents, Wed Nov 11 2026. No macro, syntax, notation, axiom, sorry.
-/
import Derived.Test.YtlejjchaooeabaaChecked
import GoSem.Claim
import GoSem.ClaimJoined
import GoSem.ClaimMapViews
import Derived.JoinedTies
import Derived.KernelRfl
namespace Go.Proofs.Ytlejjchaooeabaa
/- THE CELL 'sum', in the pinned program and in every row, IS THE sha256 OF THE DUMP (.gsa) THAT YtlejjchaooeabaaProg.lean LOADS. Nothing in Lean hashes anything: it is a label: what it is worth is what the hold of that sum in a sandbox is worth. -/
noncomputable def Try.pinned : Pinned := { name := "ytlejjchaooeabaa", sum := "c9aee6997040f9b3abb0f994b0b5ada5a1ea8b0f066aae716224982b505560af", checked := Try.checked }
namespace Rows
def none {H : Type} : Left H := { results := [], args := [] }

/-- 'auspicelaw02.ValueCleans': WHATEVER THE INPUT: true; the input reads as it did. -/
def valueCleansSpec : ChangeSpec := { name := "valueCleans", fn := fun _ => fun
  | [d] => { results := [.lit (.bool true)], args := [d] }
  | _ => none }
def valueCleansRow : OpenClaim := { program := "ytlejjchaooeabaa", sum := "c9aee6997040f9b3abb0f994b0b5ada5a1ea8b0f066aae716224982b505560af", func := "auspice/auspicelaw02.ValueCleans", spec := "valueCleans", inPlace := ["math.Float64frombits", "math.Float64bits"], unfollowed := true, recurses := true, apart := false }
def ValueCleansSaid : Prop := valueCleansRow.holds Try.pinned (OpenSpec.ofChange valueCleansSpec)

/-- ITS FALSE NEIGHBOUR: 'it returns false'. Refute it at one input. -/
def valueCleansWrong : ChangeSpec := { name := "valueCleans", fn := fun _ => fun
  | [d] => { results := [.lit (.bool false)], args := [d] }
  | _ => none }
def ValueCleansWrongFalsely : Prop := valueCleansRow.holds Try.pinned (OpenSpec.ofChange valueCleansWrong)

/-- 'auspicelaw02.ValueResults': WHATEVER THE INPUT: true; the input reads as it did. -/
def valueResultsSpec : ChangeSpec := { name := "valueResults", fn := fun _ => fun
  | [d1, d2] => { results := [.lit (.bool true)], args := [d1, d2] }
  | _ => none }
def valueResultsRow : OpenClaim := { program := "ytlejjchaooeabaa", sum := "c9aee6997040f9b3abb0f994b0b5ada5a1ea8b0f066aae716224982b505560af", func := "auspice/auspicelaw02.ValueResults", spec := "valueResults", inPlace := ["math.Float64frombits", "math.Float64bits"], unfollowed := true, recurses := true, apart := false }
def ValueResultsSaid : Prop := valueResultsRow.holds Try.pinned (OpenSpec.ofChange valueResultsSpec)

/-- ITS FALSE NEIGHBOUR: 'it returns false'. Refute it at one input. -/
def valueResultsWrong : ChangeSpec := { name := "valueResults", fn := fun _ => fun
  | [d1, d2] => { results := [.lit (.bool false)], args := [d1, d2] }
  | _ => none }
def ValueResultsWrongFalsely : Prop := valueResultsRow.holds Try.pinned (OpenSpec.ofChange valueResultsWrong)

/-- 'auspicelaw02.ValueApplies': WHATEVER THE INPUT: true; the input reads as it did. -/
def valueAppliesSpec : ChangeSpec := { name := "valueApplies", fn := fun _ => fun
  | [d1, d2] => { results := [.lit (.bool true)], args := [d1, d2] }
  | _ => none }
def valueAppliesRow : OpenClaim := { program := "ytlejjchaooeabaa", sum := "c9aee6997040f9b3abb0f994b0b5ada5a1ea8b0f066aae716224982b505560af", func := "auspice/auspicelaw02.ValueApplies", spec := "valueApplies", inPlace := ["math.Float64frombits", "math.Float64bits"], unfollowed := true, recurses := true, apart := false }
def ValueAppliesSaid : Prop := valueAppliesRow.holds Try.pinned (OpenSpec.ofChange valueAppliesSpec)

/-- ITS FALSE NEIGHBOUR: 'it returns false'. Refute it at one input. -/
def valueAppliesWrong : ChangeSpec := { name := "valueApplies", fn := fun _ => fun
  | [d1, d2] => { results := [.lit (.bool false)], args := [d1, d2] }
  | _ => none }
def ValueAppliesWrongFalsely : Prop := valueAppliesRow.holds Try.pinned (OpenSpec.ofChange valueAppliesWrong)

/-- 'auspicelaw02.ValueKinds': WHATEVER THE INPUT: true; the input reads as it did. -/
def valueKindsSpec : ChangeSpec := { name := "valueKinds", fn := fun _ => fun
  | [d1, d2] => { results := [.lit (.bool true)], args := [d1, d2] }
  | _ => none }
def valueKindsRow : OpenClaim := { program := "ytlejjchaooeabaa", sum := "c9aee6997040f9b3abb0f994b0b5ada5a1ea8b0f066aae716224982b505560af", func := "auspice/auspicelaw02.ValueKinds", spec := "valueKinds", inPlace := ["math.Float64frombits", "math.Float64bits"], unfollowed := true, recurses := true, apart := false }
def ValueKindsSaid : Prop := valueKindsRow.holds Try.pinned (OpenSpec.ofChange valueKindsSpec)

/-- ITS FALSE NEIGHBOUR: 'it returns false'. Refute it at one input. -/
def valueKindsWrong : ChangeSpec := { name := "valueKinds", fn := fun _ => fun
  | [d1, d2] => { results := [.lit (.bool false)], args := [d1, d2] }
  | _ => none }
def ValueKindsWrongFalsely : Prop := valueKindsRow.holds Try.pinned (OpenSpec.ofChange valueKindsWrong)

/-- 'auspicelaw02.ValueTruths': WHATEVER THE INPUT: true; the input reads as it did. -/
def valueTruthsSpec : ChangeSpec := { name := "valueTruths", fn := fun _ => fun
  | [d1, d2, d3] => { results := [.lit (.bool true)], args := [d1, d2, d3] }
  | _ => none }
def valueTruthsRow : OpenClaim := { program := "ytlejjchaooeabaa", sum := "c9aee6997040f9b3abb0f994b0b5ada5a1ea8b0f066aae716224982b505560af", func := "auspice/auspicelaw02.ValueTruths", spec := "valueTruths", inPlace := ["math.Float64frombits", "math.Float64bits"], unfollowed := true, recurses := true, apart := false }
def ValueTruthsSaid : Prop := valueTruthsRow.holds Try.pinned (OpenSpec.ofChange valueTruthsSpec)

/-- ITS FALSE NEIGHBOUR: 'it returns false'. Refute it at one input. -/
def valueTruthsWrong : ChangeSpec := { name := "valueTruths", fn := fun _ => fun
  | [d1, d2, d3] => { results := [.lit (.bool false)], args := [d1, d2, d3] }
  | _ => none }
def ValueTruthsWrongFalsely : Prop := valueTruthsRow.holds Try.pinned (OpenSpec.ofChange valueTruthsWrong)

/-- 'auspicelaw02.ValueStrict': WHATEVER THE INPUT: true; the input reads as it did. -/
def valueStrictSpec : ChangeSpec := { name := "valueStrict", fn := fun _ => fun
  | [d1, d2, d3] => { results := [.lit (.bool true)], args := [d1, d2, d3] }
  | _ => none }
def valueStrictRow : OpenClaim := { program := "ytlejjchaooeabaa", sum := "c9aee6997040f9b3abb0f994b0b5ada5a1ea8b0f066aae716224982b505560af", func := "auspice/auspicelaw02.ValueStrict", spec := "valueStrict", inPlace := ["math.Float64frombits", "math.Float64bits"], unfollowed := true, recurses := true, apart := false }
def ValueStrictSaid : Prop := valueStrictRow.holds Try.pinned (OpenSpec.ofChange valueStrictSpec)

/-- ITS FALSE NEIGHBOUR: 'it returns false'. Refute it at one input. -/
def valueStrictWrong : ChangeSpec := { name := "valueStrict", fn := fun _ => fun
  | [d1, d2, d3] => { results := [.lit (.bool false)], args := [d1, d2, d3] }
  | _ => none }
def ValueStrictWrongFalsely : Prop := valueStrictRow.holds Try.pinned (OpenSpec.ofChange valueStrictWrong)

/-- 'auspicelaw02.ValueBack': WHATEVER THE INPUT: true; the input reads as it did. -/
def valueBackSpec : ChangeSpec := { name := "valueBack", fn := fun _ => fun
  | [d1, d2] => { results := [.lit (.bool true)], args := [d1, d2] }
  | _ => none }
def valueBackRow : OpenClaim := { program := "ytlejjchaooeabaa", sum := "c9aee6997040f9b3abb0f994b0b5ada5a1ea8b0f066aae716224982b505560af", func := "auspice/auspicelaw02.ValueBack", spec := "valueBack", inPlace := ["math.Float64frombits", "math.Float64bits"], unfollowed := true, recurses := true, apart := false }
def ValueBackSaid : Prop := valueBackRow.holds Try.pinned (OpenSpec.ofChange valueBackSpec)

/-- ITS FALSE NEIGHBOUR: 'it returns false'. Refute it at one input. -/
def valueBackWrong : ChangeSpec := { name := "valueBack", fn := fun _ => fun
  | [d1, d2] => { results := [.lit (.bool false)], args := [d1, d2] }
  | _ => none }
def ValueBackWrongFalsely : Prop := valueBackRow.holds Try.pinned (OpenSpec.ofChange valueBackWrong)

/-- 'auspicelaw02.ValueDivides': WHATEVER THE INPUT: true; the input reads as it did. -/
def valueDividesSpec : ChangeSpec := { name := "valueDivides", fn := fun _ => fun
  | [d1, d2] => { results := [.lit (.bool true)], args := [d1, d2] }
  | _ => none }
def valueDividesRow : OpenClaim := { program := "ytlejjchaooeabaa", sum := "c9aee6997040f9b3abb0f994b0b5ada5a1ea8b0f066aae716224982b505560af", func := "auspice/auspicelaw02.ValueDivides", spec := "valueDivides", inPlace := ["math.Float64frombits", "math.Float64bits"], unfollowed := true, recurses := true, apart := false }
def ValueDividesSaid : Prop := valueDividesRow.holds Try.pinned (OpenSpec.ofChange valueDividesSpec)

/-- ITS FALSE NEIGHBOUR: 'it returns false'. Refute it at one input. -/
def valueDividesWrong : ChangeSpec := { name := "valueDivides", fn := fun _ => fun
  | [d1, d2] => { results := [.lit (.bool false)], args := [d1, d2] }
  | _ => none }
def ValueDividesWrongFalsely : Prop := valueDividesRow.holds Try.pinned (OpenSpec.ofChange valueDividesWrong)

/-- 'auspicelaw02.ValueCompares': WHATEVER THE INPUT: true; the input reads as it did. -/
def valueComparesSpec : ChangeSpec := { name := "valueCompares", fn := fun _ => fun
  | [d1, d2] => { results := [.lit (.bool true)], args := [d1, d2] }
  | _ => none }
def valueComparesRow : OpenClaim := { program := "ytlejjchaooeabaa", sum := "c9aee6997040f9b3abb0f994b0b5ada5a1ea8b0f066aae716224982b505560af", func := "auspice/auspicelaw02.ValueCompares", spec := "valueCompares", inPlace := ["math.Float64frombits", "math.Float64bits"], unfollowed := true, recurses := true, apart := false }
def ValueComparesSaid : Prop := valueComparesRow.holds Try.pinned (OpenSpec.ofChange valueComparesSpec)

/-- ITS FALSE NEIGHBOUR: 'it returns false'. Refute it at one input. -/
def valueComparesWrong : ChangeSpec := { name := "valueCompares", fn := fun _ => fun
  | [d1, d2] => { results := [.lit (.bool false)], args := [d1, d2] }
  | _ => none }
def ValueComparesWrongFalsely : Prop := valueComparesRow.holds Try.pinned (OpenSpec.ofChange valueComparesWrong)

/-- 'auspicelaw02.ValueOrders': WHATEVER THE INPUT: true; the input reads as it did. -/
def valueOrdersSpec : ChangeSpec := { name := "valueOrders", fn := fun _ => fun
  | [d1, d2] => { results := [.lit (.bool true)], args := [d1, d2] }
  | _ => none }
def valueOrdersRow : OpenClaim := { program := "ytlejjchaooeabaa", sum := "c9aee6997040f9b3abb0f994b0b5ada5a1ea8b0f066aae716224982b505560af", func := "auspice/auspicelaw02.ValueOrders", spec := "valueOrders", inPlace := ["math.Float64frombits", "math.Float64bits"], unfollowed := true, recurses := true, apart := false }
def ValueOrdersSaid : Prop := valueOrdersRow.holds Try.pinned (OpenSpec.ofChange valueOrdersSpec)

/-- ITS FALSE NEIGHBOUR: 'it returns false'. Refute it at one input. -/
def valueOrdersWrong : ChangeSpec := { name := "valueOrders", fn := fun _ => fun
  | [d1, d2] => { results := [.lit (.bool false)], args := [d1, d2] }
  | _ => none }
def ValueOrdersWrongFalsely : Prop := valueOrdersRow.holds Try.pinned (OpenSpec.ofChange valueOrdersWrong)

/- THE SECOND FORM. 'bulk': how many values and letters a reading holds, each counted each time it is reached (what is shared counts as often as it is met; a slice's spare places count too). A statement '..UptoSaid' is the law's where the arguments, and the package variables that the reading takes, are together of bulk at most 1048576: NARROWER than '..Said'. Prove '..Said' where nothing that the law and all that it calls make is longer than what came in: it says more and counts as full. Else prove '..UptoSaid'. A law counts once. -/
mutual
def uptoBulk {H : Type} : DataW H → Nat
  | .lit (.string bytes) => bytes.length + 1
  | .lit _ => 1
  | .nil => 1
  | .ptr d => uptoBulk d + 1
  | .slice elems spare => uptoBulkAll elems + uptoBulkAll spare + 1
  | .agg parts => uptoBulkAll parts + 1
  | .iface _ d => uptoBulk d + 1
  | .map entries => uptoBulkEntries entries + 1
  | .held _ => 1
def uptoBulkAll {H : Type} : List (DataW H) → Nat
  | [] => 0
  | d :: r => uptoBulk d + uptoBulkAll r
def uptoBulkEntries {H : Type} : List (Lit × DataW H) → Nat
  | [] => 0
  | x :: r => uptoBulkEntry x + uptoBulkEntries r
def uptoBulkEntry {H : Type} : Lit × DataW H → Nat
  | (.string bytes, d) => bytes.length + uptoBulk d + 1
  | (_, d) => uptoBulk d + 1
 end
def uptoSmall : (H : Type) → List (DataW H) → Bool := fun _ ds => decide (uptoBulkAll ds ≤ 1048576)
def OpenSpec.upto (s : _root_.Go.ChangeSpec) : _root_.Go.OpenSpec := { _root_.Go.OpenSpec.ofChange s with cond := some uptoSmall }

/-- 'auspicelaw02.ValueCleans', WHERE WHAT IT READS IS OF BULK AT MOST 1048576: true; the input reads as it did. -/
def valueCleansUptoRow : OpenClaim := { program := "ytlejjchaooeabaa", sum := "c9aee6997040f9b3abb0f994b0b5ada5a1ea8b0f066aae716224982b505560af", func := "auspice/auspicelaw02.ValueCleans", spec := "valueCleans", inPlace := ["math.Float64frombits", "math.Float64bits"], unfollowed := true, recurses := true, apart := false, narrowed := true }
def ValueCleansUptoSaid : Prop := valueCleansUptoRow.holds Try.pinned (OpenSpec.upto valueCleansSpec)

/-- 'auspicelaw02.ValueResults', WHERE WHAT IT READS IS OF BULK AT MOST 1048576: true; the input reads as it did. -/
def valueResultsUptoRow : OpenClaim := { program := "ytlejjchaooeabaa", sum := "c9aee6997040f9b3abb0f994b0b5ada5a1ea8b0f066aae716224982b505560af", func := "auspice/auspicelaw02.ValueResults", spec := "valueResults", inPlace := ["math.Float64frombits", "math.Float64bits"], unfollowed := true, recurses := true, apart := false, narrowed := true }
def ValueResultsUptoSaid : Prop := valueResultsUptoRow.holds Try.pinned (OpenSpec.upto valueResultsSpec)

/-- 'auspicelaw02.ValueApplies', WHERE WHAT IT READS IS OF BULK AT MOST 1048576: true; the input reads as it did. -/
def valueAppliesUptoRow : OpenClaim := { program := "ytlejjchaooeabaa", sum := "c9aee6997040f9b3abb0f994b0b5ada5a1ea8b0f066aae716224982b505560af", func := "auspice/auspicelaw02.ValueApplies", spec := "valueApplies", inPlace := ["math.Float64frombits", "math.Float64bits"], unfollowed := true, recurses := true, apart := false, narrowed := true }
def ValueAppliesUptoSaid : Prop := valueAppliesUptoRow.holds Try.pinned (OpenSpec.upto valueAppliesSpec)

/-- 'auspicelaw02.ValueKinds', WHERE WHAT IT READS IS OF BULK AT MOST 1048576: true; the input reads as it did. -/
def valueKindsUptoRow : OpenClaim := { program := "ytlejjchaooeabaa", sum := "c9aee6997040f9b3abb0f994b0b5ada5a1ea8b0f066aae716224982b505560af", func := "auspice/auspicelaw02.ValueKinds", spec := "valueKinds", inPlace := ["math.Float64frombits", "math.Float64bits"], unfollowed := true, recurses := true, apart := false, narrowed := true }
def ValueKindsUptoSaid : Prop := valueKindsUptoRow.holds Try.pinned (OpenSpec.upto valueKindsSpec)

/-- 'auspicelaw02.ValueTruths', WHERE WHAT IT READS IS OF BULK AT MOST 1048576: true; the input reads as it did. -/
def valueTruthsUptoRow : OpenClaim := { program := "ytlejjchaooeabaa", sum := "c9aee6997040f9b3abb0f994b0b5ada5a1ea8b0f066aae716224982b505560af", func := "auspice/auspicelaw02.ValueTruths", spec := "valueTruths", inPlace := ["math.Float64frombits", "math.Float64bits"], unfollowed := true, recurses := true, apart := false, narrowed := true }
def ValueTruthsUptoSaid : Prop := valueTruthsUptoRow.holds Try.pinned (OpenSpec.upto valueTruthsSpec)

/-- 'auspicelaw02.ValueStrict', WHERE WHAT IT READS IS OF BULK AT MOST 1048576: true; the input reads as it did. -/
def valueStrictUptoRow : OpenClaim := { program := "ytlejjchaooeabaa", sum := "c9aee6997040f9b3abb0f994b0b5ada5a1ea8b0f066aae716224982b505560af", func := "auspice/auspicelaw02.ValueStrict", spec := "valueStrict", inPlace := ["math.Float64frombits", "math.Float64bits"], unfollowed := true, recurses := true, apart := false, narrowed := true }
def ValueStrictUptoSaid : Prop := valueStrictUptoRow.holds Try.pinned (OpenSpec.upto valueStrictSpec)

/-- 'auspicelaw02.ValueBack', WHERE WHAT IT READS IS OF BULK AT MOST 1048576: true; the input reads as it did. -/
def valueBackUptoRow : OpenClaim := { program := "ytlejjchaooeabaa", sum := "c9aee6997040f9b3abb0f994b0b5ada5a1ea8b0f066aae716224982b505560af", func := "auspice/auspicelaw02.ValueBack", spec := "valueBack", inPlace := ["math.Float64frombits", "math.Float64bits"], unfollowed := true, recurses := true, apart := false, narrowed := true }
def ValueBackUptoSaid : Prop := valueBackUptoRow.holds Try.pinned (OpenSpec.upto valueBackSpec)

/-- 'auspicelaw02.ValueDivides', WHERE WHAT IT READS IS OF BULK AT MOST 1048576: true; the input reads as it did. -/
def valueDividesUptoRow : OpenClaim := { program := "ytlejjchaooeabaa", sum := "c9aee6997040f9b3abb0f994b0b5ada5a1ea8b0f066aae716224982b505560af", func := "auspice/auspicelaw02.ValueDivides", spec := "valueDivides", inPlace := ["math.Float64frombits", "math.Float64bits"], unfollowed := true, recurses := true, apart := false, narrowed := true }
def ValueDividesUptoSaid : Prop := valueDividesUptoRow.holds Try.pinned (OpenSpec.upto valueDividesSpec)

/-- 'auspicelaw02.ValueCompares', WHERE WHAT IT READS IS OF BULK AT MOST 1048576: true; the input reads as it did. -/
def valueComparesUptoRow : OpenClaim := { program := "ytlejjchaooeabaa", sum := "c9aee6997040f9b3abb0f994b0b5ada5a1ea8b0f066aae716224982b505560af", func := "auspice/auspicelaw02.ValueCompares", spec := "valueCompares", inPlace := ["math.Float64frombits", "math.Float64bits"], unfollowed := true, recurses := true, apart := false, narrowed := true }
def ValueComparesUptoSaid : Prop := valueComparesUptoRow.holds Try.pinned (OpenSpec.upto valueComparesSpec)

/-- 'auspicelaw02.ValueOrders', WHERE WHAT IT READS IS OF BULK AT MOST 1048576: true; the input reads as it did. -/
def valueOrdersUptoRow : OpenClaim := { program := "ytlejjchaooeabaa", sum := "c9aee6997040f9b3abb0f994b0b5ada5a1ea8b0f066aae716224982b505560af", func := "auspice/auspicelaw02.ValueOrders", spec := "valueOrders", inPlace := ["math.Float64frombits", "math.Float64bits"], unfollowed := true, recurses := true, apart := false, narrowed := true }
def ValueOrdersUptoSaid : Prop := valueOrdersUptoRow.holds Try.pinned (OpenSpec.upto valueOrdersSpec)

end Rows
end Go.Proofs.Ytlejjchaooeabaa
