/- Layer 4: what the rows' lists of variables give; a world that has them. Plain. -/
import Derived.Test.YtpakcicbojbonaaGreatDoorLawC
import Derived.Test.YtpakcicbojbonaaGreatDoorEvtQ
import Derived.Test.YtpakcicbojbonaaGreatDoorEvtS
import Derived.Test.YtpakcicbojbonaaGreatDoorSchRd
import Derived.Test.YtpakcicbojbonaaGreatDoorReadB
import Derived.Stop.LaidErr
namespace Go.Proofs.YtpakcicbojbonaaGreatDoor
open Go.ChangeShapes Go.WideShapes Go.ChangeAt Go.RowKit
set_option linter.unusedVariables false
set_option maxRecDepth 10000

theorem own : ownKnob Tryz.prog.godebug = none := by kernel_rfl
theorem laidOut : laidOutB Tryz.prog = true := by kernel_rfl
theorem gTab : Tryz.prog.globalNamed "internal/strconv.uint64pow10" = some 3 := by kernel_rfl
theorem gTabType : (Tryz.prog.globals[3]?).map (·.type) = some 141 := by kernel_rfl
theorem cTab : Tryz.prog.cellsOf 141 = 20 := by kernel_rfl
theorem cTab1 : Tryz.prog.cellsOf 55 = 1 := by kernel_rfl
theorem laid_pow : (Rows.laid_internal_strconv_uint64pow10 : DataW Unit) = Lib.tabData .u64 Lib.pow10Tab := by rfl
theorem gSyn : Tryz.prog.globalNamed "strconv.ErrSyntax" = some 1 := by kernel_rfl
theorem gSynType : (Tryz.prog.globals[1]?).map (·.type) = some 79 := by kernel_rfl
theorem gRng : Tryz.prog.globalNamed "strconv.ErrRange" = some 2 := by kernel_rfl
theorem gRngType : (Tryz.prog.globals[2]?).map (·.type) = some 79 := by kernel_rfl
theorem cErr : Tryz.prog.cellsOf 155 = 1 := by kernel_rfl
theorem star : "*" ++ "errors.errorString" = "*errors.errorString" := by decide
theorem rowErr (u : TypeId) (h : Tryz.prog.typeName? 3 u = some "*errors.errorString") : u = 153 :=
  typeName_ptr_named (nm := "errors.errorString") (by rw [star]; kernel_rfl) (by kernel_rfl) (by decide) u (by rw [star]; exact h)
def laid7 : List (String × DataW Unit) := [("math/bits.deBruijn32tab", Rows.laid_math_bits_deBruijn32tab), ("math/bits.deBruijn64tab", Rows.laid_math_bits_deBruijn64tab), ("internal/strconv.uint64pow10", Rows.laid_internal_strconv_uint64pow10), ("unicode/utf8.acceptRanges", Rows.laid_unicode_utf8_acceptRanges), ("strconv.ErrRange", Rows.laid_strconv_ErrRange), ("strconv.ErrSyntax", Rows.laid_strconv_ErrSyntax), ("unicode/utf8.first", Rows.laid_unicode_utf8_first)]
theorem laid_met7 {W : World} (h : laidMetH Tryz.prog laid7 W) : laidMet Tryz.prog laid7 W := h
theorem env_of {W : World} (h : laidMetH Tryz.prog laid7 W) (hsh : W.ShapedOpen Tryz.prog) : Env W := by
  have h1 := laid_met7 h
  have h4 := h1.tail.tail.tail.tail
  have h5 := h4.tail
  refine ⟨?_, Tryz.laysM146.s1_3 W hsh, ?_, ?_⟩
  · have h2 := h1.tail.tail
    rw [laid_pow] at h2
    exact Lib.tabIs_of_head gTab gTabType Tryz.underlying141 Tryz.underlying55 cTab1 cTab h2
  · obtain ⟨a, s, hv, _⟩ := laid_sentinel h5 gSyn gSynType Tryz.underlying79 rowErr Tryz.underlying153 Tryz.underlying155 rfl rfl Tryz.underlying9 cErr cStr
    exact ⟨_, _, by simpa using World.var?_cell gSyn hv 0⟩
  · obtain ⟨a, s, hv, _⟩ := laid_sentinel h4 gRng gRngType Tryz.underlying79 rowErr Tryz.underlying153 Tryz.underlying155 rfl rfl Tryz.underlying9 cErr cStr
    exact ⟨_, _, by simpa using World.var?_cell gRng hv 0⟩

def lit1 (k : IntKind) : DataW Unit → Value
  | .lit (.int _ z) => Value.int k z
  | _ => undef
def lits (k : IntKind) : DataW Unit → Array Value
  | .agg l => (l.flatMap fun d => match d with | .agg l' => l'.map (lit1 k) | d => [lit1 k d]).toArray
  | _ => #[]
def setTab (k : IntKind) (d : DataW Unit) : Obj → Obj
  | .cells _ t frozen => .cells (lits k d) t frozen
  | o => o
def setErr (b : Nat) : Obj → Obj
  | .cells _ t frozen => .cells #[.iface 153 (.pointer (some ⟨b, 0, none⟩))] t frozen
  | o => o
noncomputable def low : Nat := (World.holding Tryz.prog default ⟨#[], #[], []⟩).heap.size
def rngS : ByteArray := ⟨#[118, 97, 108, 117, 101, 32, 111, 117, 116, 32, 111, 102, 32, 114, 97, 110, 103, 101]⟩
def synS : ByteArray := ⟨#[105, 110, 118, 97, 108, 105, 100, 32, 115, 121, 110, 116, 97, 120]⟩
/-- A world in which the variables hold what the text lays. -/
noncomputable def laidWorld (os : Os) (args : Array Value) : World :=
  { World.holding Tryz.prog os ⟨#[.cells #[.string rngS] 155, .cells #[.string synS] 155], args, []⟩ with
    heap := ((((((((World.holding Tryz.prog os ⟨#[.cells #[.string rngS] 155, .cells #[.string synS] 155], args, []⟩).heap.modify 6 (setTab .u8 Rows.laid_math_bits_deBruijn32tab)).modify 7 (setTab .u8 Rows.laid_math_bits_deBruijn64tab)).modify 3 (setTab .u64 Rows.laid_internal_strconv_uint64pow10)).modify 5 (setTab .u8 Rows.laid_unicode_utf8_acceptRanges)).modify 4 (setTab .u8 Rows.laid_unicode_utf8_first)).modify 2 (setErr low)).modify 1 (setErr (low + 1))) }
theorem laid_try (os : Os) (args : Array Value) : laidMet Tryz.prog laid7 ((laidWorld os args).forCall (fun _ _ => 0) ⟨#[], args, []⟩).memory := laidMet_of_run' 8 (by kernel_rfl) (by kernel_rfl)

section
variable {H : Type} {enc : TypeId × Value → H} {w : World}
theorem open_strB {r : Reach} {b0 : Nat} {v : Value} {d : DataW H} {p : List MemPlace} (hv : Value.okWide Tryz.prog w r b0 9 v) (h : DataW.Trod enc Tryz.prog w 0 (fun _ => true) true 9 v d p)
    (hw : (d.weights Tryz.prog 9).all (· ≤ reachBytes) = true) (hb : Rows.uptoBulk d ≤ 1048576) : ∃ s : ByteArray, v = .string s ∧ s.size ≤ 1048576 := by
  obtain ⟨s, hs, hl⟩ := OpensB.arg (fun N => opensB_string (N := N) Tryz.underlying9) h hw hb
  obtain ⟨s', rfl⟩ := okWide_string Tryz.underlying9 hv
  simp [Value.cells] at hs
  subst hs
  exact ⟨s', rfl, hl⟩
end
end Go.Proofs.YtpakcicbojbonaaGreatDoor
