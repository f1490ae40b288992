/- Layer 4: what the rows' lists of variables give; a world that has them. Plain. -/
import Derived.Test.YtpakcicbojbonaaDoorLawC
import Derived.Test.YtpakcicbojbonaaDoorEvtQ
import Derived.Test.YtpakcicbojbonaaDoorEvtR
import Derived.Test.YtpakcicbojbonaaDoorEvtS
import Derived.Test.YtpakcicbojbonaaDoorReadB
import Derived.Stop.LaidErr
namespace Go.Proofs.YtpakcicbojbonaaDoor
open Go.ChangeShapes Go.WideShapes Go.ChangeAt Go.RowKit
set_option linter.unusedVariables false
set_option maxRecDepth 10000

theorem own : ownKnob Tryd.prog.godebug = none := by kernel_rfl
theorem laidOut : laidOutB Tryd.prog = true := by kernel_rfl
theorem gTab : Tryd.prog.globalNamed "internal/strconv.uint64pow10" = some 0 := by kernel_rfl
theorem gTabType : (Tryd.prog.globals[0]?).map (·.type) = some 131 := by kernel_rfl
theorem cTab : Tryd.prog.cellsOf 131 = 20 := by kernel_rfl
theorem cTab1 : Tryd.prog.cellsOf 68 = 1 := by kernel_rfl
theorem laid_pow : (Rows.laid_internal_strconv_uint64pow10 : DataW Unit) = Lib.tabData .u64 Lib.pow10Tab := by rfl
theorem gSyn : Tryd.prog.globalNamed "strconv.ErrSyntax" = some 2 := by kernel_rfl
theorem gSynType : (Tryd.prog.globals[2]?).map (·.type) = some 86 := by kernel_rfl
theorem gRng : Tryd.prog.globalNamed "strconv.ErrRange" = some 3 := by kernel_rfl
theorem gRngType : (Tryd.prog.globals[3]?).map (·.type) = some 86 := by kernel_rfl
theorem cErr : Tryd.prog.cellsOf 163 = 1 := by kernel_rfl
theorem star : "*" ++ "errors.errorString" = "*errors.errorString" := by decide
theorem rowErr (u : TypeId) (h : Tryd.prog.typeName? 3 u = some "*errors.errorString") : u = 161 :=
  typeName_ptr_named (nm := "errors.errorString") (by rw [star]; kernel_rfl) (by kernel_rfl) (by decide) u (by rw [star]; exact h)
def laid7 : List (String × DataW Unit) := [("math/bits.deBruijn32tab", Rows.laid_math_bits_deBruijn32tab), ("math/bits.deBruijn64tab", Rows.laid_math_bits_deBruijn64tab), ("internal/strconv.uint64pow10", Rows.laid_internal_strconv_uint64pow10), ("unicode/utf8.acceptRanges", Rows.laid_unicode_utf8_acceptRanges), ("strconv.ErrRange", Rows.laid_strconv_ErrRange), ("strconv.ErrSyntax", Rows.laid_strconv_ErrSyntax), ("unicode/utf8.first", Rows.laid_unicode_utf8_first)]
theorem laid_met7 {W : World} (h : laidMetH Tryd.prog laid7 W) : laidMet Tryd.prog laid7 W := h
theorem env_of {W : World} (h : laidMetH Tryd.prog laid7 W) (hsh : W.ShapedOpen Tryd.prog) : Env W := by
  have h1 := laid_met7 h
  have h4 := h1.tail.tail.tail.tail
  have h5 := h4.tail
  refine ⟨?_, Tryd.laysM146.s1_3 W hsh, ?_, ?_⟩
  · have h2 := h1.tail.tail
    rw [laid_pow] at h2
    exact Lib.tabIs_of_head gTab gTabType Tryd.underlying131 Tryd.underlying68 cTab1 cTab h2
  · obtain ⟨a, s, hv, _⟩ := laid_sentinel h5 gSyn gSynType Tryd.underlying86 rowErr Tryd.underlying161 Tryd.underlying163 rfl rfl Tryd.underlying9 cErr cStr
    exact ⟨_, _, by simpa using World.var?_cell gSyn hv 0⟩
  · obtain ⟨a, s, hv, _⟩ := laid_sentinel h4 gRng gRngType Tryd.underlying86 rowErr Tryd.underlying161 Tryd.underlying163 rfl rfl Tryd.underlying9 cErr cStr
    exact ⟨_, _, by simpa using World.var?_cell gRng hv 0⟩

def lit1 (k : IntKind) : DataW Unit → Value
  | .lit (.int _ z) => Value.int k z
  | _ => undef
def lits (k : IntKind) : DataW Unit → Array Value
  | .agg l => (l.flatMap fun d => match d with | .agg l' => l'.map (lit1 k) | d => [lit1 k d]).toArray
  | _ => #[]
def setTab (k : IntKind) (d : DataW Unit) : Obj → Obj
  | .cells _ t frozen => .cells (lits k d) t frozen
  | o => o
def setErr (b : Nat) : Obj → Obj
  | .cells _ t frozen => .cells #[.iface 161 (.pointer (some ⟨b, 0, none⟩))] t frozen
  | o => o
noncomputable def low : Nat := (World.holding Tryd.prog default ⟨#[], #[], []⟩).heap.size
def rngS : ByteArray := ⟨#[118, 97, 108, 117, 101, 32, 111, 117, 116, 32, 111, 102, 32, 114, 97, 110, 103, 101]⟩
def synS : ByteArray := ⟨#[105, 110, 118, 97, 108, 105, 100, 32, 115, 121, 110, 116, 97, 120]⟩
/-- A world in which the variables hold what the text lays. -/
noncomputable def laidWorld (os : Os) (args : Array Value) : World :=
  { World.holding Tryd.prog os ⟨#[.cells #[.string rngS] 163, .cells #[.string synS] 163], args, []⟩ with
    heap := ((((((((World.holding Tryd.prog os ⟨#[.cells #[.string rngS] 163, .cells #[.string synS] 163], args, []⟩).heap.modify 4 (setTab .u8 Rows.laid_math_bits_deBruijn32tab)).modify 5 (setTab .u8 Rows.laid_math_bits_deBruijn64tab)).modify 0 (setTab .u64 Rows.laid_internal_strconv_uint64pow10)).modify 7 (setTab .u8 Rows.laid_unicode_utf8_acceptRanges)).modify 6 (setTab .u8 Rows.laid_unicode_utf8_first)).modify 3 (setErr low)).modify 2 (setErr (low + 1))) }
theorem laid_try (os : Os) (args : Array Value) : laidMet Tryd.prog laid7 ((laidWorld os args).forCall (fun _ _ => 0) ⟨#[], args, []⟩).memory := laidMet_of_run' 8 (by kernel_rfl) (by kernel_rfl)

section
variable {H : Type} {enc : TypeId × Value → H} {w : World}
theorem open_strB {r : Reach} {b0 : Nat} {v : Value} {d : DataW H} {p : List MemPlace} (hv : Value.okWide Tryd.prog w r b0 9 v) (h : DataW.Trod enc Tryd.prog w 0 (fun _ => true) true 9 v d p)
    (hw : (d.weights Tryd.prog 9).all (· ≤ reachBytes) = true) (hb : Rows.uptoBulk d ≤ 1048576) : ∃ s : ByteArray, v = .string s ∧ s.size ≤ 1048576 := by
  obtain ⟨s, hs, hl⟩ := OpensB.arg (fun N => opensB_string (N := N) Tryd.underlying9) h hw hb
  obtain ⟨s', rfl⟩ := okWide_string Tryd.underlying9 hv
  simp [Value.cells] at hs
  subst hs
  exact ⟨s', rfl, hl⟩
end
end Go.Proofs.YtpakcicbojbonaaDoor
