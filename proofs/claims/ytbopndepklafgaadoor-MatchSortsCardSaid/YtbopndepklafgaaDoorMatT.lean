/- Layer 10: what the rows' lists of variables give; a world that has them. Plain. -/
import Derived.Test.YtbopndepklafgaaDoorLawC
import Derived.Test.YtbopndepklafgaaDoorMatF
import Derived.Stop.LaidErr
namespace Go.Proofs.YtbopndepklafgaaDoor
open Go.ChangeShapes Go.WideShapes Go.ChangeAt Go.RowKit
set_option linter.unusedVariables false
set_option maxRecDepth 10000

theorem own : ownKnob Tryd.prog.godebug = none := by kernel_rfl
theorem laidOut : laidOutB Tryd.prog = true := by kernel_rfl
theorem gTab : Tryd.prog.globalNamed "internal/strconv.uint64pow10" = some 3 := by kernel_rfl
theorem gTabType : (Tryd.prog.globals[3]?).map (·.type) = some 100 := by kernel_rfl
theorem cTab : Tryd.prog.cellsOf 100 = 20 := by kernel_rfl
theorem cTab1 : Tryd.prog.cellsOf 79 = 1 := by kernel_rfl
theorem laid_pow : (Rows.laid_internal_strconv_uint64pow10 : DataW Unit) = Lib.tabData .u64 Lib.pow10Tab := by rfl
theorem gSyn : Tryd.prog.globalNamed "strconv.ErrSyntax" = some 1 := by kernel_rfl
theorem gSynType : (Tryd.prog.globals[1]?).map (·.type) = some 44 := by kernel_rfl
theorem gRng : Tryd.prog.globalNamed "strconv.ErrRange" = some 2 := by kernel_rfl
theorem gRngType : (Tryd.prog.globals[2]?).map (·.type) = some 44 := by kernel_rfl
theorem cErr : Tryd.prog.cellsOf 98 = 1 := by kernel_rfl
theorem cStr : Tryd.prog.cellsOf 9 = 1 := by kernel_rfl
theorem star : "*" ++ "errors.errorString" = "*errors.errorString" := by decide
theorem rowErr (u : TypeId) (h : Tryd.prog.typeName? 3 u = some "*errors.errorString") : u = 96 :=
  typeName_ptr_named (nm := "errors.errorString") (by rw [star]; kernel_rfl) (by kernel_rfl) (by decide) u (by rw [star]; exact h)
def laid7 : List (String × DataW Unit) := [("math/bits.deBruijn32tab", Rows.laid_math_bits_deBruijn32tab), ("math/bits.deBruijn64tab", Rows.laid_math_bits_deBruijn64tab), ("internal/strconv.uint64pow10", Rows.laid_internal_strconv_uint64pow10), ("unicode/utf8.acceptRanges", Rows.laid_unicode_utf8_acceptRanges), ("strconv.ErrRange", Rows.laid_strconv_ErrRange), ("strconv.ErrSyntax", Rows.laid_strconv_ErrSyntax), ("unicode/utf8.first", Rows.laid_unicode_utf8_first)]
theorem laid_met7 {W : World} (h : laidMetH Tryd.prog laid7 W) : laidMet Tryd.prog laid7 W := h
theorem env_of {W : World} (h : laidMetH Tryd.prog laid7 W) (hsh : W.ShapedOpen Tryd.prog) : Env W := by
  have h1 := laid_met7 h
  have h4 := h1.tail.tail.tail.tail
  have h5 := h4.tail
  refine ⟨?_, Tryd.laysM145.s1_3 W hsh, ?_, ?_⟩
  · have h2 := h1.tail.tail
    rw [laid_pow] at h2
    exact Lib.tabIs_of_head gTab gTabType Tryd.underlying100 Tryd.underlying79 cTab1 cTab h2
  · obtain ⟨a, s, hv, _⟩ := laid_sentinel h5 gSyn gSynType Tryd.underlying44 rowErr Tryd.underlying96 Tryd.underlying98 rfl rfl Tryd.underlying9 cErr cStr
    exact ⟨_, _, by simpa using World.var?_cell gSyn hv 0⟩
  · obtain ⟨a, s, hv, _⟩ := laid_sentinel h4 gRng gRngType Tryd.underlying44 rowErr Tryd.underlying96 Tryd.underlying98 rfl rfl Tryd.underlying9 cErr cStr
    exact ⟨_, _, by simpa using World.var?_cell gRng hv 0⟩

def lit1 (k : IntKind) : DataW Unit → Value
  | .lit (.int _ z) => Value.int k z
  | _ => undef
def lits (k : IntKind) : DataW Unit → Array Value
  | .agg l => (l.flatMap fun d => match d with | .agg l' => l'.map (lit1 k) | d => [lit1 k d]).toArray
  | _ => #[]
def setTab (k : IntKind) (d : DataW Unit) : Obj → Obj
  | .cells _ t frozen => .cells (lits k d) t frozen
  | o => o
def setErr (b : Nat) : Obj → Obj
  | .cells _ t frozen => .cells #[.iface 96 (.pointer (some ⟨b, 0, none⟩))] t frozen
  | o => o
noncomputable def low : Nat := (World.holding Tryd.prog default ⟨#[], #[], []⟩).heap.size
def rngS : ByteArray := ⟨#[118, 97, 108, 117, 101, 32, 111, 117, 116, 32, 111, 102, 32, 114, 97, 110, 103, 101]⟩
def synS : ByteArray := ⟨#[105, 110, 118, 97, 108, 105, 100, 32, 115, 121, 110, 116, 97, 120]⟩
/-- A world in which the variables hold what the text lays. -/
noncomputable def laidWorld (os : Os) (args : Array Value) : World :=
  { World.holding Tryd.prog os ⟨#[.cells #[.string rngS] 98, .cells #[.string synS] 98], args, []⟩ with
    heap := ((((((((World.holding Tryd.prog os ⟨#[.cells #[.string rngS] 98, .cells #[.string synS] 98], args, []⟩).heap.modify 6 (setTab .u8 Rows.laid_math_bits_deBruijn32tab)).modify 7 (setTab .u8 Rows.laid_math_bits_deBruijn64tab)).modify 3 (setTab .u64 Rows.laid_internal_strconv_uint64pow10)).modify 5 (setTab .u8 Rows.laid_unicode_utf8_acceptRanges)).modify 4 (setTab .u8 Rows.laid_unicode_utf8_first)).modify 2 (setErr low)).modify 1 (setErr (low + 1))) }
theorem laid_try (os : Os) (args : Array Value) : laidMet Tryd.prog laid7 ((laidWorld os args).forCall (fun _ _ => 0) ⟨#[], args, []⟩).memory := laidMet_of_run' 8 (by kernel_rfl) (by kernel_rfl)

/-! Matches that are handed in, opened. -/
theorem matStruct : ∃ fs : Array Field, Tryd.prog.underlying 27 = some (.struct fs) ∧ fs.toList.map (fun f => (f.type, f.offset)) = [(3, 0), (3, 1), (25, 2)] := ⟨_, Tryd.underlying27, by kernel_rfl⟩
theorem cInt : Tryd.prog.cellsOf 3 = 1 := by kernel_rfl
theorem cMat : Tryd.prog.cellsOf 27 = 3 := by kernel_rfl
theorem cInts : Tryd.prog.cellsOf 29 = 1 := by kernel_rfl
theorem cRows : Tryd.prog.cellsOf 25 = 1 := by kernel_rfl
theorem bInt : Tryd.prog.bytesOf 3 = 8 := by kernel_rfl
theorem bInts : Tryd.prog.bytesOf 29 = 24 := by kernel_rfl
theorem len_3 {cs : List Value} (h : cs.length = 3) : ∃ c0 c1 c2, cs = [c0, c1, c2] := by
  match cs, h with
  | [c0, c1, c2], _ => exact ⟨_, _, _, rfl⟩
section
variable {H : Type} {enc : TypeId × Value → H} {w : World}
theorem opens_row (N : Nat) : Opens enc Tryd.prog w (N + 1) 29 (fun cs => ∃ r : RowV, cs = r.cells ∧ r.ok w w.heap.size) :=
  (opens_slice (f := fun n : Int => [Value.int .i64 n]) (Q := fun _ => True) Tryd.underlying29 cInt (by omega) bInt (fun _ => rfl) ((opens_int Tryd.underlying3).imp fun cs ⟨n, h, _⟩ => ⟨n, h, trivial⟩)).imp
    fun cs ⟨A, c, l, h, hl, hc, hr, hq⟩ => ⟨⟨A, c, l⟩, h, by rw [ints, ← flat_one]; exact hr, by show l.length ≤ _; omega⟩
theorem opens_rows (N : Nat) : Opens enc Tryd.prog w (N + 2) 25 (fun cs => ∃ (A : Option Addr) (c : Nat) (l : List RowV), cs = [.slice A l.length c] ∧ l.length ≤ 5864062014634 ∧ Rd w w.heap.size A (l.flatMap RowV.cells) ∧ ∀ x ∈ l, x.ok w w.heap.size) :=
  (opens_slice Tryd.underlying25 cInts (by omega) bInts (fun _ => rfl) (opens_row N)).imp fun cs ⟨A, c, l, h, hl, hc, hr, hq⟩ => ⟨A, c, l, h, by omega, hr, hq⟩
theorem opens_mat (N : Nat) : Opens enc Tryd.prog w (N + 3) 27 (fun cs => ∃ e : MatV, cs = e.cells ∧ e.ok w w.heap.size) := by
  obtain ⟨fs, hu, hfs⟩ := matStruct
  obtain ⟨l⟩ := fs
  have h3 : l.length = 3 := by simpa using congrArg List.length hfs
  match l, h3, hu, hfs with
  | [f0, f1, f2], _, hu, hfs =>
  simp only [List.map_cons, List.map_nil, List.cons.injEq, Prod.mk.injEq, and_true] at hfs
  obtain ⟨⟨e0, o0⟩, ⟨e1, o1⟩, e2, o2⟩ := hfs
  have hi : ∀ N, Opens enc Tryd.prog w N 3 (fun cs => ∃ n, cs = [Value.int .i64 n] ∧ -9223372036854775808 ≤ n ∧ n ≤ 9223372036854775807) := fun N => by
    refine (opens_int Tryd.underlying3).imp fun cs ⟨n, h, hw⟩ => ⟨n, h, ?_⟩
    simp [Lit.wf] at hw
    have : IntKind.i64.min = -9223372036854775808 := by rfl
    have : IntKind.i64.max = 9223372036854775807 := by rfl
    omega
  refine (opens_struct hu (F := fun i cs => match i with | 0 => ∃ n, cs = [.int .i64 n] ∧ -9223372036854775808 ≤ n ∧ n ≤ 9223372036854775807 | 1 => ∃ n, cs = [.int .i64 n] ∧ -9223372036854775808 ≤ n ∧ n ≤ 9223372036854775807 | _ => ∃ (A : Option Addr) (c : Nat) (l : List RowV), cs = [.slice A l.length c] ∧ l.length ≤ 5864062014634 ∧ Rd w w.heap.size A (l.flatMap RowV.cells) ∧ ∀ x ∈ l, x.ok w w.heap.size) (N := N + 2) ?_).imp ?_
  · intro i f hif
    match i, hif with
    | 0, hif => simp at hif; subst hif; rw [e0]; exact hi _
    | 1, hif => simp at hif; subst hif; rw [e1]; exact hi _
    | 2, hif => simp at hif; subst hif; rw [e2]; exact opens_rows N
    | i + 3, hif => simp at hif
  · rintro cs ⟨hl, hf⟩
    rw [cMat] at hl
    obtain ⟨k, hk, hk2⟩ := hf 0 f0 rfl
    obtain ⟨b, hb, hb2⟩ := hf 1 f1 rfl
    obtain ⟨A, c, l, hs, hlen, hr, hq⟩ := hf 2 f2 rfl
    obtain ⟨c0, c1, c2, rfl⟩ := len_3 hl
    rw [e0, o0, cInt] at hk
    rw [e1, o1, cInt] at hb
    rw [e2, o2, cRows] at hs
    simp at hk hb hs
    subst hk; subst hb; subst hs
    exact ⟨⟨k, b, A, c, l⟩, rfl, hr, hlen, hq, hk2, hb2⟩
theorem open_mat {r : Reach} {b0 : Nat} {v : Value} {d : DataW H} {p : List MemPlace} (hv : Value.okWide Tryd.prog w r b0 27 v) (h : DataW.Trod enc Tryd.prog w 0 (fun _ => true) true 27 v d p)
    (hw : (d.weights Tryd.prog 27).all (· ≤ reachBytes) = true) : ∃ e : MatV, v = e.val ∧ e.ok w w.heap.size := by
  obtain ⟨fs, hu, _⟩ := matStruct
  obtain ⟨cs, rfl, _⟩ := okWide_struct hu hv
  obtain ⟨fuel, hf⟩ := h
  obtain ⟨e, he, hok⟩ := opens_mat fuel fuel (by omega) _ _ hf hw
  refine ⟨e, ?_, hok⟩
  obtain ⟨l⟩ := cs
  simp [Value.cells] at he
  subst he
  rfl
end
end Go.Proofs.YtbopndepklafgaaDoor
