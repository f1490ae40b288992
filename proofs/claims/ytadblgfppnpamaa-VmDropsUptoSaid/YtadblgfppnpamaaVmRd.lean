/- Layer 18: what is handed in, opened to cells. Plain. -/
import Derived.Test.YtadblgfppnpamaaReadB
import Derived.Test.YtadblgfppnpamaaVmP
namespace Go.Proofs.Ytadblgfppnpamaa
open Go.ChangeShapes Go.WideShapes Go.ChangeAt Go.RowKit
set_option linter.unusedSimpArgs false
set_option linter.unusedVariables false

theorem I64_wf' {n : Int} (h : (Lit.int .i64 n).wf = true) : I64 n := by
  simp [Lit.wf] at h
  have e1 : IntKind.i64.min = -9223372036854775808 := by rfl
  have e2 : IntKind.i64.max = 9223372036854775807 := by rfl
  unfold I64
  omega
theorem sVal : ∃ fs : Array Field, Try.prog.underlying 31 = some (.struct fs) ∧ fs.toList.map (fun f => (f.type, f.offset)) = [(3, 0), (29, 1)] := ⟨_, Try.underlying31, by kernel_rfl⟩
theorem sInput : ∃ fs : Array Field, Try.prog.underlying 39 = some (.struct fs) ∧ fs.toList.map (fun f => (f.type, f.offset)) = [(3, 0), (3, 1), (3, 2), (3, 3)] := ⟨_, Try.underlying39, by kernel_rfl⟩
theorem sIns : ∃ fs : Array Field, Try.prog.underlying 43 = some (.struct fs) ∧ fs.toList.map (fun f => (f.type, f.offset)) = [(3, 0), (3, 1), (3, 2), (3, 3)] := ⟨_, Try.underlying43, by kernel_rfl⟩
theorem sCode : ∃ fs : Array Field, Try.prog.underlying 26 = some (.struct fs) ∧ fs.toList.map (fun f => (f.type, f.offset)) = [(3, 0), (3, 1), (22, 2), (23, 3), (24, 4)] := ⟨_, Try.underlying26, by kernel_rfl⟩
theorem c_int : Try.prog.cellsOf 3 = 1 := by kernel_rfl
theorem c_u64 : Try.prog.cellsOf 29 = 1 := by kernel_rfl
theorem c_val : Try.prog.cellsOf 31 = 2 := by kernel_rfl
theorem c_input : Try.prog.cellsOf 39 = 4 := by kernel_rfl
theorem c_ins : Try.prog.cellsOf 43 = 4 := by kernel_rfl
theorem c_code : Try.prog.cellsOf 26 = 5 := by kernel_rfl
theorem c_vals : Try.prog.cellsOf 23 = 1 := by kernel_rfl
theorem c_inputs : Try.prog.cellsOf 22 = 1 := by kernel_rfl
theorem c_inss : Try.prog.cellsOf 24 = 1 := by kernel_rfl

theorem len_2 {cs : List Value} (h : cs.length = 2) : ∃ c0 c1, cs = [c0, c1] := by
  match cs, h with
  | [c0, c1], _ => exact ⟨_, _, rfl⟩
theorem len_4 {cs : List Value} (h : cs.length = 4) : ∃ c0 c1 c2 c3, cs = [c0, c1, c2, c3] := by
  match cs, h with
  | [c0, c1, c2, c3], _ => exact ⟨_, _, _, _, rfl⟩
theorem len_5 {cs : List Value} (h : cs.length = 5) : ∃ c0 c1 c2 c3 c4, cs = [c0, c1, c2, c3, c4] := by
  match cs, h with
  | [c0, c1, c2, c3, c4], _ => exact ⟨_, _, _, _, _, rfl⟩
section
variable {H : Type} {enc : TypeId × Value → H} {w : World}
theorem ob_int (N : Nat) : OpensB enc Try.prog w N 3 (fun cs => ∃ n, cs = [.int .i64 n] ∧ I64 n) := (opens_int Try.underlying3).b.imp fun cs ⟨n, h, hw⟩ => ⟨n, h, I64_wf' hw⟩
theorem ob_u64 (N : Nat) : OpensB enc Try.prog w N 29 (fun cs => ∃ n : Nat, cs = [.int .u64 n] ∧ n < 18446744073709551616) := (opens_int Try.underlying29).b.imp fun cs ⟨n, h, hw⟩ => by
  simp [Lit.wf] at hw
  have e1 : IntKind.u64.min = 0 := by rfl
  have e2 : IntKind.u64.max = 18446744073709551615 := by rfl
  exact ⟨n.toNat, by rw [Int.toNat_of_nonneg (by omega)]; exact h, by omega⟩
theorem ob_val (N : Nat) : OpensB enc Try.prog w N 31 (fun cs => ∃ x : V, cs = x.cells ∧ x.fits) := by
  obtain ⟨fs, hu, hfs⟩ := sVal
  cases N with
  | zero => exact opensB_zero
  | succ N =>
    refine (opensB_struct (F := fun i cs => match i with | 0 => ∃ n, cs = [.int .i64 n] ∧ I64 n | _ => ∃ n : Nat, cs = [.int .u64 n] ∧ n < 18446744073709551616) hu hfs ?_).imp ?_
    · intro i p hi
      match i, hi with
      | 0, hi => simp at hi; subst hi; exact ob_int N
      | 1, hi => simp at hi; subst hi; exact ob_u64 N
      | i + 2, hi => simp at hi
    · rintro cs ⟨hl, hf⟩
      rw [c_val] at hl
      obtain ⟨k, hk, _⟩ := hf 0 _ rfl
      obtain ⟨b, hb, hlt⟩ := hf 1 _ rfl
      obtain ⟨c0, c1, rfl⟩ := len_2 hl
      simp [c_int, c_u64] at hk hb
      subst hk; subst hb
      exact ⟨⟨k, b⟩, rfl, hlt⟩
theorem ob_input (N : Nat) : OpensB enc Try.prog w N 39 (fun cs => ∃ x : InputV, cs = x.cells ∧ x.fits) := by
  obtain ⟨fs, hu, hfs⟩ := sInput
  cases N with
  | zero => exact opensB_zero
  | succ N =>
    refine (opensB_struct (F := fun i cs => ∃ n, cs = [.int .i64 n] ∧ I64 n) hu hfs ?_).imp ?_
    · intro i p hi
      match i, hi with
      | 0, hi => simp at hi; subst hi; exact ob_int N
      | 1, hi => simp at hi; subst hi; exact ob_int N
      | 2, hi => simp at hi; subst hi; exact ob_int N
      | 3, hi => simp at hi; subst hi; exact ob_int N
      | i + 4, hi => simp at hi
    · rintro cs ⟨hl, hf⟩
      rw [c_input] at hl
      obtain ⟨k0, h0, f0⟩ := hf 0 _ rfl
      obtain ⟨k1, h1, f1⟩ := hf 1 _ rfl
      obtain ⟨k2, h2, f2⟩ := hf 2 _ rfl
      obtain ⟨k3, h3, f3⟩ := hf 3 _ rfl
      obtain ⟨c0, c1, c2, c3, rfl⟩ := len_4 hl
      simp [c_int] at h0 h1 h2 h3
      subst h0; subst h1; subst h2; subst h3
      exact ⟨⟨k0, k1, k2, k3⟩, rfl, f0, f1, f2, f3⟩
theorem ob_ins (N : Nat) : OpensB enc Try.prog w N 43 (fun cs => ∃ x : InsV, cs = x.cells ∧ x.fits) := by
  obtain ⟨fs, hu, hfs⟩ := sIns
  cases N with
  | zero => exact opensB_zero
  | succ N =>
    refine (opensB_struct (F := fun i cs => ∃ n, cs = [.int .i64 n] ∧ I64 n) hu hfs ?_).imp ?_
    · intro i p hi
      match i, hi with
      | 0, hi => simp at hi; subst hi; exact ob_int N
      | 1, hi => simp at hi; subst hi; exact ob_int N
      | 2, hi => simp at hi; subst hi; exact ob_int N
      | 3, hi => simp at hi; subst hi; exact ob_int N
      | i + 4, hi => simp at hi
    · rintro cs ⟨hl, hf⟩
      rw [c_ins] at hl
      obtain ⟨k0, h0, f0⟩ := hf 0 _ rfl
      obtain ⟨k1, h1, f1⟩ := hf 1 _ rfl
      obtain ⟨k2, h2, f2⟩ := hf 2 _ rfl
      obtain ⟨k3, h3, f3⟩ := hf 3 _ rfl
      obtain ⟨c0, c1, c2, c3, rfl⟩ := len_4 hl
      simp [c_int] at h0 h1 h2 h3
      subst h0; subst h1; subst h2; subst h3
      exact ⟨⟨k0, k1, k2, k3⟩, rfl, f0, f1, f2, f3⟩
theorem ob_vals (N : Nat) : OpensB enc Try.prog w N 23 (fun cs => ∃ (A : Option Addr) (c : Nat) (l : List V), cs = [.slice A l.length c] ∧ l.length ≤ c ∧ l.length ≤ 1048576 ∧ Rd w w.heap.size A (l.flatMap V.cells) ∧ ∀ x ∈ l, x.fits) := by
  cases N with
  | zero => exact opensB_zero
  | succ N => exact opensB_slice Try.underlying23 c_val (by omega) (fun _ => rfl) (ob_val N)
theorem ob_inputs (N : Nat) : OpensB enc Try.prog w N 22 (fun cs => ∃ (A : Option Addr) (c : Nat) (l : List InputV), cs = [.slice A l.length c] ∧ l.length ≤ c ∧ l.length ≤ 1048576 ∧ Rd w w.heap.size A (l.flatMap InputV.cells) ∧ ∀ x ∈ l, x.fits) := by
  cases N with
  | zero => exact opensB_zero
  | succ N => exact opensB_slice Try.underlying22 c_input (by omega) (fun _ => rfl) (ob_input N)
theorem ob_inss (N : Nat) : OpensB enc Try.prog w N 24 (fun cs => ∃ (A : Option Addr) (c : Nat) (l : List InsV), cs = [.slice A l.length c] ∧ l.length ≤ c ∧ l.length ≤ 1048576 ∧ Rd w w.heap.size A (l.flatMap InsV.cells) ∧ ∀ x ∈ l, x.fits) := by
  cases N with
  | zero => exact opensB_zero
  | succ N => exact opensB_slice Try.underlying24 c_ins (by omega) (fun _ => rfl) (ob_ins N)
def codeF (w : World) : Nat → List Value → Prop
  | 0, cs => ∃ n, cs = [.int .i64 n] ∧ I64 n
  | 1, cs => ∃ n, cs = [.int .i64 n] ∧ I64 n
  | 2, cs => ∃ (A : Option Addr) (c : Nat) (l : List InputV), cs = [.slice A l.length c] ∧ l.length ≤ c ∧ l.length ≤ 1048576 ∧ Rd w w.heap.size A (l.flatMap InputV.cells) ∧ ∀ x ∈ l, x.fits
  | 3, cs => ∃ (A : Option Addr) (c : Nat) (l : List V), cs = [.slice A l.length c] ∧ l.length ≤ c ∧ l.length ≤ 1048576 ∧ Rd w w.heap.size A (l.flatMap V.cells) ∧ ∀ x ∈ l, x.fits
  | _, cs => ∃ (A : Option Addr) (c : Nat) (l : List InsV), cs = [.slice A l.length c] ∧ l.length ≤ c ∧ l.length ≤ 1048576 ∧ Rd w w.heap.size A (l.flatMap InsV.cells) ∧ ∀ x ∈ l, x.fits
theorem ob_code (N : Nat) : OpensB enc Try.prog w N 26 (fun cs => ∃ x : CodeV, cs = [.int .i64 x.nr, .int .i64 x.ns, .slice x.Ai x.li.length x.ci, .slice x.Ak x.lk.length x.ck, .slice x.Al x.ll.length x.cl] ∧ (x.li.length ≤ x.ci ∧ x.lk.length ≤ x.ck ∧ x.ll.length ≤ x.cl) ∧ x.ok w w.heap.size) := by
  obtain ⟨fs, hu, hfs⟩ := sCode
  cases N with
  | zero => exact opensB_zero
  | succ N =>
    refine (opensB_struct (F := codeF w) hu hfs ?_).imp ?_
    · intro i p hi
      match i, hi with
      | 0, hi => simp at hi; subst hi; exact ob_int N
      | 1, hi => simp at hi; subst hi; exact ob_int N
      | 2, hi => simp at hi; subst hi; exact ob_inputs N
      | 3, hi => simp at hi; subst hi; exact ob_vals N
      | 4, hi => simp at hi; subst hi; exact ob_inss N
      | i + 5, hi => simp at hi
    · rintro cs ⟨hl, hf⟩
      rw [c_code] at hl
      obtain ⟨k0, h0, f0⟩ := hf 0 _ rfl
      obtain ⟨k1, h1, f1⟩ := hf 1 _ rfl
      obtain ⟨A2, n2, l2, h2, q2, b2, r2, f2⟩ := hf 2 _ rfl
      obtain ⟨A3, n3, l3, h3, q3, b3, r3, f3⟩ := hf 3 _ rfl
      obtain ⟨A4, n4, l4, h4, q4, b4, r4, f4⟩ := hf 4 _ rfl
      obtain ⟨c0, c1, c2, c3, c4, rfl⟩ := len_5 hl
      simp [c_int, c_inputs, c_vals, c_inss] at h0 h1 h2 h3 h4
      subst h0; subst h1; subst h2; subst h3; subst h4
      exact ⟨⟨k0, k1, A2, n2, l2, A3, n3, l3, A4, n4, l4⟩, rfl, ⟨q2, q3, q4⟩, r2, r3, r4, b2, b3, b4, f2, f3, f4, f0, f1⟩
section
variable {r : Reach} {b0 : Nat} {v : Value} {d : DataW H} {p : List MemPlace}
set_option maxRecDepth 100000 in
theorem openB_vals (hv : Value.okWide Try.prog w r b0 23 v) (h : DataW.Trod enc Try.prog w 0 (fun _ => true) true 23 v d p) (hw : (d.weights Try.prog 23).all (· ≤ reachBytes) = true) (hb : Rows.uptoBulk d ≤ 1048576) :
    ∃ (A : Option Addr) (c : Nat) (l : List V), v = .slice A l.length c ∧ l.length ≤ c ∧ l.length ≤ 1048576 ∧ Rd w w.heap.size A (l.flatMap V.cells) ∧ ∀ x ∈ l, x.fits := by
  obtain ⟨A0, n0, c0, rfl⟩ := okWide_slice Try.underlying23 hv
  obtain ⟨A, c, l, hx, hq⟩ := OpensB.arg ob_vals h hw hb
  exact ⟨A, c, l, by simpa [Value.cells] using hx, hq⟩
set_option maxRecDepth 100000 in
theorem openB_inss (hv : Value.okWide Try.prog w r b0 24 v) (h : DataW.Trod enc Try.prog w 0 (fun _ => true) true 24 v d p) (hw : (d.weights Try.prog 24).all (· ≤ reachBytes) = true) (hb : Rows.uptoBulk d ≤ 1048576) :
    ∃ (A : Option Addr) (c : Nat) (l : List InsV), v = .slice A l.length c ∧ l.length ≤ c ∧ l.length ≤ 1048576 ∧ Rd w w.heap.size A (l.flatMap InsV.cells) ∧ ∀ x ∈ l, x.fits := by
  obtain ⟨A0, n0, c0, rfl⟩ := okWide_slice Try.underlying24 hv
  obtain ⟨A, c, l, hx, hq⟩ := OpensB.arg ob_inss h hw hb
  exact ⟨A, c, l, by simpa [Value.cells] using hx, hq⟩
set_option maxRecDepth 100000 in
theorem openB_code (hv : Value.okWide Try.prog w r b0 26 v) (h : DataW.Trod enc Try.prog w 0 (fun _ => true) true 26 v d p) (hw : (d.weights Try.prog 26).all (· ≤ reachBytes) = true) (hb : Rows.uptoBulk d ≤ 1048576) :
    ∃ x : CodeV, v = x.val ∧ (x.li.length ≤ x.ci ∧ x.lk.length ≤ x.ck ∧ x.ll.length ≤ x.cl) ∧ x.ok w w.heap.size := by
  obtain ⟨fs, hu, _⟩ := sCode
  obtain ⟨cs, rfl, _⟩ := okWide_struct hu hv
  obtain ⟨x, hx, hq⟩ := OpensB.arg ob_code h hw hb
  refine ⟨x, ?_, hq⟩
  obtain ⟨L⟩ := cs
  simp [Value.cells] at hx
  subst hx
  rfl
end
end
end Go.Proofs.Ytadblgfppnpamaa
