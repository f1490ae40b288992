/- Layer 12: a node that is handed in, opened. Plain. -/
import Derived.Test.YtkfpmoilfillmaaLawB
import Derived.Test.YtkfpmoilfillmaaFoF
namespace Go.Proofs.Ytkfpmoilfillmaa
open Go.ChangeShapes Go.WideShapes Go.ChangeAt Go.RowKit
set_option linter.unusedVariables false
set_option linter.unusedSimpArgs false

theorem sVal : ∃ fs : Array Field, Try.prog.underlying 25 = some (.struct fs) ∧ fs.toList.map (fun f => (f.type, f.offset)) = [(3, 0), (23, 1)] := ⟨_, Try.underlying25, by kernel_rfl⟩
theorem sNode : ∃ fs : Array Field, Try.prog.underlying 27 = some (.struct fs) ∧ fs.toList.map (fun f => (f.type, f.offset)) = [(3, 0), (3, 1), (22, 2), (25, 3), (3, 5), (3, 6)] := ⟨_, Try.underlying27, by kernel_rfl⟩
theorem c_int : Try.prog.cellsOf 3 = 1 := by kernel_rfl
theorem c_u64 : Try.prog.cellsOf 23 = 1 := by kernel_rfl
theorem c_val : Try.prog.cellsOf 25 = 2 := by kernel_rfl
theorem c_node : Try.prog.cellsOf 27 = 7 := by kernel_rfl
theorem c_nodes : Try.prog.cellsOf 22 = 1 := by kernel_rfl
theorem len_2 {cs : List Value} (h : cs.length = 2) : ∃ c0 c1, cs = [c0, c1] := by
  match cs, h with
  | [c0, c1], _ => exact ⟨_, _, rfl⟩
theorem len_7 {cs : List Value} (h : cs.length = 7) : ∃ c0 c1 c2 c3 c4 c5 c6, cs = [c0, c1, c2, c3, c4, c5, c6] := by
  match cs, h with
  | [c0, c1, c2, c3, c4, c5, c6], _ => exact ⟨_, _, _, _, _, _, _, rfl⟩
section
variable {H : Type} {enc : TypeId × Value → H} {w : World}
theorem ob_int (N : Nat) : OpensB enc Try.prog w N 3 (fun cs => ∃ n, cs = [.int .i64 n]) := (opens_int Try.underlying3).b.imp fun cs ⟨n, h, _⟩ => ⟨n, h⟩
theorem ob_u64 (N : Nat) : OpensB enc Try.prog w N 23 (fun cs => ∃ n : Nat, cs = [.int .u64 n] ∧ n < 18446744073709551616) := (opens_int Try.underlying23).b.imp fun cs ⟨n, h, hw⟩ => by
  simp [Lit.wf] at hw
  have e1 : IntKind.u64.min = 0 := by rfl
  have e2 : IntKind.u64.max = 18446744073709551615 := by rfl
  exact ⟨n.toNat, by rw [Int.toNat_of_nonneg (by omega)]; exact h, by omega⟩
theorem ob_val (N : Nat) : OpensB enc Try.prog w N 25 (fun cs => ∃ x : V, cs = x.cells ∧ x.fits) := by
  obtain ⟨fs, hu, hfs⟩ := sVal
  cases N with
  | zero => exact opensB_zero
  | succ N =>
    refine (opensB_struct (F := fun i cs => match i with | 0 => ∃ n, cs = [.int .i64 n] | _ => ∃ n : Nat, cs = [.int .u64 n] ∧ n < 18446744073709551616) hu hfs ?_).imp ?_
    · intro i p hi
      match i, hi with
      | 0, hi => simp at hi; subst hi; exact ob_int N
      | 1, hi => simp at hi; subst hi; exact ob_u64 N
      | i + 2, hi => simp at hi
    · rintro cs ⟨hl, hf⟩
      rw [c_val] at hl
      obtain ⟨k, hk⟩ := hf 0 _ rfl
      obtain ⟨b, hb, hlt⟩ := hf 1 _ rfl
      obtain ⟨c0, c1, rfl⟩ := len_2 hl
      simp [c_int, c_u64] at hk hb
      subst hk; subst hb
      exact ⟨⟨k, b⟩, rfl, hlt⟩
theorem ob_nodes' {N d : Nat} (h : OpensB enc Try.prog w N 27 (fun cs => ∃ n : NodeV, cs = n.cells ∧ okN d n w w.heap.size)) :
    OpensB enc Try.prog w (N + 1) 22 (fun cs => ∃ (A : Option Addr) (c : Nat) (l : List NodeV), cs = [.slice A l.length c] ∧ l.length ≤ 1048576 ∧ Rd w w.heap.size A (l.flatMap NodeV.cells) ∧ ∀ x ∈ l, okN d x w w.heap.size) :=
  (opensB_slice Try.underlying22 c_node (by omega) NodeV.len h).imp fun cs ⟨A, c, l, h, _, hl, hr, hq⟩ => ⟨A, c, l, h, hl, hr, hq⟩
theorem ob_node' {N d : Nat} (h : OpensB enc Try.prog w N 22 (fun cs => ∃ (A : Option Addr) (c : Nat) (l : List NodeV), cs = [.slice A l.length c] ∧ l.length ≤ 1048576 ∧ Rd w w.heap.size A (l.flatMap NodeV.cells) ∧ ∀ x ∈ l, okN d x w w.heap.size)) :
    OpensB enc Try.prog w (N + 1) 27 (fun cs => ∃ n : NodeV, cs = n.cells ∧ okN (d + 1) n w w.heap.size) := by
  obtain ⟨fs, hu, hfs⟩ := sNode
  refine (opensB_struct (F := fun i cs => match i with | 2 => ∃ (A : Option Addr) (c : Nat) (l : List NodeV), cs = [.slice A l.length c] ∧ l.length ≤ 1048576 ∧ Rd w w.heap.size A (l.flatMap NodeV.cells) ∧ (∀ x ∈ l, okN d x w w.heap.size) | 3 => ∃ x : V, cs = x.cells ∧ x.fits | _ => ∃ n, cs = [.int .i64 n]) hu hfs ?_).imp ?_
  · intro i p hi
    match i, hi with
    | 0, hi => simp at hi; subst hi; exact ob_int N
    | 1, hi => simp at hi; subst hi; exact ob_int N
    | 2, hi => simp at hi; subst hi; exact h
    | 3, hi => simp at hi; subst hi; exact ob_val N
    | 4, hi => simp at hi; subst hi; exact ob_int N
    | 5, hi => simp at hi; subst hi; exact ob_int N
    | i + 6, hi => simp at hi
  · rintro cs ⟨hl, hf⟩
    rw [c_node] at hl
    obtain ⟨op, h0⟩ := hf 0 _ rfl
    obtain ⟨kind, h1⟩ := hf 1 _ rfl
    obtain ⟨A, c, l, h2, hlen, hr, hq⟩ := hf 2 _ rfl
    obtain ⟨x, h3, hx⟩ := hf 3 _ rfl
    obtain ⟨pos, h4⟩ := hf 4 _ rfl
    obtain ⟨a, h5⟩ := hf 5 _ rfl
    obtain ⟨c0, c1, c2, c3, c4, c5, c6, rfl⟩ := len_7 hl
    simp [c_int, c_nodes, c_val, V.cells] at h0 h1 h2 h3 h4 h5
    obtain ⟨h3, h3'⟩ := h3
    subst h0; subst h1; subst h2; subst h3; subst h3'; subst h4; subst h5
    exact ⟨.mk op kind A c l x.k x.b pos a, rfl, hr, hlen, hx, hq⟩
theorem ob_node : ∀ N : Nat, OpensB enc Try.prog w N 27 (fun cs => ∃ n : NodeV, cs = n.cells ∧ okN N n w w.heap.size)
  | 0 => opensB_zero
  | 1 => ob_node' (d := 0) opensB_zero
  | N + 2 => (ob_node' (ob_nodes' (ob_node N))).imp fun cs ⟨n, h1, h2⟩ => ⟨n, h1, h2.up⟩
theorem ob_nodes : ∀ N : Nat, OpensB enc Try.prog w N 22 (fun cs => ∃ (D : Nat) (A : Option Addr) (c : Nat) (l : List NodeV), cs = [.slice A l.length c] ∧ l.length ≤ 1048576 ∧ Rd w w.heap.size A (l.flatMap NodeV.cells) ∧ ∀ x ∈ l, okN D x w w.heap.size)
  | 0 => opensB_zero
  | N + 1 => (ob_nodes' (ob_node N)).imp fun cs h => ⟨N, h⟩

variable {r : Reach} {b0 : Nat} {v : Value} {d : DataW H} {p : List MemPlace}
set_option maxRecDepth 100000 in
theorem openB_nodes (hv : Value.okWide Try.prog w r b0 22 v) (h : DataW.Trod enc Try.prog w 0 (fun _ => true) true 22 v d p) (hw : (d.weights Try.prog 22).all (· ≤ reachBytes) = true) (hb : Rows.uptoBulk d ≤ 1048576) :
    ∃ (D : Nat) (A : Option Addr) (c : Nat) (l : List NodeV), v = .slice A l.length c ∧ l.length ≤ 1048576 ∧ Rd w w.heap.size A (l.flatMap NodeV.cells) ∧ ∀ x ∈ l, okN D x w w.heap.size := by
  obtain ⟨A0, n0, c0, rfl⟩ := okWide_slice Try.underlying22 hv
  obtain ⟨D, A, c, l, hx, hq⟩ := OpensB.arg ob_nodes h hw hb
  exact ⟨D, A, c, l, by simpa [Value.cells] using hx, hq⟩
set_option maxRecDepth 100000 in
theorem openB_node (hv : Value.okWide Try.prog w r b0 27 v) (h : DataW.Trod enc Try.prog w 0 (fun _ => true) true 27 v d p) (hw : (d.weights Try.prog 27).all (· ≤ reachBytes) = true) (hb : Rows.uptoBulk d ≤ 1048576) :
    ∃ (D : Nat) (n : NodeV), v = n.val ∧ okN D n w w.heap.size := by
  obtain ⟨fs, hu, _⟩ := sNode
  obtain ⟨cs, rfl, _⟩ := okWide_struct hu hv
  obtain ⟨D, n, hx, hq⟩ := OpensB.arg (R := fun cs => ∃ (D : Nat) (n : NodeV), cs = n.cells ∧ okN D n w w.heap.size) (fun N => (ob_node N).imp fun cs h => ⟨N, h⟩) h hw hb
  refine ⟨D, n, ?_, hq⟩
  unfold NodeV.val
  rw [← hx]
  rfl
set_option maxRecDepth 100000 in
end
end Go.Proofs.Ytkfpmoilfillmaa
