/- Layer 9: what is handed in, opened: nodes, events, places. Plain. -/
import Derived.Test.YtomhheihhnmbcaaLawB
import Derived.Test.YtomhheihhnmbcaaEvAx
namespace Go.Proofs.Ytomhheihhnmbcaa
open Go.ChangeShapes Go.WideShapes Go.ChangeAt Go.RowKit
set_option linter.unusedVariables false
set_option linter.unusedSimpArgs false

theorem sVal : ∃ fs : Array Field, Try.prog.underlying 31 = some (.struct fs) ∧ fs.toList.map (fun f => (f.type, f.offset)) = [(3, 0), (29, 1)] := ⟨_, Try.underlying31, by kernel_rfl⟩
theorem sEvent : ∃ fs : Array Field, Try.prog.underlying 63 = some (.struct fs) ∧ fs.toList.map (fun f => (f.type, f.offset)) = [(3, 0), (2, 1), (34, 2)] := ⟨_, Try.underlying63, by kernel_rfl⟩
theorem sNode : ∃ fs : Array Field, Try.prog.underlying 41 = some (.struct fs) ∧ fs.toList.map (fun f => (f.type, f.offset)) = [(3, 0), (3, 1), (39, 2), (31, 3), (3, 5), (3, 6)] := ⟨_, Try.underlying41, by kernel_rfl⟩
theorem sPlace : ∃ fs : Array Field, Try.prog.underlying 43 = some (.struct fs) ∧ fs.toList.map (fun f => (f.type, f.offset)) = [(26, 0), (3, 1)] := ⟨_, Try.underlying43, by kernel_rfl⟩
theorem c_int : Try.prog.cellsOf 3 = 1 := by kernel_rfl
theorem c_i64 : Try.prog.cellsOf 2 = 1 := by kernel_rfl
theorem c_u64 : Try.prog.cellsOf 29 = 1 := by kernel_rfl
theorem c_val : Try.prog.cellsOf 31 = 2 := by kernel_rfl
theorem c_vals : Try.prog.cellsOf 34 = 1 := by kernel_rfl
theorem c_event : Try.prog.cellsOf 63 = 3 := by kernel_rfl
theorem c_node : Try.prog.cellsOf 41 = 7 := by kernel_rfl
theorem c_nodes : Try.prog.cellsOf 39 = 1 := by kernel_rfl
theorem c_place : Try.prog.cellsOf 43 = 2 := by kernel_rfl
theorem c_ints : Try.prog.cellsOf 23 = 1 := by kernel_rfl
theorem c_bound : Try.prog.cellsOf 26 = 1 := by kernel_rfl

theorem len_2 {cs : List Value} (h : cs.length = 2) : ∃ c0 c1, cs = [c0, c1] := by
  match cs, h with
  | [c0, c1], _ => exact ⟨_, _, rfl⟩
theorem len_3 {cs : List Value} (h : cs.length = 3) : ∃ c0 c1 c2, cs = [c0, c1, c2] := by
  match cs, h with
  | [c0, c1, c2], _ => exact ⟨_, _, _, rfl⟩
theorem len_7 {cs : List Value} (h : cs.length = 7) : ∃ c0 c1 c2 c3 c4 c5 c6, cs = [c0, c1, c2, c3, c4, c5, c6] := by
  match cs, h with
  | [c0, c1, c2, c3, c4, c5, c6], _ => exact ⟨_, _, _, _, _, _, _, rfl⟩
section
variable {H : Type} {enc : TypeId × Value → H} {w : World}
theorem ob_int (N : Nat) : OpensB enc Try.prog w N 3 (fun cs => ∃ n, cs = [.int .i64 n]) := (opens_int Try.underlying3).b.imp fun cs ⟨n, h, _⟩ => ⟨n, h⟩
theorem ob_i64 (N : Nat) : OpensB enc Try.prog w N 2 (fun cs => ∃ n, cs = [.int .i64 n] ∧ I64 n) := (opens_int Try.underlying2).b.imp fun cs ⟨n, h, hw⟩ => ⟨n, h, I64_wf hw⟩
theorem ob_u64 (N : Nat) : OpensB enc Try.prog w N 29 (fun cs => ∃ n : Nat, cs = [.int .u64 n] ∧ n < 18446744073709551616) := (opens_int Try.underlying29).b.imp fun cs ⟨n, h, hw⟩ => by
  simp [Lit.wf] at hw
  have e1 : IntKind.u64.min = 0 := by rfl
  have e2 : IntKind.u64.max = 18446744073709551615 := by rfl
  exact ⟨n.toNat, by rw [Int.toNat_of_nonneg (by omega)]; exact h, by omega⟩
theorem ob_val (N : Nat) : OpensB enc Try.prog w N 31 (fun cs => ∃ x : V, cs = x.cells ∧ x.fits) := by
  obtain ⟨fs, hu, hfs⟩ := sVal
  cases N with
  | zero => exact opensB_zero
  | succ N =>
    refine (opensB_struct (F := fun i cs => match i with | 0 => ∃ n, cs = [.int .i64 n] | _ => ∃ n : Nat, cs = [.int .u64 n] ∧ n < 18446744073709551616) hu hfs ?_).imp ?_
    · intro i p hi
      match i, hi with
      | 0, hi => simp at hi; subst hi; exact ob_int N
      | 1, hi => simp at hi; subst hi; exact ob_u64 N
      | i + 2, hi => simp at hi
    · rintro cs ⟨hl, hf⟩
      rw [c_val] at hl
      obtain ⟨k, hk⟩ := hf 0 _ rfl
      obtain ⟨b, hb, hlt⟩ := hf 1 _ rfl
      obtain ⟨c0, c1, rfl⟩ := len_2 hl
      simp [c_int, c_u64] at hk hb
      subst hk; subst hb
      exact ⟨⟨k, b⟩, rfl, hlt⟩
theorem ob_vals (N : Nat) : OpensB enc Try.prog w N 34 (fun cs => ∃ (A : Option Addr) (c : Nat) (l : List V), cs = [.slice A l.length c] ∧ l.length ≤ c ∧ l.length ≤ 1048576 ∧ Rd w w.heap.size A (l.flatMap V.cells) ∧ ∀ x ∈ l, x.fits) := by
  cases N with
  | zero => exact opensB_zero
  | succ N => exact opensB_slice Try.underlying34 c_val (by omega) (fun _ => rfl) (ob_val N)
theorem ob_event (N : Nat) : OpensB enc Try.prog w N 63 (fun cs => ∃ x : EventV, cs = x.cells ∧ x.ok w w.heap.size) := by
  obtain ⟨fs, hu, hfs⟩ := sEvent
  cases N with
  | zero => exact opensB_zero
  | succ N =>
    refine (opensB_struct (F := fun i cs => match i with | 0 => ∃ n, cs = [.int .i64 n] | 1 => ∃ n, cs = [.int .i64 n] ∧ I64 n | _ => ∃ (A : Option Addr) (c : Nat) (l : List V), cs = [.slice A l.length c] ∧ l.length ≤ c ∧ l.length ≤ 1048576 ∧ Rd w w.heap.size A (l.flatMap V.cells) ∧ ∀ x ∈ l, x.fits) hu hfs ?_).imp ?_
    · intro i p hi
      match i, hi with
      | 0, hi => simp at hi; subst hi; exact ob_int N
      | 1, hi => simp at hi; subst hi; exact ob_i64 N
      | 2, hi => simp at hi; subst hi; exact ob_vals N
      | i + 3, hi => simp at hi
    · rintro cs ⟨hl, hf⟩
      rw [c_event] at hl
      obtain ⟨k, hk⟩ := hf 0 _ rfl
      obtain ⟨b, hb, _⟩ := hf 1 _ rfl
      obtain ⟨A, c, l, hs, _, hlen, hr, hq⟩ := hf 2 _ rfl
      obtain ⟨c0, c1, c2, rfl⟩ := len_3 hl
      simp [c_int, c_i64, c_vals] at hk hb hs
      subst hk; subst hb; subst hs
      exact ⟨⟨k, b, A, c, l⟩, rfl, hr, hlen, hq⟩
theorem ob_events (N : Nat) : OpensB enc Try.prog w N 22 (fun cs => ∃ (A : Option Addr) (c : Nat) (l : List EventV), cs = [.slice A l.length c] ∧ l.length ≤ c ∧ l.length ≤ 1048576 ∧ Rd w w.heap.size A (l.flatMap EventV.cells) ∧ ∀ x ∈ l, x.ok w w.heap.size) := by
  cases N with
  | zero => exact opensB_zero
  | succ N => exact opensB_slice Try.underlying22 c_event (by omega) (fun _ => rfl) (ob_event N)
theorem ob_ints (N : Nat) : OpensB enc Try.prog w N 23 (fun cs => ∃ x : IntsV, cs = x.cells ∧ (x.l.length ≤ x.c ∧ x.l.length ≤ 1048576) ∧ x.ok w w.heap.size) := by
  cases N with
  | zero => exact opensB_zero
  | succ N =>
    refine (opensB_slice (f := fun n : Int => [Value.int .i64 n]) (Q := fun _ => True) Try.underlying23 c_int (by omega) (fun _ => rfl) ((ob_int N).imp fun cs ⟨n, h⟩ => ⟨n, h, trivial⟩)).imp ?_
    rintro cs ⟨A, c, l, h, hlc, hl, hr, _⟩
    exact ⟨⟨A, c, l⟩, h, ⟨hlc, hl⟩, by rw [IntsV.ok, icells, ← flat_one]; exact ⟨hr, by show l.length ≤ _; omega⟩⟩
theorem ob_i64s (N : Nat) : OpensB enc Try.prog w N 36 (fun cs => ∃ (A : Option Addr) (c : Nat) (l : List Int), cs = [.slice A l.length c] ∧ l.length ≤ 1048576 ∧ Rd w w.heap.size A (i64cells l) ∧ ∀ n ∈ l, I64 n) := by
  cases N with
  | zero => exact opensB_zero
  | succ N =>
    refine (opensB_slice (f := fun n : Int => [Value.int .i64 n]) (Q := I64) Try.underlying36 c_i64 (by omega) (fun _ => rfl) (ob_i64 N)).imp ?_
    rintro cs ⟨A, c, l, h, hlc, hl, hr, hq⟩
    exact ⟨A, c, l, h, hl, by rw [i64cells, ← flat_one]; exact hr, hq⟩
theorem ob_bound (N : Nat) : OpensB enc Try.prog w N 26 (fun cs => ∃ (A : Option Addr) (c : Nat) (l : List IntsV), cs = [.slice A l.length c] ∧ l.length ≤ 1048576 ∧ Rd w w.heap.size A (l.flatMap IntsV.cells) ∧ ∀ x ∈ l, x.ok w w.heap.size) := by
  cases N with
  | zero => exact opensB_zero
  | succ N => exact (opensB_slice Try.underlying26 c_ints (by omega) (fun _ => rfl) ((ob_ints N).imp fun cs ⟨x, h1, _, h2⟩ => ⟨x, h1, h2⟩)).imp fun cs ⟨A, c, l, h, _, hl, hr, hq⟩ => ⟨A, c, l, h, hl, hr, hq⟩
theorem ob_place (N : Nat) : OpensB enc Try.prog w N 43 (fun cs => ∃ (A : Option Addr) (c : Nat) (l : List IntsV) (cur : Int), cs = [.slice A l.length c, .int .i64 cur] ∧ l.length ≤ 1048576 ∧ Rd w w.heap.size A (l.flatMap IntsV.cells) ∧ ∀ x ∈ l, x.ok w w.heap.size) := by
  obtain ⟨fs, hu, hfs⟩ := sPlace
  cases N with
  | zero => exact opensB_zero
  | succ N =>
    refine (opensB_struct (F := fun i cs => match i with | 0 => ∃ (A : Option Addr) (c : Nat) (l : List IntsV), cs = [.slice A l.length c] ∧ l.length ≤ 1048576 ∧ Rd w w.heap.size A (l.flatMap IntsV.cells) ∧ (∀ x ∈ l, x.ok w w.heap.size) | _ => ∃ n, cs = [.int .i64 n]) hu hfs ?_).imp ?_
    · intro i p hi
      match i, hi with
      | 0, hi => simp at hi; subst hi; exact ob_bound N
      | 1, hi => simp at hi; subst hi; exact ob_int N
      | i + 2, hi => simp at hi
    · rintro cs ⟨hl, hf⟩
      rw [c_place] at hl
      obtain ⟨A, c, l, hs, hlen, hr, hq⟩ := hf 0 _ rfl
      obtain ⟨k, hk⟩ := hf 1 _ rfl
      obtain ⟨c0, c1, rfl⟩ := len_2 hl
      simp [c_int, c_bound] at hk hs
      subst hk; subst hs
      exact ⟨A, c, l, k, rfl, hlen, hr, hq⟩
theorem okN.up {w : World} {B : Nat} : ∀ {d : Nat} {n : NodeV}, okN d n w B → okN (d + 1) n w B
  | 0, _, h => h.elim
  | d + 1, .mk .., h => ⟨h.1, h.2.1, h.2.2.1, fun x hx => (h.2.2.2 x hx).up⟩
theorem ob_nodes' {N d : Nat} (h : OpensB enc Try.prog w N 41 (fun cs => ∃ n : NodeV, cs = n.cells ∧ okN d n w w.heap.size)) :
    OpensB enc Try.prog w (N + 1) 39 (fun cs => ∃ (A : Option Addr) (c : Nat) (l : List NodeV), cs = [.slice A l.length c] ∧ l.length ≤ 1048576 ∧ Rd w w.heap.size A (l.flatMap NodeV.cells) ∧ ∀ x ∈ l, okN d x w w.heap.size) :=
  (opensB_slice Try.underlying39 c_node (by omega) NodeV.len h).imp fun cs ⟨A, c, l, h, _, hl, hr, hq⟩ => ⟨A, c, l, h, hl, hr, hq⟩
theorem ob_node' {N d : Nat} (h : OpensB enc Try.prog w N 39 (fun cs => ∃ (A : Option Addr) (c : Nat) (l : List NodeV), cs = [.slice A l.length c] ∧ l.length ≤ 1048576 ∧ Rd w w.heap.size A (l.flatMap NodeV.cells) ∧ ∀ x ∈ l, okN d x w w.heap.size)) :
    OpensB enc Try.prog w (N + 1) 41 (fun cs => ∃ n : NodeV, cs = n.cells ∧ okN (d + 1) n w w.heap.size) := by
  obtain ⟨fs, hu, hfs⟩ := sNode
  refine (opensB_struct (F := fun i cs => match i with | 2 => ∃ (A : Option Addr) (c : Nat) (l : List NodeV), cs = [.slice A l.length c] ∧ l.length ≤ 1048576 ∧ Rd w w.heap.size A (l.flatMap NodeV.cells) ∧ (∀ x ∈ l, okN d x w w.heap.size) | 3 => ∃ x : V, cs = x.cells ∧ x.fits | _ => ∃ n, cs = [.int .i64 n]) hu hfs ?_).imp ?_
  · intro i p hi
    match i, hi with
    | 0, hi => simp at hi; subst hi; exact ob_int N
    | 1, hi => simp at hi; subst hi; exact ob_int N
    | 2, hi => simp at hi; subst hi; exact h
    | 3, hi => simp at hi; subst hi; exact ob_val N
    | 4, hi => simp at hi; subst hi; exact ob_int N
    | 5, hi => simp at hi; subst hi; exact ob_int N
    | i + 6, hi => simp at hi
  · rintro cs ⟨hl, hf⟩
    rw [c_node] at hl
    obtain ⟨op, h0⟩ := hf 0 _ rfl
    obtain ⟨kind, h1⟩ := hf 1 _ rfl
    obtain ⟨A, c, l, h2, hlen, hr, hq⟩ := hf 2 _ rfl
    obtain ⟨x, h3, hx⟩ := hf 3 _ rfl
    obtain ⟨pos, h4⟩ := hf 4 _ rfl
    obtain ⟨a, h5⟩ := hf 5 _ rfl
    obtain ⟨c0, c1, c2, c3, c4, c5, c6, rfl⟩ := len_7 hl
    simp [c_int, c_nodes, c_val, V.cells] at h0 h1 h2 h3 h4 h5
    obtain ⟨h3, h3'⟩ := h3
    subst h0; subst h1; subst h2; subst h3; subst h3'; subst h4; subst h5
    exact ⟨.mk op kind A c l x.k x.b pos a, rfl, hr, hlen, hx, hq⟩
theorem ob_node : ∀ N : Nat, OpensB enc Try.prog w N 41 (fun cs => ∃ n : NodeV, cs = n.cells ∧ okN N n w w.heap.size)
  | 0 => opensB_zero
  | 1 => ob_node' (d := 0) opensB_zero
  | N + 2 => (ob_node' (ob_nodes' (ob_node N))).imp fun cs ⟨n, h1, h2⟩ => ⟨n, h1, h2.up⟩
theorem ob_nodes : ∀ N : Nat, OpensB enc Try.prog w N 39 (fun cs => ∃ (D : Nat) (A : Option Addr) (c : Nat) (l : List NodeV), cs = [.slice A l.length c] ∧ l.length ≤ 1048576 ∧ Rd w w.heap.size A (l.flatMap NodeV.cells) ∧ ∀ x ∈ l, okN D x w w.heap.size)
  | 0 => opensB_zero
  | N + 1 => (ob_nodes' (ob_node N)).imp fun cs h => ⟨N, h⟩

variable {r : Reach} {b0 : Nat} {v : Value} {d : DataW H} {p : List MemPlace}
set_option maxRecDepth 100000 in
theorem openB_nodes (hv : Value.okWide Try.prog w r b0 39 v) (h : DataW.Trod enc Try.prog w 0 (fun _ => true) true 39 v d p) (hw : (d.weights Try.prog 39).all (· ≤ reachBytes) = true) (hb : Rows.uptoBulk d ≤ 1048576) :
    ∃ (D : Nat) (A : Option Addr) (c : Nat) (l : List NodeV), v = .slice A l.length c ∧ l.length ≤ 1048576 ∧ Rd w w.heap.size A (l.flatMap NodeV.cells) ∧ ∀ x ∈ l, okN D x w w.heap.size := by
  obtain ⟨A0, n0, c0, rfl⟩ := okWide_slice Try.underlying39 hv
  obtain ⟨D, A, c, l, hx, hq⟩ := OpensB.arg ob_nodes h hw hb
  exact ⟨D, A, c, l, by simpa [Value.cells] using hx, hq⟩
set_option maxRecDepth 100000 in
theorem openB_node (hv : Value.okWide Try.prog w r b0 41 v) (h : DataW.Trod enc Try.prog w 0 (fun _ => true) true 41 v d p) (hw : (d.weights Try.prog 41).all (· ≤ reachBytes) = true) (hb : Rows.uptoBulk d ≤ 1048576) :
    ∃ (D : Nat) (n : NodeV), v = n.val ∧ okN D n w w.heap.size := by
  obtain ⟨fs, hu, _⟩ := sNode
  obtain ⟨cs, rfl, _⟩ := okWide_struct hu hv
  obtain ⟨D, n, hx, hq⟩ := OpensB.arg (R := fun cs => ∃ (D : Nat) (n : NodeV), cs = n.cells ∧ okN D n w w.heap.size) (fun N => (ob_node N).imp fun cs h => ⟨N, h⟩) h hw hb
  refine ⟨D, n, ?_, hq⟩
  unfold NodeV.val
  rw [← hx]
  rfl
set_option maxRecDepth 100000 in
theorem openB_events (hv : Value.okWide Try.prog w r b0 22 v) (h : DataW.Trod enc Try.prog w 0 (fun _ => true) true 22 v d p) (hw : (d.weights Try.prog 22).all (· ≤ reachBytes) = true) (hb : Rows.uptoBulk d ≤ 1048576) :
    ∃ (A : Option Addr) (c : Nat) (l : List EventV), v = .slice A l.length c ∧ l.length ≤ c ∧ l.length ≤ 1048576 ∧ Rd w w.heap.size A (l.flatMap EventV.cells) ∧ ∀ x ∈ l, x.ok w w.heap.size := by
  obtain ⟨A0, n0, c0, rfl⟩ := okWide_slice Try.underlying22 hv
  obtain ⟨A, c, l, hx, hq⟩ := OpensB.arg ob_events h hw hb
  exact ⟨A, c, l, by simpa [Value.cells] using hx, hq⟩
set_option maxRecDepth 100000 in
theorem openB_ints (hv : Value.okWide Try.prog w r b0 23 v) (h : DataW.Trod enc Try.prog w 0 (fun _ => true) true 23 v d p) (hw : (d.weights Try.prog 23).all (· ≤ reachBytes) = true) (hb : Rows.uptoBulk d ≤ 1048576) :
    ∃ x : IntsV, v = .slice x.A x.l.length x.c ∧ (x.l.length ≤ x.c ∧ x.l.length ≤ 1048576) ∧ x.ok w w.heap.size := by
  obtain ⟨A0, n0, c0, rfl⟩ := okWide_slice Try.underlying23 hv
  obtain ⟨x, hx, hq⟩ := OpensB.arg ob_ints h hw hb
  exact ⟨x, by simpa [Value.cells, IntsV.cells] using hx, hq⟩
set_option maxRecDepth 100000 in
theorem openB_i64s (hv : Value.okWide Try.prog w r b0 36 v) (h : DataW.Trod enc Try.prog w 0 (fun _ => true) true 36 v d p) (hw : (d.weights Try.prog 36).all (· ≤ reachBytes) = true) (hb : Rows.uptoBulk d ≤ 1048576) :
    ∃ (A : Option Addr) (c : Nat) (l : List Int), v = .slice A l.length c ∧ l.length ≤ 1048576 ∧ Rd w w.heap.size A (i64cells l) ∧ ∀ n ∈ l, I64 n := by
  obtain ⟨A0, n0, c0, rfl⟩ := okWide_slice Try.underlying36 hv
  obtain ⟨A, c, l, hx, hq⟩ := OpensB.arg ob_i64s h hw hb
  exact ⟨A, c, l, by simpa [Value.cells] using hx, hq⟩
set_option maxRecDepth 100000 in
theorem openB_place (hv : Value.okWide Try.prog w r b0 43 v) (h : DataW.Trod enc Try.prog w 0 (fun _ => true) true 43 v d p) (hw : (d.weights Try.prog 43).all (· ≤ reachBytes) = true) (hb : Rows.uptoBulk d ≤ 1048576) :
    ∃ (A : Option Addr) (c : Nat) (l : List IntsV) (cur : Int), v = .agg #[.slice A l.length c, .int .i64 cur] ∧ l.length ≤ 1048576 ∧ Rd w w.heap.size A (l.flatMap IntsV.cells) ∧ ∀ x ∈ l, x.ok w w.heap.size := by
  obtain ⟨fs, hu, _⟩ := sPlace
  obtain ⟨cs, rfl, _⟩ := okWide_struct hu hv
  obtain ⟨A, c, l, cur, hx, hq⟩ := OpensB.arg ob_place h hw hb
  refine ⟨A, c, l, cur, ?_, hq⟩
  obtain ⟨L⟩ := cs
  simp [Value.cells] at hx
  subst hx
  rfl
set_option maxRecDepth 100000 in
theorem openB_pair (hv : Value.okWide Try.prog w r b0 24 v) (h : DataW.Trod enc Try.prog w 0 (fun _ => true) true 24 v d p) (hw : (d.weights Try.prog 24).all (· ≤ reachBytes) = true) (hb : Rows.uptoBulk d ≤ 1048576) :
    ∃ x y : Int, v = .agg #[.int .i64 x, .int .i64 y] := by
  obtain ⟨cs, rfl, _⟩ := okWide_array Try.underlying24 hv
  obtain ⟨x, y, hx⟩ := OpensB.arg (R := fun cs => ∃ x y : Int, cs = [.int .i64 x, .int .i64 y]) (fun N => by
    cases N with
    | zero => exact opensB_zero
    | succ N =>
      refine (opensB_array Try.underlying24 (ob_int N)).imp ?_
      rintro cs ⟨hl, hf⟩
      rw [show Try.prog.cellsOf 24 = 2 by kernel_rfl] at hl
      obtain ⟨x, hx⟩ := hf 0 (by omega)
      obtain ⟨y, hy⟩ := hf 1 (by omega)
      obtain ⟨c0, c1, rfl⟩ := len_2 hl
      simp [c_int] at hx hy
      subst hx; subst hy
      exact ⟨x, y, rfl⟩) h hw hb
  refine ⟨x, y, ?_⟩
  obtain ⟨L⟩ := cs
  simp [Value.cells] at hx
  subst hx
  rfl
end
end Go.Proofs.Ytomhheihhnmbcaa
