/- Rows of matches that are put in order in place: the machine's part. No conditions. -/
import Derived.Test.YtbopndepklafgaaDoorMatB
import Derived.Test.YtbopndepklafgaaDoorRegL
import Derived.Test.YtbopndepklafgaaDoorSrtR
namespace Go.Proofs.YtbopndepklafgaaDoor
open Go.RowKit
set_option maxRecDepth 10000
set_option linter.unusedVariables false
set_option linter.unusedSimpArgs false

/-! Single operations. -/
section
variable {P : Program} {o : Oper} {a : Act} {w w2 : World} {K : Act → World → Prop} {Q : Exit → Act → World → Prop}
theorem ev {d : Nat} {v : Value} (h : a.tmps[d]? = some v) : a.eval (.tmp d) = v := by
  show a.tmps.getD d undef = v
  rw [Array.getD_eq_getD_getElem?, h]; rfl
theorem op_of {s : Sem Value} {v : Value} (he : execOp a.eval o = (do pure (.value (← s)))) (hr : s.run P w = .ok v w2) (hK : K (a.put o.dst v) w2) : o.wp P a w K Q := by
  unfold Oper.wp; rw [he]; simp [hr, Result.andThen]; exact hK
theorem op_ofu {s : Sem Unit} (he : execOp a.eval o = (do s; pure .skip)) (hr : s.run P w = .ok () w2) (hK : K (a.put o.dst undef) w2) : o.wp P a w K Q := by
  unfold Oper.wp; rw [he]; simp [hr, Result.andThen]; exact hK
theorem op_move (x : Operand) {v : Value} (hop : o.op = .move x) (hx : a.eval x = v) (hK : K (a.put o.dst v) w) : o.wp P a w K Q := by
  refine op_of (s := pure v) (w2 := w) (by unfold execOp; rw [hop]; simp only [hx]; rfl) rfl hK
theorem op_add (t t' : TypeId) (x y : Operand) {p q r : Int} (hop : o.op = .binOp .add t x y t') (hx : a.eval x = .int .i64 p) (hy : a.eval y = .int .i64 q) (hr : r = p + q) (h1 : -9223372036854775808 ≤ r) (h2 : r ≤ 9223372036854775807) (hK : K (a.put o.dst (.int .i64 r)) w) : o.wp P a w K Q := by
  have hw : IntKind.i64.wrap (p + q) = r := by rw [← hr]; exact IntWalk.i64_in _ ⟨h1, h2⟩
  refine op_of (s := do eqGuard .add t x y (.int .i64 p) (.int .i64 q); binOp .add t (.int .i64 p) (.int .i64 q)) (w2 := w) (by unfold execOp; rw [hop]; simp only [hx, hy]) (by simp [eqGuard, go_sem, hw]) hK
theorem op_sub (t t' : TypeId) (x y : Operand) {p q r : Int} (hop : o.op = .binOp .sub t x y t') (hx : a.eval x = .int .i64 p) (hy : a.eval y = .int .i64 q) (hr : r = p - q) (h1 : -9223372036854775808 ≤ r) (h2 : r ≤ 9223372036854775807) (hK : K (a.put o.dst (.int .i64 r)) w) : o.wp P a w K Q := by
  have hw : IntKind.i64.wrap (p - q) = r := by rw [← hr]; exact IntWalk.i64_in _ ⟨h1, h2⟩
  refine op_of (s := do eqGuard .sub t x y (.int .i64 p) (.int .i64 q); binOp .sub t (.int .i64 p) (.int .i64 q)) (w2 := w) (by unfold execOp; rw [hop]; simp only [hx, hy]) (by simp [eqGuard, go_sem, hw]) hK
theorem op_gtr (t t' : TypeId) (x y : Operand) {p q : Int} {b : Bool} (hop : o.op = .binOp .gtr t x y t') (hx : a.eval x = .int .i64 p) (hy : a.eval y = .int .i64 q) (hb : decide (q < p) = b) (hK : K (a.put o.dst (.bool b)) w) : o.wp P a w K Q := by
  refine op_of (s := do eqGuard .gtr t x y (.int .i64 p) (.int .i64 q); binOp .gtr t (.int .i64 p) (.int .i64 q)) (w2 := w) (by unfold execOp; rw [hop]; simp only [hx, hy]) (by simp [eqGuard, go_sem, ← hb]) hK
theorem op_lss (t t' : TypeId) (x y : Operand) {p q : Int} {b : Bool} (hop : o.op = .binOp .lss t x y t') (hx : a.eval x = .int .i64 p) (hy : a.eval y = .int .i64 q) (hb : decide (p < q) = b) (hK : K (a.put o.dst (.bool b)) w) : o.wp P a w K Q := by
  refine op_of (s := do eqGuard .lss t x y (.int .i64 p) (.int .i64 q); binOp .lss t (.int .i64 p) (.int .i64 q)) (w2 := w) (by unfold execOp; rw [hop]; simp only [hx, hy]) (by simp [eqGuard, go_sem, ← hb]) hK
theorem op_not (t : TypeId) (x : Operand) {b : Bool} (hop : o.op = .unOp .not t x) (hx : a.eval x = .bool b) (hK : K (a.put o.dst (.bool (!b))) w) : o.wp P a w K Q := by
  refine op_of (s := Op.unary .not (.bool b)) (w2 := w) (by unfold execOp; rw [hop]; simp only [hx]) (by simp [go_sem]) hK
theorem op_pick (x y z : Operand) {b : Bool} {u v : Value} (hop : o.op = .pick x y z) (hx : a.eval x = .bool b) (hy : a.eval y = u) (hz : a.eval z = v) (hK : K (a.put o.dst (bif b then u else v)) w) : o.wp P a w K Q := by
  refine op_of (s := pure (bif b then u else v)) (w2 := w) (by unfold execOp; rw [hop]; simp only [hx, hy, hz]; cases b <;> rfl) rfl hK
end
theorem undSlM : Tryd.prog.underlying 22 = some (.slice 27) := Tryd.underlying22
theorem elemM : Tryd.prog.elem 22 = 27 := by kernel_rfl
theorem infoMs : (Tryd.prog.info? 27).map (fun i => (i.zero, i.size)) = some (some (.agg #[.int .i64 0, .int .i64 0, .slice none 0 0]), 3) := by kernel_rfl
theorem isAgg_mat (w : World) : (isAgg 27).run Tryd.prog w = .ok true w := by simp [isAgg, go_sem]
theorem size_mat (w : World) : (sizeOf 27).run Tryd.prog w = .ok 3 w := by
  have h := infoMs
  cases hi : Tryd.prog.info? 27 with
  | none => rw [hi] at h; cases h
  | some i =>
    rw [hi] at h
    simp only [Option.map_some, Option.some.injEq, Prod.mk.injEq] at h
    simp [sizeOf, typeInfo, hi, h.2]
theorem add_at (g i : Nat) (o : Nat) : ((⟨g, o, none⟩ : Addr).add i) = ⟨g, o + i, none⟩ := by unfold Addr.add; by_cases hj : i = 0 <;> simp [hj]
theorem run_load3 {w : World} {g o : Nat} {c0 c1 c2 : Value} (h : ∀ (j : Nat) (u : Value), [c0, c1, c2][j]? = some u → w.cell? ⟨g, o + j, none⟩ = some u) : (Instr.loadAt 27 (.pointer (some ⟨g, o, none⟩))).run Tryd.prog w = .ok (.agg #[c0, c1, c2]) w := by
  have e0 := h 0 _ rfl
  have e1 := h 1 _ rfl
  have e2 := h 2 _ rfl
  rw [Nat.add_zero] at e0
  simp [Instr.loadAt, loadVar, Instr.sureAddr, isAgg_mat, size_mat, loadCells, loadCellsFrom, load, Addr.add, Sem.run, e0, e1, e2]
theorem sc_step {w : World} {g o i : Nat} {v : Value} {rest : List Value} {t : TypeId} {cs : Array Value} (hb : Bk w g t cs) (hi : o + i < cs.size) (hv : v.oneCell' = true) :
    (storeCells ⟨g, o, none⟩ (v :: rest) i).run Tryd.prog w = (storeCells ⟨g, o, none⟩ rest (i + 1)).run Tryd.prog (w.setCell ⟨g, o + i, none⟩ v) := by
  have e := add_at g i o
  have hc : w.cell? ⟨g, o + i, none⟩ = some cs[o + i] := by rw [hb.cell (o + i)]; simp [hi]
  have hf := hb.frozen (o + i)
  have hs : (store ⟨g, o + i, none⟩ v).run Tryd.prog w = .ok () (w.setCell ⟨g, o + i, none⟩ v) := by
    cases v <;> first | (simp [store, Sem.run, hc, hf]; done) | (simp [Value.oneCell'] at hv; done)
  simp [storeCells, e, hs]
theorem grow_set {w w' : World} {g o : Nat} {v : Value} (h : w.grownBy w' (some g)) : w.grownBy (w'.setCell ⟨g, o, none⟩ v) (some g) :=
  ⟨h.os, h.tape, h.output, by simpa using h.size, fun k hk hne => (Below.heap_setCell w' _ v k (fun e => hne (by rw [e]))).trans (h.block k hk hne)⟩
theorem run_store3 {w : World} {g o : Nat} {cur : Array Value} (h : Bk w g 27 cur) (hi : o + 3 ≤ cur.size) (d0 d1 d2 : Value) (h0 : d0.oneCell' = true) (h1 : d1.oneCell' = true) (h2 : d2.oneCell' = true) :
    ∃ w', (Instr.storeAt 27 (.pointer (some ⟨g, o, none⟩)) (.agg #[d0, d1, d2])).run Tryd.prog w = .ok () w' ∧ Bk w' g 27 (((cur.setIfInBounds o d0).setIfInBounds (o + 1) d1).setIfInBounds (o + 2) d2) ∧ w.grownBy w' (some g) ∧ w'.heap.size = w.heap.size := by
  have b1 := h.put o d0
  have b2 := b1.put (o + 1) d1
  have b3 := b2.put (o + 2) d2
  have hall : (storeCells ⟨g, o, none⟩ [d0, d1, d2] 0).run Tryd.prog w = .ok () _ :=
    (sc_step h (by omega) h0).trans ((sc_step b1 (by simp; omega) h1).trans ((sc_step b2 (by simp; omega) h2).trans rfl))
  have hrun : (Instr.storeAt 27 (.pointer (some ⟨g, o, none⟩)) (.agg #[d0, d1, d2])).run Tryd.prog w = (storeCells ⟨g, o, none⟩ [d0, d1, d2] 0).run Tryd.prog w := by
    simp [Instr.storeAt, storeVar, Instr.sureAddr, size_mat, Value.cells]
  exact ⟨_, hrun.trans hall, by simpa using b3, grow_set (grow_set (grow_set (World.grownBy.refl w _))), by simp⟩
section
variable {o : Oper} {a : Act} {w : World} {K : Act → World → Prop} {Q : Exit → Act → World → Prop}
theorem op_index (x y : Operand) {g n c i : Nat} (hop : o.op = .indexAddr 22 x y) (hx : a.eval x = .slice (some ⟨g, 0, none⟩) n c) (hy : a.eval y = .int .i64 i) (hi : i < n) (hK : K (a.put o.dst (.pointer (some ⟨g, i * 3, none⟩))) w) : o.wp Tryd.prog a w K Q := by
  refine op_of (s := Instr.indexAt 22 (.slice (some ⟨g, 0, none⟩) n c) (.int .i64 i)) (w2 := w) (by unfold execOp; rw [hop]; simp only [hx, hy]) ?_ hK
  refine (Go.run_indexAt_slice (P := Tryd.prog) w 22 ⟨g, 0, none⟩ n c .i64 i (by rw [elemM]; exact undSlM)).trans ?_
  rw [if_pos ⟨by omega, by omega⟩, elemM, size_mat]
  show Result.ok (Value.pointer (some ((⟨g, 0, none⟩ : Addr).add ((i : Int).toNat * 3)))) w = _
  rw [add_at, Nat.zero_add, Int.toNat_natCast]
theorem op_load (x : Operand) {g p : Nat} {m : MatV} (hop : o.op = .load 27 x) (hx : a.eval x = .pointer (some ⟨g, p, none⟩)) (h : ∀ (j : Nat) (u : Value), m.cells[j]? = some u → w.cell? ⟨g, p + j, none⟩ = some u) (hK : K (a.put o.dst m.val) w) : o.wp Tryd.prog a w K Q :=
  op_of (s := Instr.loadAt 27 (.pointer (some ⟨g, p, none⟩))) (w2 := w) (by unfold execOp; rw [hop]; simp only [hx]) (run_load3 h) hK
end

/-! Rows of matches. -/
/-- The row's block g holds the elements; what they point to lies in other blocks. -/
structure Row (base g c n : Nat) (ms : List MatV) (w : World) : Prop where
  own : w.ownsRow base 27 3 (.slice (some ⟨g, 0, none⟩) n c) n (ms.flatMap MatV.cells)
  ok : ∀ m ∈ ms, ∀ w', w.grownBy w' (some g) → m.ok w' w'.heap.size
theorem below_grown {w w' : World} (h : Below w.heap.size w w') (row : Option Nat) : w.grownBy w' row := ⟨h.os, h.tape, h.output, h.size, fun k hk _ => h.block k hk⟩
theorem cells3 (m : MatV) : m.cells.length = 3 := rfl
theorem flat_set3 (z : MatV) : ∀ (l : List MatV) (i : Nat), i < l.length → (l.set i z).flatMap MatV.cells = (((l.flatMap MatV.cells).set (i * 3) (.int .i64 z.step)).set (i * 3 + 1) (.int .i64 z.branch)).set (i * 3 + 2) (.slice z.A z.rows.length z.c)
  | [], i, h => by simp at h
  | m :: l, 0, _ => by simp [MatV.cells]
  | m :: l, i + 1, h => by
    have ih := flat_set3 z l i (by simpa using h)
    rw [List.set_cons_succ, List.flatMap_cons, ih, List.flatMap_cons]
    rw [List.set_append_right _ _ (by simp [MatV.cells]; omega), List.set_append_right _ _ (by simp [MatV.cells]; omega), List.set_append_right _ _ (by simp [MatV.cells]; omega)]
    simp only [cells3]
    rw [show (i + 1) * 3 - 3 = i * 3 by omega, show (i + 1) * 3 + 1 - 3 = i * 3 + 1 by omega, show (i + 1) * 3 + 2 - 3 = i * 3 + 2 by omega]
section
variable {base g c n : Nat} {ms : List MatV} {w w' : World}
theorem Row.len (h : Row base g c n ms w) : ms.length = n := by
  have := h.own.1
  rw [flat_len MatV.cells cells3] at this
  omega
theorem Row.bk (h : Row base g c n ms w) : ∃ cur : Array Value, Bk w g 27 cur ∧ base ≤ g ∧ n ≤ c ∧ c ≤ maxLen ∧ cur.size = c * 3 ∧ cur.toList.take (n * 3) = ms.flatMap MatV.cells := by
  rcases h.own.2 with ⟨h0, _⟩ | ⟨g', cap, cur, hv, hb, hh, h1, h2, h3, h4⟩
  · cases h0
  · injection hv with e1 e2 e3
    injection e1 with e1
    injection e1 with e1
    subst e1; subst e3
    exact ⟨cur, hh, hb, h1, h2, h3, h4⟩
theorem Row.of (hc : ∃ cur : Array Value, Bk w g 27 cur ∧ base ≤ g ∧ n ≤ c ∧ c ≤ maxLen ∧ cur.size = c * 3 ∧ cur.toList.take (n * 3) = ms.flatMap MatV.cells) (hn : ms.length = n) (ho : ∀ m ∈ ms, ∀ w', w.grownBy w' (some g) → m.ok w' w'.heap.size) : Row base g c n ms w := by
  obtain ⟨cur, hb, h0, h1, h2, h3, h4⟩ := hc
  exact ⟨⟨by rw [flat_len MatV.cells cells3, hn], .inr ⟨g, c, cur, rfl, h0, hb, h1, h2, h3, h4⟩⟩, ho⟩
theorem Row.cell (h : Row base g c n ms w) {i : Nat} (hi : i < n) : ∃ m, ms[i]? = some m ∧ m ∈ ms ∧ ∀ (j : Nat) (u : Value), m.cells[j]? = some u → w.cell? ⟨g, i * 3 + j, none⟩ = some u := by
  have hl := h.len
  have hi' : i < ms.length := by omega
  refine ⟨ms[i], List.getElem?_eq_getElem hi', List.getElem_mem _, fun j u hu => ?_⟩
  have hj : j < 3 := by have := (List.getElem?_eq_some_iff.1 hu).1; rwa [cells3] at this
  have := h.own.cells (g := g) rfl (i * 3 + j) u (by rw [flat_at MatV.cells cells3 ms i j hi' hj]; exact hu)
  rwa [add_at, Nat.zero_add] at this
/-- Where the row's block stays, the row does. -/
theorem Row.keep (h : Row base g c n ms w) (hg : w.grownBy w' (some g)) (hb : w'.heap[g]? = w.heap[g]?) : Row base g c n ms w' := by
  obtain ⟨cur, h0, h1⟩ := h.bk
  exact .of ⟨cur, hb.trans h0, h1⟩ h.len fun m hm w2 h2 => h.ok m hm w2 (hg.trans h2)
theorem Row.old (h : Row base g c n ms w) (hb : Below w.heap.size w w') : Row base g c n ms w' := by
  obtain ⟨cur, h0, h1⟩ := h.bk
  exact h.keep (below_grown hb _) (hb.block g h0.lt)
/-- One element is written. -/
theorem Row.put (h : Row base g c n ms w) {i : Nat} (hi : i < n) {m : MatV} (hm : ∀ w', w.grownBy w' (some g) → m.ok w' w'.heap.size) :
    ∃ w', (Instr.storeAt 27 (.pointer (some ⟨g, i * 3, none⟩)) m.val).run Tryd.prog w = .ok () w' ∧ Row base g c n (ms.set i m) w' ∧ w.grownBy w' (some g) ∧ w'.heap.size = w.heap.size := by
  obtain ⟨cur, h0, h1, h2, h3, h4, h5⟩ := h.bk
  have hl := h.len
  obtain ⟨w', hr, hb, hg, hz⟩ := run_store3 h0 (o := i * 3) (by omega) (.int .i64 m.step) (.int .i64 m.branch) (.slice m.A m.rows.length m.c) rfl rfl rfl
  refine ⟨w', hr, .of ⟨_, hb, h1, h2, h3, by simpa using h4, ?_⟩ (by simpa using hl) ?_, hg, hz⟩
  · rw [flat_set3 m ms i (by omega), ← h5]
    simp [List.take_set]
  · intro z hz2 w2 hw2
    rcases List.mem_or_eq_of_mem_set hz2 with hz3 | rfl
    · exact h.ok z hz3 w2 (hg.trans hw2)
    · exact hm w2 (hg.trans hw2)
theorem wpList_putR {ops : Array Oper} {rest : List Oper} {op : Oper} {a : Act} {Q : Exit → Act → World → Prop} (hg : op.guard = none) (x y : Operand) {i : Nat} {m : MatV} (hop : op.op = Op.store 27 x y) (hx : a.eval x = .pointer (some ⟨g, i * 3, none⟩)) (hy : a.eval y = m.val)
    (h : Row base g c n ms w) (hi : i < n) (hm : ∀ w', w.grownBy w' (some g) → m.ok w' w'.heap.size)
    (hK : ∀ w' : World, Row base g c n (ms.set i m) w' → w.grownBy w' (some g) → w'.heap.size = w.heap.size → wpList Tryd.prog ops Q rest (a.put op.dst undef) w') : wpList Tryd.prog ops Q (op :: rest) a w := by
  refine wpList_plain hg fun K' hK' => ?_
  obtain ⟨w', hr, h1, h2, h3⟩ := h.put hi hm
  exact op_ofu (by unfold execOp; rw [hop]; simp only [hx, hy]) hr (hK' _ _ (hK w' h1 h2 h3))
end

/-! The order. -/
/-- Ahead, by the program's order. -/
def ltM (x y : MatV) : Bool := decide (x.ord y < 0)
end Go.Proofs.YtbopndepklafgaaDoor
