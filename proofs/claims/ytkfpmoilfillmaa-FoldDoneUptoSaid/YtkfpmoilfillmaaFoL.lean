/- Layer 12: a node of seven cells, loaded and stored at one step. Plain. -/
import Derived.Test.YtkfpmoilfillmaaNodC
import Derived.Deep.DeepCutAuto
namespace Go.Proofs.Ytkfpmoilfillmaa
open Go.RowKit
set_option linter.unusedVariables false
set_option linter.unusedSimpArgs false

section
variable {w w' : World} {g o : Nat} {t : TypeId} {c0 c1 c2 c3 c4 c5 c6 d0 d1 d2 d3 d4 d5 d6 : Value}
/-- The seven cells of a block are turned. -/
def put7 (w : World) (g : Nat) (d0 d1 d2 d3 d4 d5 d6 : Value) : World := ((((((w.setCell ⟨g, 0, none⟩ d0).setCell ⟨g, 1, none⟩ d1).setCell ⟨g, 2, none⟩ d2).setCell ⟨g, 3, none⟩ d3).setCell ⟨g, 4, none⟩ d4).setCell ⟨g, 5, none⟩ d5).setCell ⟨g, 6, none⟩ d6
theorem Bk.put7 (h : Bk w g t #[c0, c1, c2, c3, c4, c5, c6]) : Bk (put7 w g d0 d1 d2 d3 d4 d5 d6) g t #[d0, d1, d2, d3, d4, d5, d6] := by
  unfold Go.Proofs.Ytkfpmoilfillmaa.put7
  have := ((((((h.put 0 d0).put 1 d1).put 2 d2).put 3 d3).put 4 d4).put 5 d5).put 6 d6
  simpa using this
theorem below_put7 {B : Nat} {a : World} (h : Below B a w) (hg : B ≤ g) : Below B a (put7 w g d0 d1 d2 d3 d4 d5 d6) :=
  ((((((h.setCell hg _).setCell hg _).setCell hg _).setCell hg _).setCell hg _).setCell hg _).setCell hg _
theorem put7_size : (put7 w g d0 d1 d2 d3 d4 d5 d6).heap.size = w.heap.size := by simp [put7]
theorem Bk.far7 {k : Nat} {cs : Array Value} (h : Bk w k t cs) (hk : k ≠ g) : Bk (Go.Proofs.Ytkfpmoilfillmaa.put7 w g d0 d1 d2 d3 d4 d5 d6) k t cs :=
  ((((((h.far hk _).far hk _).far hk _).far hk _).far hk _).far hk _).far hk _
theorem isAgg_node (w : World) : (isAgg 27).run Try.prog w = .ok true w := by simp [isAgg, go_sem]
theorem size_node (w : World) : (sizeOf 27).run Try.prog w = .ok 7 w := by
  obtain ⟨iN, hN, hN0, hN1, hN2⟩ := info_parts infoN
  simp [sizeOf, typeInfo, hN, hN1]
theorem run_load7 (h : ∀ (j : Nat) (u : Value), [c0, c1, c2, c3, c4, c5, c6][j]? = some u → w.cell? ⟨g, o + j, none⟩ = some u) : (Instr.loadAt 27 (.pointer (some ⟨g, o, none⟩))).run Try.prog w = .ok (.agg #[c0, c1, c2, c3, c4, c5, c6]) w := by
  have e0 := h 0 _ rfl
  have e1 := h 1 _ rfl
  have e2 := h 2 _ rfl
  have e3 := h 3 _ rfl
  have e4 := h 4 _ rfl
  have e5 := h 5 _ rfl
  have e6 := h 6 _ rfl
  rw [Nat.add_zero] at e0
  simp [Instr.loadAt, loadVar, Instr.sureAddr, isAgg_node, size_node, loadCells, loadCellsFrom, load, Addr.add, Sem.run, e0, e1, e2, e3, e4, e5, e6]
theorem Bk.at7 (h : Bk w g t #[c0, c1, c2, c3, c4, c5, c6]) : ∀ (j : Nat) (u : Value), [c0, c1, c2, c3, c4, c5, c6][j]? = some u → w.cell? ⟨g, 0 + j, none⟩ = some u := by
  intro j u hu
  rw [Nat.zero_add, h.cell j]
  simpa using hu
theorem sc_step {w : World} {g i : Nat} {v : Value} {rest : List Value} {t : TypeId} {cs : Array Value} (hb : Bk w g t cs) (hi : i < cs.size) (hv : v.oneCell' = true) :
    (storeCells ⟨g, 0, none⟩ (v :: rest) i).run Try.prog w = (storeCells ⟨g, 0, none⟩ rest (i + 1)).run Try.prog (w.setCell ⟨g, i, none⟩ v) := by
  have e : ((⟨g, 0, none⟩ : Addr).add i) = ⟨g, i, none⟩ := by unfold Addr.add; by_cases hj : i = 0 <;> simp [hj]
  have hc : w.cell? ⟨g, i, none⟩ = some cs[i] := by rw [hb.cell i]; simp [hi]
  have hf := hb.frozen i
  have hs : (store ⟨g, i, none⟩ v).run Try.prog w = .ok () (w.setCell ⟨g, i, none⟩ v) := by
    cases v <;> first | (simp [store, Sem.run, hc, hf]; done) | (simp [Value.oneCell'] at hv; done)
  simp [storeCells, e, hs]
theorem run_store7 (h : Bk w g t #[c0, c1, c2, c3, c4, c5, c6]) (h0 : d0.oneCell' = true) (h1 : d1.oneCell' = true) (h2 : d2.oneCell' = true) (h3 : d3.oneCell' = true) (h4 : d4.oneCell' = true) (h5 : d5.oneCell' = true) (h6 : d6.oneCell' = true) :
    (Instr.storeAt 27 (.pointer (some ⟨g, 0, none⟩)) (.agg #[d0, d1, d2, d3, d4, d5, d6])).run Try.prog w = .ok () (put7 w g d0 d1 d2 d3 d4 d5 d6) := by
  have b1 := h.put 0 d0
  have b2 := b1.put 1 d1
  have b3 := b2.put 2 d2
  have b4 := b3.put 3 d3
  have b5 := b4.put 4 d4
  have b6 := b5.put 5 d5
  have hall : (storeCells ⟨g, 0, none⟩ [d0, d1, d2, d3, d4, d5, d6] 0).run Try.prog w = .ok () (put7 w g d0 d1 d2 d3 d4 d5 d6) :=
    (sc_step h (by simp) h0).trans ((sc_step b1 (by simp) h1).trans ((sc_step b2 (by simp) h2).trans ((sc_step b3 (by simp) h3).trans
    ((sc_step b4 (by simp) h4).trans ((sc_step b5 (by simp) h5).trans ((sc_step b6 (by simp) h6).trans rfl))))))
  have hrun : (Instr.storeAt 27 (.pointer (some ⟨g, 0, none⟩)) (.agg #[d0, d1, d2, d3, d4, d5, d6])).run Try.prog w = (storeCells ⟨g, 0, none⟩ [d0, d1, d2, d3, d4, d5, d6] 0).run Try.prog w := by
    simp [Instr.storeAt, storeVar, Instr.sureAddr, size_node, Value.cells]
  rw [hrun, hall]
end

section
variable {w : World} {ops : Array Oper} {rest : List Oper} {op : Oper} {a : Act} {Q : Exit → Act → World → Prop} {g o : Nat} {c0 c1 c2 c3 c4 c5 c6 d0 d1 d2 d3 d4 d5 d6 : Value}
theorem wpList_load7 (hg : op.guard = none) (x : Operand) (hop : op.op = Op.load 27 x) (hx : a.eval x = .pointer (some ⟨g, o, none⟩)) (h : ∀ (j : Nat) (u : Value), [c0, c1, c2, c3, c4, c5, c6][j]? = some u → w.cell? ⟨g, o + j, none⟩ = some u)
    (hK : wpList Try.prog ops Q rest (a.put op.dst (.agg #[c0, c1, c2, c3, c4, c5, c6])) w) : wpList Try.prog ops Q (op :: rest) a w := by
  refine wpList_plain hg fun K' hK' => ?_
  unfold Oper.wp
  simp [execOp, hop, hx, run_load7 h, Result.andThen]
  exact hK' _ _ hK
theorem wpList_store7 (hg : op.guard = none) (x y : Operand) (hop : op.op = Op.store 27 x y) (hx : a.eval x = .pointer (some ⟨g, 0, none⟩)) (hy : a.eval y = .agg #[d0, d1, d2, d3, d4, d5, d6]) {t : TypeId} (h : Bk w g t #[c0, c1, c2, c3, c4, c5, c6])
    (h1 : (d0.oneCell' && d1.oneCell' && d2.oneCell' && d3.oneCell' && d4.oneCell' && d5.oneCell' && d6.oneCell') = true)
    (hK : ∀ w' : World, Bk w' g t #[d0, d1, d2, d3, d4, d5, d6] → (∀ (B : Nat) (a0 : World), Below B a0 w → B ≤ g → Below B a0 w') → wpList Try.prog ops Q rest (a.put op.dst undef) w') : wpList Try.prog ops Q (op :: rest) a w := by
  refine wpList_plain hg fun K' hK' => ?_
  simp only [Bool.and_eq_true] at h1
  obtain ⟨⟨⟨⟨⟨⟨e0, e1⟩, e2⟩, e3⟩, e4⟩, e5⟩, e6⟩ := h1
  unfold Oper.wp
  simp [execOp, hop, hx, hy, run_store7 h e0 e1 e2 e3 e4 e5 e6, Result.andThen]
  exact hK' _ _ (hK _ h.put7 (fun _ _ hb hg => below_put7 hb hg))
end
end Go.Proofs.Ytkfpmoilfillmaa
