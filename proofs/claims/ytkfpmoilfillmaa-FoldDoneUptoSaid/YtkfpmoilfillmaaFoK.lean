/- Layer 12: awake. No conditions. -/
import Derived.Test.YtkfpmoilfillmaaFoJ
namespace Go.Proofs.Ytkfpmoilfillmaa
open Go.RowKit
set_option linter.unusedVariables false
set_option linter.unusedSimpArgs false

/-- The block isn't one of seven cells. -/
def Not7 (w : World) (b : Nat) : Prop := ∀ (t : TypeId) (cs : Array Value), Bk w b t cs → cs.size ≠ 7
theorem Not7.old {w w' : World} (hb : Below w.heap.size w w') (b : Nat) (h : Not7 w b) (hlt : b < w.heap.size) : Not7 w' b ∧ b < w'.heap.size ∧ w'.heap[b]? = w.heap[b]? :=
  ⟨fun t cs hk => h t cs ((hb.block b hlt).symm.trans hk), by have := hb.size; omega, hb.block b hlt⟩
def NodeS (d : Nat) (t : T) (v : Value) (w : World) : Prop := ∃ n : NodeV, v = n.val ∧ treeN d n = t ∧ okS (Not7 w) d n w
theorem NodeS.old {d : Nat} {t : T} {v : Value} {w w' : World} (hb : Below w.heap.size w w') : NodeS d t v w → NodeS d t v w' := fun ⟨n, h1, h2, h3⟩ => ⟨n, h1, h2, okS.keep (Not7.old hb) h3⟩
theorem NodeS.at_ {d : Nat} {t : T} {v : Value} {w : World} : NodeS d t v w → NodeAt d t v w := fun ⟨n, h1, h2, h3⟩ => ⟨n, h1, h2, h3.n⟩
theorem NodeS.up {d : Nat} {t : T} {v : Value} {w : World} : NodeS d t v w → NodeS (d + 1) t v w := fun ⟨n, h1, h2, h3⟩ => ⟨n, h1, (treeN_up h3.n).trans h2, okS.up h3⟩
theorem leaf_s {op kind : Int} {vk : Int} {vb : Nat} {pos a : Int} (w : World) (h : vb < 18446744073709551616) : NodeS 1 (.mk op kind [] vk vb pos a) (.agg #[.int .i64 op, .int .i64 kind, .slice none 0 0, .int .i64 vk, .int .u64 vb, .int .i64 pos, .int .i64 a]) w :=
  ⟨.mk op kind none 0 [] vk vb pos a, rfl, rfl, .inl rfl, Nat.zero_le _, h, fun _ hx => by cases hx⟩
def ListAt (d : Nat) (ts : List T) (v : Value) (w : World) : Prop := ∃ (g : Nat) (l : List NodeV), v = .slice (some ⟨g, 0, none⟩) 2 2 ∧ l.length = 2 ∧ l.map (treeN d) = ts ∧ RdS w (Not7 w) (some ⟨g, 0, none⟩) (l.flatMap NodeV.cells) ∧ ∀ x ∈ l, okS (Not7 w) d x w
theorem ListAt.old {d : Nat} {ts : List T} {v : Value} {w w' : World} (hb : Below w.heap.size w w') : ListAt d ts v w → ListAt d ts v w' := fun ⟨g, l, h1, h2, h3, h4, h5⟩ => ⟨g, l, h1, h2, h3, h4.keep (Not7.old hb), fun x hx => okS.keep (Not7.old hb) (h5 x hx)⟩
theorem ListAt.node {d : Nat} {ts : List T} {v : Value} {w : World} {op kind : Int} : ListAt d ts v w → NodeS (d + 1) (.mk op kind ts 0 0 0 0) (.agg #[.int .i64 op, .int .i64 kind, v, .int .i64 0, .int .u64 0, .int .i64 0, .int .i64 0]) w := fun ⟨g, l, h1, h2, h3, h4, h5⟩ => by
  subst h1; subst h3
  refine ⟨.mk op kind (some ⟨g, 0, none⟩) 2 l 0 0 0 0, ?_, rfl, h4, by omega, by decide, h5⟩
  show _ = Value.agg #[.int .i64 op, .int .i64 kind, .slice (some ⟨g, 0, none⟩) l.length 2, .int .i64 0, .int .u64 ((0 : Nat) : Int), .int .i64 0, .int .i64 0]
  rw [h2]; rfl
theorem run_bs_node2 (c0 c1 c2 c3 c4 c5 c6 d0 d1 d2 d3 d4 d5 d6 : Value) (w : World) : (Instr.buildSlice 22 2 #[(0, .agg #[c0, c1, c2, c3, c4, c5, c6]), (1, .agg #[d0, d1, d2, d3, d4, d5, d6])]).run Try.prog w = .ok (.slice (some ⟨w.heap.size, 0, none⟩) 2 2) (w.alloc (.cells #[c0, c1, c2, c3, c4, c5, c6, d0, d1, d2, d3, d4, d5, d6] 27)) := by kernel_rfl
theorem wp_bs_two {w : World} {o : Oper} {a : Act} {K : Act → World → Prop} {Q : Exit → Act → World → Prop} {d : Nat} {t1 t2 : T} {v1 v2 : Value} (x y : Operand) (ho : o.op = .buildSlice 22 2 #[(0, x), (1, y)]) (h1 : NodeS d t1 v1 w) (h2 : NodeS d t2 v2 w) (hx : a.eval x = v1) (hy : a.eval y = v2)
    (h : ∀ v w', Below w.heap.size w w' → ListAt d [t1, t2] v w' → K (a.put o.dst v) w') : o.wp Try.prog a w K Q := by
  obtain ⟨⟨op, kind, A, c, args, vk, vb, pos, a0⟩, rfl, q1, o1⟩ := h1
  obtain ⟨⟨op2, kind2, A2, c2, args2, vk2, vb2, pos2, a2⟩, rfl, q2, o2⟩ := h2
  unfold Oper.wp execOp
  simp only [ho, List.map_toArray, List.map_cons, List.map_nil, hx, hy, Sem.run_bind]
  simp only [NodeV.val, NodeV.cells]
  rw [run_bs_node2]
  simp only [Result.andThen_ok, Sem.run_pure]
  have hb : Below w.heap.size w (w.alloc (.cells (NodeV.cells (.mk op kind A c args vk vb pos a0) ++ NodeV.cells (.mk op2 kind2 A2 c2 args2 vk2 vb2 pos2 a2)).toArray 27)) := (Below.refl _ _).alloc (Nat.le_refl _) _
  have kb := Bk.new w 27 (NodeV.cells (.mk op kind A c args vk vb pos a0) ++ NodeV.cells (.mk op2 kind2 A2 c2 args2 vk2 vb2 pos2 a2)).toArray
  refine h _ _ hb ⟨w.heap.size, [.mk op kind A c args vk vb pos a0, .mk op2 kind2 A2 c2 args2 vk2 vb2 pos2 a2], rfl, rfl, by rw [← q1, ← q2]; rfl, ?_, ?_⟩
  · refine .inr ⟨w.heap.size, 0, rfl, ?_, kb.lt, fun j u hu => ?_⟩
    · intro t cs hk
      have := hk.symm.trans kb
      injection this with this
      injection this with this
      rw [this]
      simp [NodeV.cells]
    · rw [Nat.zero_add]
      refine Eq.trans (kb.cell j) ?_
      simpa using hu
  intro q hq
  simp only [List.mem_cons, List.not_mem_nil, or_false] at hq
  rcases hq with rfl | rfl
  · exact okS.keep (Not7.old hb) o1
  · exact okS.keep (Not7.old hb) o2
def sumT : T := .mk 1 1 [numT 1, numT 2] 0 0 0 0
def curT : T := .mk 41 1 [] 0 0 0 0
def wholeT : T := .mk 9 2 [sumT, curT] 0 0 0 0
def doneT : T := .mk 9 2 [numT 3, curT] 0 0 0 0
theorem fold_whole : foldT 3 wholeT = doneT := by kernel_rfl
theorem fold_asks : asksT 3 wholeT = true := by kernel_rfl
theorem fold_last : lastT 3 wholeT = -1 := by kernel_rfl
theorem fold_quiet : quietT 3 wholeT = true := by kernel_rfl
theorem fold_nodes : nodesT 3 wholeT = 5 := by kernel_rfl
def foAw2 (w : World) (Bq : Nat) : List Spec := [.is (.agg #[.int .i64 40, .int .i64 1, .slice none 0 0, .int .i64 1, .int .u64 1, .int .i64 0, .int .i64 0]),
  .is (.agg #[.int .i64 40, .int .i64 1, .slice none 0 0, .int .i64 1, .int .u64 2, .int .i64 0, .int .i64 0]),
  .st (fun v w => ListAt 1 ([numT 1, numT 2]) v w) (fun _ _ _ hb h => ListAt.old hb h),
  .st (fun v w => NodeS 2 (sumT) v w) (fun _ _ _ hb h => NodeS.old hb h),
  .is (.agg #[.int .i64 41, .int .i64 1, .slice none 0 0, .int .i64 0, .int .u64 0, .int .i64 0, .int .i64 0]),
  .st (fun v w => ListAt 2 ([sumT, curT]) v w) (fun _ _ _ hb h => ListAt.old hb h),
  .st (fun v w => NodeS 3 (wholeT) v w) (fun _ _ _ hb h => NodeS.old hb h),
  .st (fun v w => ∃ g, v = .pointer (some ⟨g, 0, none⟩) ∧ Bq ≤ g ∧ Bk w g 27 #[.int .i64 0, .int .i64 0, .slice none 0 0, .int .i64 0, .int .u64 0, .int .i64 0, .int .i64 0]) (fun _ _ _ hb ⟨g, h1, h0, h2⟩ => ⟨g, h1, h0, h2.old hb⟩)]
def foAw3 (op kind : Int) (A : Option Addr) (c : Nat) (args : List NodeV) (vk : Int) (vb : Nat) (pos a : Int) (g2 : Nat) (w : World) : List Spec := [.is (.agg #[.int .i64 op, .int .i64 kind, .slice A args.length c, .int .i64 vk, .int .u64 vb, .int .i64 pos, .int .i64 a]),
  .st (fun v w => NodeAt 3 (doneT) v w) (fun _ _ _ hb h => NodeAt.old hb h),
  .is (.agg #[.int .i64 40, .int .i64 1, .slice none 0 0, .int .i64 1, .int .u64 3, .int .i64 0, .int .i64 0]),
  .is (.agg #[.int .i64 41, .int .i64 1, .slice none 0 0, .int .i64 0, .int .u64 0, .int .i64 0, .int .i64 0]),
  .st (fun v w => ListAt 1 ([numT 3, curT]) v w) (fun _ _ _ hb h => ListAt.old hb h),
  .st (fun v w => NodeS 2 (doneT) v w) (fun _ _ _ hb h => NodeS.old hb h),
  .is (.bool true),
  .is (.bool true),
  .is (.agg #[.int .i64 op, .int .i64 kind, .slice A args.length c, .int .i64 vk, .int .u64 vb, .int .i64 pos, .int .i64 a]),
  .is (.bool true),
  .is (.bool true),
  .is (.bool true),
  .is (.agg #[.int .i64 op, .int .i64 kind, .slice A args.length c, .int .i64 vk, .int .u64 vb, .int .i64 pos, .int .i64 a]),
  .is (.int .i64 (-1)),
  .is (.bool true),
  .is (.bool true),
  .is (.bool true),
  .is (.agg #[.int .i64 op, .int .i64 kind, .slice A args.length c, .int .i64 vk, .int .u64 vb, .int .i64 pos, .int .i64 a]),
  .is (.int .i64 5),
  .is (.bool true),
  .is (.bool true),
  .is (.bool true)]

set_option maxRecDepth 100000 in
set_option maxHeartbeats 4000000 in
theorem awake_any (w : World) : Calls Try.prog 6 #[] w fun e w' => e = .returned (.bool true) ∧ Below w.heap.size w w' := by
  have kc := Bk.new w 27 #[.int .i64 41, .int .i64 1, .slice none 0 0, .int .i64 0, .int .u64 0, .int .i64 0, .int .i64 0]
  have c0 : (w.alloc (.cells #[.int .i64 41, .int .i64 1, .slice none 0 0, .int .i64 0, .int .u64 0, .int .i64 0, .int .i64 0] 27)).cell? ⟨w.heap.size, 0, none⟩ = some (.int .i64 41) := kc.cell 0
  have c1 : (w.alloc (.cells #[.int .i64 41, .int .i64 1, .slice none 0 0, .int .i64 0, .int .u64 0, .int .i64 0, .int .i64 0] 27)).cell? ⟨w.heap.size, 1, none⟩ = some (.int .i64 1) := kc.cell 1
  have c2 : (w.alloc (.cells #[.int .i64 41, .int .i64 1, .slice none 0 0, .int .i64 0, .int .u64 0, .int .i64 0, .int .i64 0] 27)).cell? ⟨w.heap.size, 2, none⟩ = some (.slice none 0 0) := kc.cell 2
  have c3 : (w.alloc (.cells #[.int .i64 41, .int .i64 1, .slice none 0 0, .int .i64 0, .int .u64 0, .int .i64 0, .int .i64 0] 27)).cell? ⟨w.heap.size, 3, none⟩ = some (.int .i64 0) := kc.cell 3
  have c4 : (w.alloc (.cells #[.int .i64 41, .int .i64 1, .slice none 0 0, .int .i64 0, .int .u64 0, .int .i64 0, .int .i64 0] 27)).cell? ⟨w.heap.size, 4, none⟩ = some (.int .u64 0) := kc.cell 4
  have c5 : (w.alloc (.cells #[.int .i64 41, .int .i64 1, .slice none 0 0, .int .i64 0, .int .u64 0, .int .i64 0, .int .i64 0] 27)).cell? ⟨w.heap.size, 5, none⟩ = some (.int .i64 0) := kc.cell 5
  have c6 : (w.alloc (.cells #[.int .i64 41, .int .i64 1, .slice none 0 0, .int .i64 0, .int .u64 0, .int .i64 0, .int .i64 0] 27)).cell? ⟨w.heap.size, 6, none⟩ = some (.int .i64 0) := kc.cell 6
  have hbe : Below w.heap.size w (w.alloc (.cells #[.int .i64 41, .int .i64 1, .slice none 0 0, .int .i64 0, .int .u64 0, .int .i64 0, .int .i64 0] 27)) := (Below.refl _ _).alloc (Nat.le_refl _) _
  go_enter Try.func6, Try.ntmps6
  go_upto_region 2 with fail
  refine wp_region_t 8 (fun k => k == 7) (by kernel_rfl) (fun qk => (foAw2 w (w.alloc (.cells #[.int .i64 41, .int .i64 1, .slice none 0 0, .int .i64 0, .int .u64 0, .int .i64 0, .int .i64 0] 27)).heap.size).getD qk .any) (by kernel_rfl) ?_ ?_
  · refine BOk.cons rfl [] [] rfl rfl (by kernel_rfl) (by kernel_rfl) (fun qK qa wr hB qO qF hK => ?_) ?_
    · clear qO qF
      go_simp
      go_at_call 12
      refine (num1 _).mono ?_
      rintro e w2 ⟨rfl, hb2⟩
      exact hK _ _ hb2 rfl
    refine BOk.cons rfl [] [] rfl rfl (by kernel_rfl) (by kernel_rfl) (fun qK qa wr hB qO qF hK => ?_) ?_
    · clear qO qF
      go_simp
      go_at_call 12
      refine (num2 _).mono ?_
      rintro e w2 ⟨rfl, hb2⟩
      exact hK _ _ hb2 rfl
    refine BOk.cons rfl [0, 1] [] rfl rfl (by kernel_rfl) (by kernel_rfl) (fun qK qa wr hB qO qF hK => ?_) ?_
    · have e4 : qa.tmps[4]? = some (.agg #[.int .i64 40, .int .i64 1, .slice none 0 0, .int .i64 1, .int .u64 1, .int .i64 0, .int .i64 0]) := fis qF.1 rfl rfl
      have e5 : qa.tmps[5]? = some (.agg #[.int .i64 40, .int .i64 1, .slice none 0 0, .int .i64 1, .int .u64 2, .int .i64 0, .int .i64 0]) := fis qF.2.1 rfl rfl
      clear qO qF
      refine wp_bs_two (d := 1) (t1 := numT 1) (t2 := numT 2) (.tmp 4) (.tmp 5) rfl (leaf_s _ (by decide)) (leaf_s _ (by decide)) (act_eval e4) (act_eval e5) ?_
      intro v w9 hb9 hl9
      exact hK _ _ hb9 hl9
    refine BOk.cons rfl [2] [] rfl rfl (by kernel_rfl) (by kernel_rfl) (fun qK qa wr hB qO qF hK => ?_) ?_
    · obtain ⟨u6, e6, r2⟩ := qF.1
      have r2 : (fun v w => ListAt 1 ([numT 1, numT 2]) v w) u6 wr := r2
      obtain ⟨g6, hg6⟩ : ∃ g, u6 = .slice (some ⟨g, 0, none⟩) 2 2 := by
        obtain ⟨g, l, h, _⟩ := r2
        exact ⟨g, h⟩
      subst hg6
      have e6 : qa.tmps[6]? = some (.slice (some ⟨g6, 0, none⟩) 2 2) := e6
      clear qO qF
      go_simp
      exact hK _ _ (Below.refl _ _) (ListAt.node r2)
    refine BOk.cons rfl [] [1] rfl rfl (by kernel_rfl) (by kernel_rfl) (fun qK qa wr hB qO qF hK => ?_) ?_
    · have e1 : qa.tmps[1]? = some (.pointer (some ⟨w.heap.size, 0, none⟩)) := qO.1.trans rfl
      clear qO qF
      have hc0 := (bcell hB _ _ (World.block_lt_of_cell? _ _ c0)).trans c0
      have hc1 := (bcell hB _ _ (World.block_lt_of_cell? _ _ c1)).trans c1
      have hc2 := (bcell hB _ _ (World.block_lt_of_cell? _ _ c2)).trans c2
      have hc3 := (bcell hB _ _ (World.block_lt_of_cell? _ _ c3)).trans c3
      have hc4 := (bcell hB _ _ (World.block_lt_of_cell? _ _ c4)).trans c4
      have hc5 := (bcell hB _ _ (World.block_lt_of_cell? _ _ c5)).trans c5
      have hc6 := (bcell hB _ _ (World.block_lt_of_cell? _ _ c6)).trans c6
      go_simp
      exact hK _ _ (Below.refl _ _) rfl
    refine BOk.cons rfl [3, 4] [] rfl rfl (by kernel_rfl) (by kernel_rfl) (fun qK qa wr hB qO qF hK => ?_) ?_
    · obtain ⟨u7, e7, r3⟩ := qF.1
      have r3 : (fun v w => NodeS 2 (sumT) v w) u7 wr := r3
      have e7 : qa.tmps[7]? = some u7 := e7
      have e8 : qa.tmps[8]? = some (.agg #[.int .i64 41, .int .i64 1, .slice none 0 0, .int .i64 0, .int .u64 0, .int .i64 0, .int .i64 0]) := fis qF.2.1 rfl rfl
      clear qO qF
      refine wp_bs_two (d := 2) (t1 := sumT) (t2 := curT) (.tmp 7) (.tmp 8) rfl r3 (leaf_s _ (by decide)).up (act_eval e7) (act_eval e8) ?_
      intro v w9 hb9 hl9
      exact hK _ _ hb9 hl9
    refine BOk.cons rfl [5] [] rfl rfl (by kernel_rfl) (by kernel_rfl) (fun qK qa wr hB qO qF hK => ?_) ?_
    · obtain ⟨u9, e9, r5⟩ := qF.1
      have r5 : (fun v w => ListAt 2 ([sumT, curT]) v w) u9 wr := r5
      obtain ⟨g9, hg9⟩ : ∃ g, u9 = .slice (some ⟨g, 0, none⟩) 2 2 := by
        obtain ⟨g, l, h, _⟩ := r5
        exact ⟨g, h⟩
      subst hg9
      have e9 : qa.tmps[9]? = some (.slice (some ⟨g9, 0, none⟩) 2 2) := e9
      clear qO qF
      go_simp
      exact hK _ _ (Below.refl _ _) (ListAt.node r5)
    refine BOk.fresh rfl [] [] rfl rfl (by kernel_rfl) (by kernel_rfl) (fun qK qa wr hB qO qF hK => ?_) ?_
    · clear qO qF
      go_simp
      exact hK _ _ ((Below.refl _ _).alloc (Nat.le_refl _) _) ⟨_, rfl, hB.size, Bk.new _ _ _⟩ ⟨_, rfl, by simp, by simp⟩
    exact BOk.nil
  intro vals wr hl hB hR hS
  match vals, hl with
  | [z4, z5, z6, z7, z8, z9, z10, z2], _ =>
  have r6 : (fun v w => NodeS 3 (wholeT) v w) z10 wr := hR 6 _ rfl
  obtain ⟨g2, r7, n2, k2⟩ := (show ∃ g, z2 = .pointer (some ⟨g, 0, none⟩) ∧ (w.alloc (.cells #[.int .i64 41, .int .i64 1, .slice none 0 0, .int .i64 0, .int .u64 0, .int .i64 0, .int .i64 0] 27)).heap.size ≤ g ∧ Bk wr g 27 #[.int .i64 0, .int .i64 0, .slice none 0 0, .int .i64 0, .int .u64 0, .int .i64 0, .int .i64 0] from hR 7 _ rfl)
  subst r7
  clear hS
  clear hR
  simp only [List.take_succ_cons, List.take_zero, List.drop_succ_cons, List.drop_zero, List.toList_toArray, List.cons_append, List.nil_append, putAll, Act.put, List.setIfInBounds_toArray, List.set_cons_zero, List.set_cons_succ]
  rename World => w1
  replace hbe := hbe.trans (hB.mono hbe.size)
  replace kc := kc.old hB
  clear hB c0 c1 c2 c3 c4 c5 c6
  obtain ⟨⟨op, kind, A, c, args, vk, vb, pos, a⟩, rfl, q6, o6⟩ := r6
  simp only [NodeV.val, NodeV.cells]
  have HOK := Lib.hid o6
  have hg2 : w.heap.size < g2 := by simp at n2; omega
  clear o6
  go_wp2_with (refine wpList_put7 rfl _ _ rfl rfl rfl k2 rfl ?_; intro w9 p9)
  have kn := p9.bk
  have hbe2 : Below w.heap.size w w9 := p9.below _ _ hbe (by omega)
  have hne : ∀ b, Not7 w1 b → b ≠ g2 := fun b h e => by subst e; exact h _ _ k2 rfl
  have HNA : Hid (NodeAt 3 wholeT (.agg #[.int .i64 op, .int .i64 kind, .slice A args.length c, .int .i64 vk, .int .u64 vb, .int .i64 pos, .int .i64 a]) w9) := Lib.hid ⟨.mk op kind A c args vk vb pos a, rfl, q6, (okS.keep (S' := fun _ => True) (fun b h1 h2 => ⟨trivial, by have := p9.size; omega, p9.other b (hne b h1)⟩) HOK.out).n⟩
  have kc9 : Bk w9 w.heap.size 27 #[.int .i64 41, .int .i64 1, .slice none 0 0, .int .i64 0, .int .u64 0, .int .i64 0, .int .i64 0] := (p9.other _ (by omega)).trans kc
  have n0 : w9.cell? ⟨g2, 0, none⟩ = some (.int .i64 op) := kn.cell 0
  have c0 : w9.cell? ⟨w.heap.size, 0, none⟩ = some (.int .i64 41) := kc9.cell 0
  have n1 : w9.cell? ⟨g2, 1, none⟩ = some (.int .i64 kind) := kn.cell 1
  have c1 : w9.cell? ⟨w.heap.size, 1, none⟩ = some (.int .i64 1) := kc9.cell 1
  have n2 : w9.cell? ⟨g2, 2, none⟩ = some (.slice A args.length c) := kn.cell 2
  have c2 : w9.cell? ⟨w.heap.size, 2, none⟩ = some (.slice none 0 0) := kc9.cell 2
  have n3 : w9.cell? ⟨g2, 3, none⟩ = some (.int .i64 vk) := kn.cell 3
  have c3 : w9.cell? ⟨w.heap.size, 3, none⟩ = some (.int .i64 0) := kc9.cell 3
  have n4 : w9.cell? ⟨g2, 4, none⟩ = some (.int .u64 vb) := kn.cell 4
  have c4 : w9.cell? ⟨w.heap.size, 4, none⟩ = some (.int .u64 0) := kc9.cell 4
  have n5 : w9.cell? ⟨g2, 5, none⟩ = some (.int .i64 pos) := kn.cell 5
  have c5 : w9.cell? ⟨w.heap.size, 5, none⟩ = some (.int .i64 0) := kc9.cell 5
  have n6 : w9.cell? ⟨g2, 6, none⟩ = some (.int .i64 a) := kn.cell 6
  have c6 : w9.cell? ⟨w.heap.size, 6, none⟩ = some (.int .i64 0) := kc9.cell 6
  clear kn kc kc9 k2 HOK hne p9 q6
  go_upto_region 3 with fail
  refine wp_region_b (by kernel_rfl) (fun qk => (foAw3 op kind A c args vk vb pos a g2 w).getD qk .any) (by kernel_rfl) ?_ ?_
  · refine BOk.cons rfl [] [2] rfl rfl (by kernel_rfl) (by kernel_rfl) (fun qK qa wr hB qO qF hK => ?_) ?_
    · have e2 : qa.tmps[2]? = some (.pointer (some ⟨g2, 0, none⟩)) := qO.1.trans rfl
      clear qO qF
      have hn0 := (bcell hB _ _ (World.block_lt_of_cell? _ _ n0)).trans n0
      have hn1 := (bcell hB _ _ (World.block_lt_of_cell? _ _ n1)).trans n1
      have hn2 := (bcell hB _ _ (World.block_lt_of_cell? _ _ n2)).trans n2
      have hn3 := (bcell hB _ _ (World.block_lt_of_cell? _ _ n3)).trans n3
      have hn4 := (bcell hB _ _ (World.block_lt_of_cell? _ _ n4)).trans n4
      have hn5 := (bcell hB _ _ (World.block_lt_of_cell? _ _ n5)).trans n5
      have hn6 := (bcell hB _ _ (World.block_lt_of_cell? _ _ n6)).trans n6
      go_simp
      exact hK _ _ (Below.refl _ _) rfl
    refine BOk.cons rfl [0] [] rfl rfl (by kernel_rfl) (by kernel_rfl) (fun qK qa wr hB qO qF hK => ?_) ?_
    · have e11 : qa.tmps[11]? = some (.agg #[.int .i64 op, .int .i64 kind, .slice A args.length c, .int .i64 vk, .int .u64 vb, .int .i64 pos, .int .i64 a]) := fis qF.1 rfl rfl
      clear qO qF
      go_simp
      go_at_call 8
      refine (fold_at (HNA.out.old hB)).mono ?_
      rintro e w2 ⟨v2, rfl, hn2, hb2⟩
      rw [fold_whole] at hn2
      exact hK _ _ hb2 hn2
    refine BOk.cons rfl [] [] rfl rfl (by kernel_rfl) (by kernel_rfl) (fun qK qa wr hB qO qF hK => ?_) ?_
    · clear qO qF
      go_simp
      go_at_call 12
      refine (num3 _).mono ?_
      rintro e w2 ⟨rfl, hb2⟩
      exact hK _ _ hb2 rfl
    refine BOk.cons rfl [] [1] rfl rfl (by kernel_rfl) (by kernel_rfl) (fun qK qa wr hB qO qF hK => ?_) ?_
    · have e1 : qa.tmps[1]? = some (.pointer (some ⟨w.heap.size, 0, none⟩)) := qO.1.trans rfl
      clear qO qF
      have hc0 := (bcell hB _ _ (World.block_lt_of_cell? _ _ c0)).trans c0
      have hc1 := (bcell hB _ _ (World.block_lt_of_cell? _ _ c1)).trans c1
      have hc2 := (bcell hB _ _ (World.block_lt_of_cell? _ _ c2)).trans c2
      have hc3 := (bcell hB _ _ (World.block_lt_of_cell? _ _ c3)).trans c3
      have hc4 := (bcell hB _ _ (World.block_lt_of_cell? _ _ c4)).trans c4
      have hc5 := (bcell hB _ _ (World.block_lt_of_cell? _ _ c5)).trans c5
      have hc6 := (bcell hB _ _ (World.block_lt_of_cell? _ _ c6)).trans c6
      go_simp
      exact hK _ _ (Below.refl _ _) rfl
    refine BOk.cons rfl [2, 3] [] rfl rfl (by kernel_rfl) (by kernel_rfl) (fun qK qa wr hB qO qF hK => ?_) ?_
    · have e13 : qa.tmps[13]? = some (.agg #[.int .i64 40, .int .i64 1, .slice none 0 0, .int .i64 1, .int .u64 3, .int .i64 0, .int .i64 0]) := fis qF.1 rfl rfl
      have e14 : qa.tmps[14]? = some (.agg #[.int .i64 41, .int .i64 1, .slice none 0 0, .int .i64 0, .int .u64 0, .int .i64 0, .int .i64 0]) := fis qF.2.1 rfl rfl
      clear qO qF
      refine wp_bs_two (d := 1) (t1 := numT 3) (t2 := curT) (.tmp 13) (.tmp 14) rfl (leaf_s _ (by decide)) (leaf_s _ (by decide)) (act_eval e13) (act_eval e14) ?_
      intro v w9 hb9 hl9
      exact hK _ _ hb9 hl9
    refine BOk.cons rfl [4] [] rfl rfl (by kernel_rfl) (by kernel_rfl) (fun qK qa wr hB qO qF hK => ?_) ?_
    · obtain ⟨u15, e15, r4⟩ := qF.1
      have r4 : (fun v w => ListAt 1 ([numT 3, curT]) v w) u15 wr := r4
      obtain ⟨g15, hg15⟩ : ∃ g, u15 = .slice (some ⟨g, 0, none⟩) 2 2 := by
        obtain ⟨g, l, h, _⟩ := r4
        exact ⟨g, h⟩
      subst hg15
      have e15 : qa.tmps[15]? = some (.slice (some ⟨g15, 0, none⟩) 2 2) := e15
      clear qO qF
      go_simp
      exact hK _ _ (Below.refl _ _) (ListAt.node r4)
    refine BOk.cons rfl [1, 5] [] rfl rfl (by kernel_rfl) (by kernel_rfl) (fun qK qa wr hB qO qF hK => ?_) ?_
    · obtain ⟨u12, e12, r1⟩ := qF.1
      have r1 : (fun v w => NodeAt 3 (doneT) v w) u12 wr := r1
      have e12 : qa.tmps[12]? = some u12 := e12
      obtain ⟨u16, e16, r5⟩ := qF.2.1
      have r5 : (fun v w => NodeS 2 (doneT) v w) u16 wr := r5
      have e16 : qa.tmps[16]? = some u16 := e16
      clear qO qF
      go_simp
      go_at_call 7
      refine (one_at r1 (NodeAt.up (NodeS.at_ r5))).mono ?_
      rintro e w2 ⟨rfl, hb2⟩
      exact hK _ _ hb2 rfl
    refine BOk.cons rfl [6] [] rfl rfl (by kernel_rfl) (by kernel_rfl) (fun qK qa wr hB qO qF hK => ?_) ?_
    · have e17 : qa.tmps[17]? = some (.bool true) := fis qF.1 rfl rfl
      clear qO qF
      go_simp
      exact hK _ _ (Below.refl _ _) (by first | rfl | (show (_ : Value) = _; simp_all; done))
    refine BOk.yes rfl [] [2] rfl 7 true rfl rfl rfl (by kernel_rfl) (by kernel_rfl) (by kernel_rfl) (fun qK qa wr hB qO qF hK => ?_) ?_
    · have e2 : qa.tmps[2]? = some (.pointer (some ⟨g2, 0, none⟩)) := qO.1.trans rfl
      clear qO qF
      have hn0 := (bcell hB _ _ (World.block_lt_of_cell? _ _ n0)).trans n0
      have hn1 := (bcell hB _ _ (World.block_lt_of_cell? _ _ n1)).trans n1
      have hn2 := (bcell hB _ _ (World.block_lt_of_cell? _ _ n2)).trans n2
      have hn3 := (bcell hB _ _ (World.block_lt_of_cell? _ _ n3)).trans n3
      have hn4 := (bcell hB _ _ (World.block_lt_of_cell? _ _ n4)).trans n4
      have hn5 := (bcell hB _ _ (World.block_lt_of_cell? _ _ n5)).trans n5
      have hn6 := (bcell hB _ _ (World.block_lt_of_cell? _ _ n6)).trans n6
      go_simp
      exact hK _ _ (Below.refl _ _) rfl
    refine BOk.yes rfl [8] [] rfl 7 true rfl rfl rfl (by kernel_rfl) (by kernel_rfl) (by kernel_rfl) (fun qK qa wr hB qO qF hK => ?_) ?_
    · have e19 : qa.tmps[19]? = some (.agg #[.int .i64 op, .int .i64 kind, .slice A args.length c, .int .i64 vk, .int .u64 vb, .int .i64 pos, .int .i64 a]) := fis qF.1 rfl rfl
      clear qO qF
      go_simp
      go_at_call 13
      refine (asks_at (HNA.out.old hB) fold_asks).mono ?_
      rintro e w2 ⟨rfl, hb2⟩
      exact hK _ _ hb2 rfl
    refine BOk.cons rfl [7, 9] [] rfl rfl (by kernel_rfl) (by kernel_rfl) (fun qK qa wr hB qO qF hK => ?_) ?_
    · have e18 : qa.tmps[18]? = some (.bool true) := fis qF.1 rfl rfl
      have e20 : qa.tmps[20]? = some (.bool true) := fis qF.2.1 rfl rfl
      clear qO qF
      go_simp
      refine hK _ _ (Below.refl _ _) ?_
      show (_ : Value) = _
      first | rfl | (simp; done) | (simp; omega)
    refine BOk.cons rfl [10] [] rfl rfl (by kernel_rfl) (by kernel_rfl) (fun qK qa wr hB qO qF hK => ?_) ?_
    · have e21 : qa.tmps[21]? = some (.bool true) := fis qF.1 rfl rfl
      clear qO qF
      go_simp
      exact hK _ _ (Below.refl _ _) (by first | rfl | (show (_ : Value) = _; simp_all; done))
    refine BOk.yes rfl [] [2] rfl 11 true rfl rfl rfl (by kernel_rfl) (by kernel_rfl) (by kernel_rfl) (fun qK qa wr hB qO qF hK => ?_) ?_
    · have e2 : qa.tmps[2]? = some (.pointer (some ⟨g2, 0, none⟩)) := qO.1.trans rfl
      clear qO qF
      have hn0 := (bcell hB _ _ (World.block_lt_of_cell? _ _ n0)).trans n0
      have hn1 := (bcell hB _ _ (World.block_lt_of_cell? _ _ n1)).trans n1
      have hn2 := (bcell hB _ _ (World.block_lt_of_cell? _ _ n2)).trans n2
      have hn3 := (bcell hB _ _ (World.block_lt_of_cell? _ _ n3)).trans n3
      have hn4 := (bcell hB _ _ (World.block_lt_of_cell? _ _ n4)).trans n4
      have hn5 := (bcell hB _ _ (World.block_lt_of_cell? _ _ n5)).trans n5
      have hn6 := (bcell hB _ _ (World.block_lt_of_cell? _ _ n6)).trans n6
      go_simp
      exact hK _ _ (Below.refl _ _) rfl
    refine BOk.yes rfl [12] [] rfl 11 true rfl rfl rfl (by kernel_rfl) (by kernel_rfl) (by kernel_rfl) (fun qK qa wr hB qO qF hK => ?_) ?_
    · have e23 : qa.tmps[23]? = some (.agg #[.int .i64 op, .int .i64 kind, .slice A args.length c, .int .i64 vk, .int .u64 vb, .int .i64 pos, .int .i64 a]) := fis qF.1 rfl rfl
      clear qO qF
      go_simp
      go_at_call 14
      refine (last_at (HNA.out.old hB) fold_quiet fold_last).mono ?_
      rintro e w2 ⟨rfl, hb2⟩
      exact hK _ _ hb2 rfl
    refine BOk.yes rfl [13] [] rfl 11 true rfl rfl rfl (by kernel_rfl) (by kernel_rfl) (by kernel_rfl) (fun qK qa wr hB qO qF hK => ?_) ?_
    · have e24 : qa.tmps[24]? = some (.int .i64 (-1)) := fis qF.1 rfl rfl
      clear qO qF
      go_simp
      refine hK _ _ (Below.refl _ _) ?_
      show (_ : Value) = _
      first | rfl | (simp; done) | (simp; omega)
    refine BOk.cons rfl [11, 14] [] rfl rfl (by kernel_rfl) (by kernel_rfl) (fun qK qa wr hB qO qF hK => ?_) ?_
    · have e22 : qa.tmps[22]? = some (.bool true) := fis qF.1 rfl rfl
      have e25 : qa.tmps[25]? = some (.bool true) := fis qF.2.1 rfl rfl
      clear qO qF
      go_simp
      refine hK _ _ (Below.refl _ _) ?_
      show (_ : Value) = _
      first | rfl | (simp; done) | (simp; omega)
    refine BOk.cons rfl [15] [] rfl rfl (by kernel_rfl) (by kernel_rfl) (fun qK qa wr hB qO qF hK => ?_) ?_
    · have e26 : qa.tmps[26]? = some (.bool true) := fis qF.1 rfl rfl
      clear qO qF
      go_simp
      exact hK _ _ (Below.refl _ _) (by first | rfl | (show (_ : Value) = _; simp_all; done))
    refine BOk.yes rfl [] [2] rfl 16 true rfl rfl rfl (by kernel_rfl) (by kernel_rfl) (by kernel_rfl) (fun qK qa wr hB qO qF hK => ?_) ?_
    · have e2 : qa.tmps[2]? = some (.pointer (some ⟨g2, 0, none⟩)) := qO.1.trans rfl
      clear qO qF
      have hn0 := (bcell hB _ _ (World.block_lt_of_cell? _ _ n0)).trans n0
      have hn1 := (bcell hB _ _ (World.block_lt_of_cell? _ _ n1)).trans n1
      have hn2 := (bcell hB _ _ (World.block_lt_of_cell? _ _ n2)).trans n2
      have hn3 := (bcell hB _ _ (World.block_lt_of_cell? _ _ n3)).trans n3
      have hn4 := (bcell hB _ _ (World.block_lt_of_cell? _ _ n4)).trans n4
      have hn5 := (bcell hB _ _ (World.block_lt_of_cell? _ _ n5)).trans n5
      have hn6 := (bcell hB _ _ (World.block_lt_of_cell? _ _ n6)).trans n6
      go_simp
      exact hK _ _ (Below.refl _ _) rfl
    refine BOk.yes rfl [17] [] rfl 16 true rfl rfl rfl (by kernel_rfl) (by kernel_rfl) (by kernel_rfl) (fun qK qa wr hB qO qF hK => ?_) ?_
    · have e28 : qa.tmps[28]? = some (.agg #[.int .i64 op, .int .i64 kind, .slice A args.length c, .int .i64 vk, .int .u64 vb, .int .i64 pos, .int .i64 a]) := fis qF.1 rfl rfl
      clear qO qF
      go_simp
      go_at_call 15
      refine (nodes_at (HNA.out.old hB) fold_nodes (by decide)).mono ?_
      rintro e w2 ⟨rfl, hb2⟩
      exact hK _ _ hb2 rfl
    refine BOk.yes rfl [18] [] rfl 16 true rfl rfl rfl (by kernel_rfl) (by kernel_rfl) (by kernel_rfl) (fun qK qa wr hB qO qF hK => ?_) ?_
    · have e29 : qa.tmps[29]? = some (.int .i64 5) := fis qF.1 rfl rfl
      clear qO qF
      go_simp
      refine hK _ _ (Below.refl _ _) ?_
      show (_ : Value) = _
      first | rfl | (simp; done) | (simp; omega)
    refine BOk.cons rfl [16, 19] [] rfl rfl (by kernel_rfl) (by kernel_rfl) (fun qK qa wr hB qO qF hK => ?_) ?_
    · have e27 : qa.tmps[27]? = some (.bool true) := fis qF.1 rfl rfl
      have e30 : qa.tmps[30]? = some (.bool true) := fis qF.2.1 rfl rfl
      clear qO qF
      go_simp
      refine hK _ _ (Below.refl _ _) ?_
      show (_ : Value) = _
      first | rfl | (simp; done) | (simp; omega)
    refine BOk.cons rfl [20] [] rfl rfl (by kernel_rfl) (by kernel_rfl) (fun qK qa wr hB qO qF hK => ?_) ?_
    · have e31 : qa.tmps[31]? = some (.bool true) := fis qF.1 rfl rfl
      clear qO qF
      go_simp
      exact hK _ _ (Below.refl _ _) (by first | rfl | (show (_ : Value) = _; simp_all; done))
    exact BOk.nil
  intro vals wr hl hB hR
  match vals, hl with
  | [y11, y12, y13, y14, y15, y16, y17, y18, y19, y20, y21, y22, y23, y24, y25, y26, y27, y28, y29, y30, y31, y0], _ =>
  have r21 : y0 = .bool true := hR 21 _ rfl
  subst r21
  clear hR
  simp only [List.cons_append, List.nil_append, putAll, Act.put, List.setIfInBounds_toArray, List.set_cons_zero, List.set_cons_succ]
  have hbe := hbe2.trans (hB.mono hbe2.size)
  clear hB hbe2 HNA n0 n1 n2 n3 n4 n5 n6 c0 c1 c2 c3 c4 c5 c6
  go_wp2_with fail
  go_ret
  exact ⟨rfl, hbe⟩
end Go.Proofs.Ytkfpmoilfillmaa
