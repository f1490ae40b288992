/- Layer 12: the document's fold of a node. No conditions. -/
import Derived.Test.YtkfpmoilfillmaaFoG
namespace Go.Proofs.Ytkfpmoilfillmaa
open Go.RowKit
set_option linter.unusedVariables false
set_option linter.unusedSimpArgs false

theorem infoW : (Try.prog.info? 33).map (fun i => (i.zero, i.size, i.bytes)) = some (some (.agg #[.int .i64 0, .int .u64 0]), 2, 16) := by kernel_rfl
theorem ruleR_ok {w : World} {S : Nat → Prop} {d : Nat} {n : NodeV} (h : okS S (d + 1) n w) : okS S (d + 1) (ruleR n) w := by
  obtain ⟨op, kind, A, c, args, vk, vb, pos, a⟩ := n
  unfold ruleR
  cases h0 : conR (.mk op kind A c args vk vb pos a) with
  | some r => exact ruleAt_ok (op := op) (kind := kind) (A := A) (c := c) (vk := vk) (vb := vb) (pos := pos) (a := a) 0 h.2.2.2 h0
  | none =>
    cases h1 : decR (.mk op kind A c args vk vb pos a) with
    | some r => exact ruleAt_ok (op := op) (kind := kind) (A := A) (c := c) (vk := vk) (vb := vb) (pos := pos) (a := a) 1 h.2.2.2 h1
    | none =>
      cases h2 : neutR (.mk op kind A c args vk vb pos a) with
      | some r => exact ruleAt_ok (op := op) (kind := kind) (A := A) (c := c) (vk := vk) (vb := vb) (pos := pos) (a := a) 2 h.2.2.2 h2
      | none =>
        cases h3 : twiceR (.mk op kind A c args vk vb pos a) with
        | some r => exact ruleAt_ok (op := op) (kind := kind) (A := A) (c := c) (vk := vk) (vb := vb) (pos := pos) (a := a) 3 h.2.2.2 h3
        | none => exact h

section
variable {op kind : Int} {A : Option Addr} {c : Nat} {args : List NodeV} {vk : Int} {vb : Nat} {pos a : Int}
theorem con_at (h : args.all isK = true ∧ 1 ≤ op ∧ op ≤ 17) : ruleR (.mk op kind A c args vk vb pos a) = constN kind (applyV op (args.map valK)) := by
  refine ruleR_at 0 (by omega) (fun j hj => by omega) ?_
  exact if_pos h
theorem con_none (h : ¬ (args.all isK = true ∧ 1 ≤ op ∧ op ≤ 17)) : ruleAt 0 (.mk op kind A c args vk vb pos a) = none := if_neg h
theorem dec_none (h : (logicB op args.length && args.any (isCN (orN op))) = false) : ruleAt 1 (.mk op kind A c args vk vb pos a) = none := by
  show (if (logicB op args.length && args.any (isCN (orN op))) = true then _ else none) = none
  rw [h]; rfl
theorem logic_two {x y : NodeV} (ho : op = 13 ∨ op = 14) : logicB op [x, y].length = true := decide_eq_true ⟨rfl, ho⟩
theorem dec_at {x y : NodeV} (h : ¬ (([x, y] : List NodeV).all isK = true ∧ 1 ≤ op ∧ op ≤ 17)) (ho : op = 13 ∨ op = 14) (hx : isCN (orN op) x = true ∨ isCN (orN op) y = true) : ruleR (.mk op kind A c [x, y] vk vb pos a) = .mk 40 kind none 0 [] 2 (orN op) 0 0 := by
  refine ruleR_at 1 (by omega) (fun j hj => ?_) ?_
  · obtain rfl : j = 0 := by omega
    exact con_none h
  · show (if (logicB op [x, y].length && [x, y].any (isCN (orN op))) = true then _ else _) = _
    rw [logic_two ho, if_pos]
    rcases hx with hx | hx <;> simp [hx]
theorem neut_at {x y r : NodeV} (h : ¬ (([x, y] : List NodeV).all isK = true ∧ 1 ≤ op ∧ op ≤ 17)) (ho : op = 13 ∨ op = 14) (hx : isCN (orN op) x = false) (hy : isCN (orN op) y = false) (hr : isCN (1 - orN op) x = true ∧ r = y ∨ isCN (1 - orN op) x = false ∧ isCN (1 - orN op) y = true ∧ r = x) : ruleR (.mk op kind A c [x, y] vk vb pos a) = r := by
  refine ruleR_at 2 (by omega) (fun j hj => ?_) ?_
  · obtain rfl | rfl : j = 0 ∨ j = 1 := by omega
    · exact con_none h
    · exact dec_none (by simp [hx, hy])
  · show (if op = 13 ∨ op = 14 then (if isCN (1 - orN op) x = true then some y else if isCN (1 - orN op) y = true then some x else none) else none) = _
    rw [if_pos ho]
    rcases hr with ⟨h1, rfl⟩ | ⟨h1, h2, rfl⟩
    · rw [if_pos h1]
    · rw [if_neg (by rw [h1]; simp), if_pos h2]
theorem self_logic {x y : NodeV} (h : ¬ (([x, y] : List NodeV).all isK = true ∧ 1 ≤ op ∧ op ≤ 17)) (ho : op = 13 ∨ op = 14) (hx : isCN (orN op) x = false) (hy : isCN (orN op) y = false) (hx2 : isCN (1 - orN op) x = false) (hy2 : isCN (1 - orN op) y = false) :
    ruleR (.mk op kind A c [x, y] vk vb pos a) = .mk op kind A c [x, y] vk vb pos a := by
  refine ruleR_self fun j hj => ?_
  obtain rfl | rfl | rfl | rfl : j = 0 ∨ j = 1 ∨ j = 2 ∨ j = 3 := by omega
  · exact con_none h
  · exact dec_none (by simp [hx, hy])
  · show (if op = 13 ∨ op = 14 then (if isCN (1 - orN op) x = true then some y else if isCN (1 - orN op) y = true then some x else none) else none) = none
    rw [if_neg (c := isCN _ x = true) (by rw [hx2]; simp), if_neg (c := isCN _ y = true) (by rw [hy2]; simp)]
    simp
  · exact (twiceR_no (by omega) : twiceR (.mk op kind A c [x, y] vk vb pos a) = none)
theorem neut_none (h : ¬ (args.length = 2 ∧ (op = 13 ∨ op = 14))) : ruleAt 2 (.mk op kind A c args vk vb pos a) = none := by
  match args, h with
  | [], _ => rfl
  | [_], _ => rfl
  | _ :: _ :: _ :: _, _ => rfl
  | [x, y], h => exact if_neg fun h2 => h ⟨rfl, h2⟩
theorem logic_none (h : ¬ (args.length = 2 ∧ (op = 13 ∨ op = 14))) : ruleAt 1 (.mk op kind A c args vk vb pos a) = none := dec_none (by rw [show logicB op args.length = false from decide_eq_false h]; rfl)
theorem twice_at {kind2 : Int} {A2 : Option Addr} {c2 : Nat} {z : NodeV} {vk2 : Int} {vb2 : Nat} {pos2 a2 : Int} : ruleR (.mk 15 kind A c [.mk 15 kind2 A2 c2 [z] vk2 vb2 pos2 a2] vk vb pos a) = z := by
  refine ruleR_at 3 (by omega) (fun j hj => ?_) rfl
  obtain rfl | rfl | rfl : j = 0 ∨ j = 1 ∨ j = 2 := by omega
  · exact con_none fun h => by have := h.1; simp [isK] at this
  · exact logic_none (by omega)
  · rfl
theorem self_at (h : ¬ (args.all isK = true ∧ 1 ≤ op ∧ op ≤ 17)) (h2 : ¬ (args.length = 2 ∧ (op = 13 ∨ op = 14))) (h3 : twiceR (.mk op kind A c args vk vb pos a) = none) : ruleR (.mk op kind A c args vk vb pos a) = .mk op kind A c args vk vb pos a := by
  refine ruleR_self fun j hj => ?_
  obtain rfl | rfl | rfl | rfl : j = 0 ∨ j = 1 ∨ j = 2 ∨ j = 3 := by omega
  · exact con_none h
  · exact logic_none h2
  · exact neut_none h2
  · exact h3
end
theorem wpList_load7g {w : World} {ops : Array Oper} {rest : List Oper} {op : Oper} {a : Act} {Q : Exit → Act → World → Prop} {g o : Nat} {c0 c1 c2 c3 c4 c5 c6 : Value} (x : Operand) (hop : op.op = Op.load 27 x) (hx : a.eval x = .pointer (some ⟨g, o, none⟩)) (hg : Region.wanted op (yielded ops a.tmps) = true)
    (h : ∀ (j : Nat) (u : Value), [c0, c1, c2, c3, c4, c5, c6][j]? = some u → w.cell? ⟨g, o + j, none⟩ = some u)
    (hK : wpList Try.prog ops Q rest (a.put op.dst (.agg #[c0, c1, c2, c3, c4, c5, c6])) w) : wpList Try.prog ops Q (op :: rest) a w := by
  unfold wpList
  rw [if_pos hg]
  left
  unfold Oper.wp
  simp [execOp, hop, hx, run_load7 h, Result.andThen]
  exact hK
theorem FoldOk.cells {d : Nat} {t : T} {S : Nat → Prop} {base : Nat} {w : World} {e : Ending} {w' : World} (h : FoldOk d t S base w e w') : ∃ (op3 kind3 : Int) (A3 : Option Addr) (c3 : Nat) (args3 : List NodeV) (vk3 : Int) (vb3 : Nat) (pos3 a3 : Int), e = .returned (.agg #[.int .i64 op3, .int .i64 kind3, .slice A3 args3.length c3, .int .i64 vk3, .int .u64 vb3, .int .i64 pos3, .int .i64 a3]) ∧
    treeN d (.mk op3 kind3 A3 c3 args3 vk3 vb3 pos3 a3) = t ∧ okS S d (.mk op3 kind3 A3 c3 args3 vk3 vb3 pos3 a3) w' ∧ Below base w w' := by
  obtain ⟨⟨op3, kind3, A3, c3, args3, vk3, vb3, pos3, a3⟩, h1, h2, h3, h4⟩ := h
  exact ⟨op3, kind3, A3, c3, args3, vk3, vb3, pos3, a3, h1, h2, h3, h4⟩
theorem filter_all {l : List NodeV} : (l.filter isK).length = l.length ↔ l.all isK = true := by
  rw [List.length_filter_eq_length_iff, List.all_eq_true]

set_option maxRecDepth 100000 in
set_option maxHeartbeats 4000000 in
theorem rfold_leaf (d : Nat) (op kind : Int) (A : Option Addr) (c : Nat) (vk : Int) (vb : Nat) (pos a : Int) (TR : T) (S : Nat → Prop) (w : World) (hok : ∀ w', Below w.heap.size w w' → okS S (d + 1) (.mk op kind A c [] vk vb pos a) w') (ht : treeN (d + 1) (.mk op kind A c [] vk vb pos a) = TR) :
    Calls Try.prog 9 #[.agg #[.int .i64 op, .int .i64 kind, .slice A 0 c, .int .i64 vk, .int .u64 vb, .int .i64 pos, .int .i64 a]] w (FoldOk (d + 1) TR S w.heap.size w) := by
  have HOK := Lib.hid hok
  have HT := Lib.hid ht
  have hbe := bel2 w (.cells #[.int .i64 op, .int .i64 kind, .slice A 0 c, .int .i64 vk, .int .u64 vb, .int .i64 pos, .int .i64 a] 27) (.cells #[.int .i64 0, .int .i64 0, .slice none 0 0, .int .i64 0, .int .u64 0, .int .i64 0, .int .i64 0] 27)
  have kn := (Bk.new w 27 #[.int .i64 op, .int .i64 kind, .slice A 0 c, .int .i64 vk, .int .u64 vb, .int .i64 pos, .int .i64 a]).alloc (.cells #[.int .i64 0, .int .i64 0, .slice none 0 0, .int .i64 0, .int .u64 0, .int .i64 0, .int .i64 0] 27)
  have kr := Bk.newAt (w := w.alloc (.cells #[.int .i64 op, .int .i64 kind, .slice A 0 c, .int .i64 vk, .int .u64 vb, .int .i64 pos, .int .i64 a] 27)) (g := w.heap.size + 1) (by simp) 27 #[.int .i64 0, .int .i64 0, .slice none 0 0, .int .i64 0, .int .u64 0, .int .i64 0, .int .i64 0]
  have n2 := kn.cell 2
  simp at n2
  have ka := Lib.hid kn.at7
  clear hok ht
  go_enter Try.func9, Try.ntmps9
  go_wp2_with (first | (refine wpList_load7 rfl _ rfl rfl ka.out ?_) | (refine wpList_put7 rfl _ _ rfl rfl rfl kr rfl ?_; intro w9 p9; replace hbe := p9.below _ _ hbe (by omega); clear kr))
  have k9 := p9.bk
  obtain ⟨d0, d1, d2, d3, d4, d5, d6⟩ := ncells k9
  exact bodyPost_ret (v := .agg #[.int .i64 op, .int .i64 kind, .slice A 0 c, .int .i64 vk, .int .u64 vb, .int .i64 pos, .int .i64 a]) (by simp [results, Try.results9, go_sem, d0, d1, d2, d3, d4, d5, d6]) rfl ⟨.mk op kind A c [] vk vb pos a, rfl, HT.out, HOK.out _ hbe, hbe⟩
def foG13 (op kind : Int) (n m cv cl : Nat) (Av Al : Option Addr) (orb : Bool) (X : V) (w : World) : List Spec := [.is (.slice Al m cl),
  .is (.int .i64 (m : Nat)),
  .is (.slice Av n cv),
  .is (.int .i64 (n : Nat)),
  .is (.bool (((m : Nat) == (n : Nat)))),
  .is (.bool (((m : Nat) == (n : Nat)))),
  .is (bif (true && ((((m : Nat) == (n : Nat))) == true)) then .pointer (some ⟨w.heap.size, 0, none⟩) else undef),
  .is (bif (true && ((((m : Nat) == (n : Nat))) == true)) then .int .i64 op else undef),
  .is (bif (true && ((((m : Nat) == (n : Nat))) == true)) then .bool (decide (1 ≤ op)) else undef),
  .is (.bool ((((m : Nat) == (n : Nat))) && (decide (1 ≤ op)))),
  .is (.bool ((((m : Nat) == (n : Nat))) && (decide (1 ≤ op)))),
  .is (bif (true && (((((m : Nat) == (n : Nat))) && (decide (1 ≤ op))) == true)) then .pointer (some ⟨w.heap.size, 0, none⟩) else undef),
  .is (bif (true && (((((m : Nat) == (n : Nat))) && (decide (1 ≤ op))) == true)) then .int .i64 op else undef),
  .is (bif (true && (((((m : Nat) == (n : Nat))) && (decide (1 ≤ op))) == true)) then .bool (decide (op ≤ 17)) else undef),
  .is (.bool (((((m : Nat) == (n : Nat))) && (decide (1 ≤ op))) && (decide (op ≤ 17))))]
def foG14 (op kind : Int) (n m cv cl : Nat) (Av Al : Option Addr) (orb : Bool) (X : V) (w : World) : List Spec := [.is (.pointer (some ⟨w.heap.size, 1, none⟩)),
  .is (.int .i64 kind),
  .is (.pointer (some ⟨w.heap.size, 0, none⟩)),
  .is (.int .i64 op),
  .is (.slice Al m cl),
  .is (.agg #[.int .i64 X.k, .int .u64 X.b]),
  .is (.agg #[.int .i64 40, .int .i64 kind, .slice none 0 0, .int .i64 X.k, .int .u64 X.b, .int .i64 0, .int .i64 0])]
def foG15 (op kind : Int) (n m cv cl : Nat) (Av Al : Option Addr) (orb : Bool) (X : V) (w : World) : List Spec := [.is (.slice Av n cv),
  .is (.int .i64 (n : Nat)),
  .is (.bool (((n : Nat) == 2))),
  .is (.bool (((n : Nat) == 2))),
  .is (bif (true && ((((n : Nat) == 2)) == true)) then .pointer (some ⟨w.heap.size, 0, none⟩) else undef),
  .is (bif (true && ((((n : Nat) == 2)) == true)) then .int .i64 op else undef),
  .is (bif (true && ((((n : Nat) == 2)) == true)) then .bool ((op == 13)) else undef),
  .is (bif (true && ((((n : Nat) == 2)) == true)) then .bool ((op == 13)) else undef),
  .is (bif ((true && ((((n : Nat) == 2)) == true)) && (((op == 13)) == false)) then .pointer (some ⟨w.heap.size, 0, none⟩) else undef),
  .is (bif ((true && ((((n : Nat) == 2)) == true)) && (((op == 13)) == false)) then .int .i64 op else undef),
  .is (bif ((true && ((((n : Nat) == 2)) == true)) && (((op == 13)) == false)) then .bool ((op == 14)) else undef),
  .is (bif (true && ((((n : Nat) == 2)) == true)) then .bool (((op == 13)) || ((op == 14))) else undef),
  .is (.bool ((((n : Nat) == 2)) && (((op == 13)) || ((op == 14)))))]
def foG18 (op kind : Int) (n m cv cl : Nat) (Av Al : Option Addr) (orb : Bool) (X : V) (w : World) : List Spec := [.is (.pointer (some ⟨w.heap.size, 1, none⟩)),
  .is (.int .i64 kind),
  .is (.bool orb),
  .is (.agg #[.int .i64 2, .int .u64 (orb.toNat : Nat)]),
  .is (.agg #[.int .i64 40, .int .i64 kind, .slice none 0 0, .int .i64 2, .int .u64 (orb.toNat : Nat), .int .i64 0, .int .i64 0])]

set_option maxRecDepth 100000 in
set_option maxHeartbeats 10000000 in
theorem rfold_step (d : Nat) (ih : ∀ (x : NodeV) (w : World) (B : Nat), B ≤ w.heap.size → okS (fun b => b < B) d x w → Calls Try.prog 9 #[x.val] w (FoldOk d (foldT d (treeN d x)) (fun b => b < B ∨ w.heap.size ≤ b) w.heap.size w))
    (op kind : Int) (A : Option Addr) (c : Nat) (args : List NodeV) (vk : Int) (vb : Nat) (pos a : Int) (w : World) (B : Nat) (hB : B ≤ w.heap.size) (hok : okS (fun b => b < B) (d + 1) (.mk op kind A c args vk vb pos a) w) (h0 : args.length ≠ 0) :
    Calls Try.prog 9 #[.agg #[.int .i64 op, .int .i64 kind, .slice A args.length c, .int .i64 vk, .int .u64 vb, .int .i64 pos, .int .i64 a]] w (FoldOk (d + 1) (foldT (d + 1) (treeN (d + 1) (.mk op kind A c args vk vb pos a))) (fun b => b < B ∨ w.heap.size ≤ b) w.heap.size w) := by
  obtain ⟨iN, hN, hN0, hN1, hN2⟩ := info_parts infoN
  obtain ⟨iV, hV, hV0, hV1, hV2⟩ := info_parts infoW
  have HIH := Lib.hid ih
  have HRD := Lib.hid hok.1.rd
  have hl := hok.2.1
  have hvb := hok.2.2.1
  have HARG := Lib.hid hok.2.2.2
  generalize hTR : foldT (d + 1) (treeN (d + 1) (.mk op kind A c args vk vb pos a)) = TR
  have htr : ∀ (Av : Option Addr) (cv : Nat) (l : List NodeV) (r : NodeV) (w5 : World) (B5 : Nat), (∀ x ∈ l, okN d x w5 B5) → (l.map (treeN d) = args.map fun x => foldT d (treeN d x)) → ruleR (.mk op kind Av cv l vk vb pos a) = r → treeN (d + 1) r = TR := fun Av cv l r w5 B5 h1 h2 h3 => by rw [← hTR]; exact node_tree h0 h1 h2 h3
  have HTR := Lib.hid htr
  have hbe0 := bel2 w (.cells #[.int .i64 op, .int .i64 kind, .slice A args.length c, .int .i64 vk, .int .u64 vb, .int .i64 pos, .int .i64 a] 27) (.cells #[.int .i64 0, .int .i64 0, .slice none 0 0, .int .i64 0, .int .u64 0, .int .i64 0, .int .i64 0] 27)
  have kn0 := (Bk.new w 27 #[.int .i64 op, .int .i64 kind, .slice A args.length c, .int .i64 vk, .int .u64 vb, .int .i64 pos, .int .i64 a]).alloc (.cells #[.int .i64 0, .int .i64 0, .slice none 0 0, .int .i64 0, .int .u64 0, .int .i64 0, .int .i64 0] 27)
  have kr0 := Bk.newAt (w := w.alloc (.cells #[.int .i64 op, .int .i64 kind, .slice A args.length c, .int .i64 vk, .int .u64 vb, .int .i64 pos, .int .i64 a] 27)) (g := w.heap.size + 1) (by simp) 27 #[.int .i64 0, .int .i64 0, .slice none 0 0, .int .i64 0, .int .u64 0, .int .i64 0, .int .i64 0]
  have n2 := kn0.cell 2
  simp at n2
  have g0 : ((args.length : Int) == 0) = false := by rw [beq_eq_false_iff_ne]; omega
  clear hok hTR htr ih
  go_enter Try.func9, Try.ntmps9
  go_wp2_with fail
  clear n2
  go_loopw [3, 4, 16] (fun vs ls i wr => ∃ (k : Nat) (Av : Option Addr) (cv : Nat) (Al : Option Addr) (cl : Nat) (l' : List NodeV), k ≤ args.length ∧ i = .int .i64 k ∧ vs = .slice Av k cv ∧ ls = .slice Al (l'.filter isK).length cl ∧ Below w.heap.size w wr ∧ Bk wr w.heap.size 27 #[.int .i64 op, .int .i64 kind, .slice A args.length c, .int .i64 vk, .int .u64 vb, .int .i64 pos, .int .i64 a] ∧ Bk wr (w.heap.size + 1) 27 #[.int .i64 0, .int .i64 0, .slice none 0 0, .int .i64 0, .int .u64 0, .int .i64 0, .int .i64 0] ∧ l'.length = k ∧
      Hid (l'.map (treeN d) = (args.take k).map fun x => foldT d (treeN d x)) ∧ wr.ownsRow (w.heap.size + 2) 27 7 vs k (l'.flatMap NodeV.cells) ∧ wr.ownsRow (w.heap.size + 2) 33 2 ls (l'.filter isK).length (((l'.filter isK).map valK).flatMap V.cells) ∧
      Hid (∀ y ∈ l', okS (fun b => ((b < B ∨ w.heap.size + 2 ≤ b) ∧ some b ≠ vs.ownBlock) ∧ some b ≠ ls.ownBlock) d y wr)) (fun _ _ i _ => args.length - (intOf i).toNat)
  case atStart => exact ⟨0, none, 0, none, 0, [], Nat.zero_le _, rfl, rfl, rfl, hbe0, kn0, kr0, rfl, Lib.hid (by simp), World.ownsRow_nil _ _ _ _, World.ownsRow_nil _ _ _ _, Lib.hid (by simp)⟩
  case round =>
    rename World => wl
    clear hbe0 kn0 kr0
    obtain ⟨k, Av, cv, Al, cl, l', hk, rfl, rfl, rfl, hbel, kn, kr, hl', hmap, hown, howl, hoks⟩ := hrel
    have hz := kr.lt
    have hfl : (l'.filter isK).length ≤ l'.length := List.length_filter_le _ _
    by_cases hlt : k < args.length
    · as_aux_lemma =>
      obtain ⟨b, o, rfl, hb, hc⟩ := (HRD.out.below hbel).elem (f := NodeV.cells) (n := 7) NodeV.len (by omega) hlt
      have hx := HARG.out args[k] (by simp)
      have hnext : (args.take (k + 1)).map (fun x => foldT d (treeN d x)) = (args.take k).map (fun x => foldT d (treeN d x)) ++ [foldT d (treeN d args[k])] := by
        rw [List.take_succ_eq_append_getElem hlt, List.map_append]; rfl
      generalize args[k] = x at *
      obtain ⟨op2, kind2, A2, c2, args2, vk2, vb2, pos2, a2⟩ := x
      have HNX := Lib.hid hnext
      have hc' : ∀ (j : Nat) (u : Value), [.int .i64 op2, .int .i64 kind2, .slice A2 args2.length c2, .int .i64 vk2, .int .u64 vb2, .int .i64 pos2, .int .i64 a2][j]? = some u → wl.cell? ⟨b, o + k * 7 + j, none⟩ = some u := hc
      have HC := Lib.hid hc'
      have hrec := HIH.out (.mk op2 kind2 A2 c2 args2 vk2 vb2 pos2 a2) wl B (by omega) (okS.keep (fun b h1 h2 => ⟨h1, by have := hbel.size; omega, hbel.block b h2⟩) hx)
      have HREC := Lib.hid hrec
      have n2 : wl.cell? ⟨w.heap.size, 2, none⟩ = some (.slice (some ⟨b, o, none⟩) args.length c) := kn.cell 2
      clear hrec hx hc hc' hnext HIH
      go_wp2_with (first | (refine wpList_load7 rfl _ rfl rfl HC.out ?_))
      refine HREC.out.mono ?_
      intro e w1 hfo
      obtain ⟨op3, kind3, A3, c3, args3, vk3, vb3, pos3, a3, rfl, htree, hok3, hb1⟩ := hfo.cells
      clear hfo
      have hown1 : w1.ownsRow (w.heap.size + 2) 27 7 (.slice Av k cv) k (l'.flatMap NodeV.cells) := own_below hown hb1 (fun q hq => (hown.lt q hq).2)
      have howl1 : w1.ownsRow (w.heap.size + 2) 33 2 (.slice Al (l'.filter isK).length cl) (l'.filter isK).length (((l'.filter isK).map valK).flatMap V.cells) := own_below howl hb1 (fun q hq => (howl.lt q hq).2)
      have hbel1 : Below w.heap.size w w1 := hbel.trans (hb1.mono (by omega))
      replace kn := kn.below hb1 (by omega)
      replace kr := kr.below hb1 (by omega)
      have hz1 : wl.heap.size ≤ w1.heap.size := hb1.size
      have hq : ∀ q, (Value.slice Av k cv).ownBlock = some q → w.heap.size + 2 ≤ q ∧ q < wl.heap.size := fun q h => hown.lt q h
      have hql : ∀ q, (Value.slice Al (l'.filter isK).length cl).ownBlock = some q → w.heap.size + 2 ≤ q ∧ q < wl.heap.size := fun q h => howl.lt q h
      have kx := Bk.new w1 27 #[.int .i64 op3, .int .i64 kind3, .slice A3 args3.length c3, .int .i64 vk3, .int .u64 vb3, .int .i64 pos3, .int .i64 a3]
      have ka := Lib.hid kx.at7
      have hvb3 := okS.n hok3
      clear HREC HC hown howl n2
      go_wp2_with (first
        | (refine wpList_load7 rfl _ rfl rfl ka.out ?_)
        | (refine wpList_bs_node (by rfl) (.tmp 26) (by rfl) (by rfl) ?_)
        | (at_builtin; refine wpList_append_rd rfl _ _ 22 rfl (w.heap.size + 2) 27 iN _ 7 72 Try.underlying22 hN hN0 hN1 hN2 rfl (by decide) (.slice Av k cv) k _ rfl ((hown1.alloc _).alloc _) ((w1.alloc (.cells #[.int .i64 op3, .int .i64 kind3, .slice A3 args3.length c3, .int .i64 vk3, .int .u64 vb3, .int .i64 pos3, .int .i64 a3] 27)).heap.size + 1) (some ⟨(w1.alloc (.cells #[.int .i64 op3, .int .i64 kind3, .slice A3 args3.length c3, .int .i64 vk3, .int .u64 vb3, .int .i64 pos3, .int .i64 a3] 27)).heap.size, 0, none⟩) 1 1 (NodeV.mk op3 kind3 A3 c3 args3 vk3 vb3 pos3 a3).cells rfl ?c1 rfl ?c2 ?c3 ?c4 ?c5 ?_))
      case c1 => exact Rd.lit (by simp) _ _
      case c2 => intro u hu; simp [NodeV.cells] at hu; rcases hu with rfl | rfl | rfl | rfl | rfl | rfl | rfl <;> rfl
      case c3 => unfold maxLen; omega
      case c4 => omega
      case c5 => simp; omega
      intro A9 c9 w9 hown9 hg hwhich
      have hs2 : ((w1.alloc (.cells #[.int .i64 op3, .int .i64 kind3, .slice A3 args3.length c3, .int .i64 vk3, .int .u64 vb3, .int .i64 pos3, .int .i64 a3] 27)).alloc (.cells #[.int .i64 op3, .int .i64 kind3, .slice A3 args3.length c3, .int .i64 vk3, .int .u64 vb3, .int .i64 pos3, .int .i64 a3] 27)).heap.size = w1.heap.size + 1 + 1 := by simp
      have hkeep : ∀ b : Nat, b < w1.heap.size → some b ≠ (Value.slice Av k cv).ownBlock → b < w9.heap.size ∧ w9.heap[b]? = w1.heap[b]? := by
        intro b h1 h3
        refine ⟨by have := hg.size; omega, ?_⟩
        rw [hg.block b (by omega) h3, Below.heap_alloc _ _ b (by simp; omega), Below.heap_alloc _ _ b h1]
      have hnew : ∀ b : Nat, b < w1.heap.size → some b ≠ (Value.slice Av k cv).ownBlock → some b ≠ (Value.slice A9 (k + 1) c9).ownBlock := by
        intro b h1 h2
        rcases hwhich with h | h
        · rw [h]; exact h2
        · rw [h]; intro he; injection he with he; omega
      have hoks9 : ∀ y ∈ l' ++ [NodeV.mk op3 kind3 A3 c3 args3 vk3 vb3 pos3 a3], okS (fun b => (((b < B ∨ w.heap.size + 2 ≤ b) ∧ some b ≠ (Value.slice A9 (k + 1) c9).ownBlock) ∧ some b ≠ (Value.slice Al (l'.filter isK).length cl).ownBlock) ∧ b < w1.heap.size) d y w9 := by
        intro y hy
        rcases List.mem_append.1 hy with hy | hy
        · refine okS.keep (fun b h1 h2 => ?_) (hoks.out y hy)
          obtain ⟨k1, k2⟩ := hkeep b (by omega) h1.1.2
          exact ⟨⟨⟨⟨h1.1.1, hnew b (by omega) h1.1.2⟩, h1.2⟩, by omega⟩, k1, by rw [k2, hb1.block b h2]⟩
        · simp only [List.mem_cons, List.not_mem_nil, or_false] at hy
          subst hy
          refine okS.keep (fun b h1 h2 => ?_) hok3
          have hne : some b ≠ (Value.slice Av k cv).ownBlock := fun h => by have := hq b h.symm; omega
          have hne2 : some b ≠ (Value.slice Al (l'.filter isK).length cl).ownBlock := fun h => by have := hql b h.symm; omega
          obtain ⟨k1, k2⟩ := hkeep b h2 hne
          exact ⟨⟨⟨⟨by omega, hnew b h2 hne⟩, hne2⟩, h2⟩, k1, k2⟩
      have hmap9 : (l' ++ [NodeV.mk op3 kind3 A3 c3 args3 vk3 vb3 pos3 a3]).map (treeN d) = (args.take (k + 1)).map fun x => foldT d (treeN d x) := by
        rw [List.map_append, HNX.out, hmap.out, ← htree]; rfl
      have kn9 : Bk w9 w.heap.size 27 #[.int .i64 op, .int .i64 kind, .slice (some ⟨b, o, none⟩) args.length c, .int .i64 vk, .int .u64 vb, .int .i64 pos, .int .i64 a] := (hkeep _ kn.lt fun h => by have := hq _ h.symm; omega).2.trans kn
      have kr9 : Bk w9 (w.heap.size + 1) 27 #[.int .i64 0, .int .i64 0, .slice none 0 0, .int .i64 0, .int .u64 0, .int .i64 0, .int .i64 0] := (hkeep _ kr.lt fun h => by have := hq _ h.symm; omega).2.trans kr
      have kx9 : Bk w9 w1.heap.size 27 #[.int .i64 op3, .int .i64 kind3, .slice A3 args3.length c3, .int .i64 vk3, .int .u64 vb3, .int .i64 pos3, .int .i64 a3] := (kx.alloc (.cells #[.int .i64 op3, .int .i64 kind3, .slice A3 args3.length c3, .int .i64 vk3, .int .u64 vb3, .int .i64 pos3, .int .i64 a3] 27)).grown hg (fun h => by have := hq _ h.symm; omega)
      have hbel9 : Below w.heap.size w w9 := below_own ((hbel1.alloc (by omega) _).alloc (by simp; omega) _) ((hown1.alloc _).alloc _) (by omega) hg (by simp; omega)
      have hown10 : w9.ownsRow (w.heap.size + 2) 27 7 (.slice A9 (k + 1) c9) (k + 1) ((l' ++ [NodeV.mk op3 kind3 A3 c3 args3 vk3 vb3 pos3 a3]).flatMap NodeV.cells) := by
        rw [List.flatMap_append]
        simpa using hown9
      have howl10 := own_keep ((howl1.alloc (.cells #[.int .i64 op3, .int .i64 kind3, .slice A3 args3.length c3, .int .i64 vk3, .int .u64 vb3, .int .i64 pos3, .int .i64 a3] 27)).alloc (.cells #[.int .i64 op3, .int .i64 kind3, .slice A3 args3.length c3, .int .i64 vk3, .int .u64 vb3, .int .i64 pos3, .int .i64 a3] 27)) ((hown1.alloc (.cells #[.int .i64 op3, .int .i64 kind3, .slice A3 args3.length c3, .int .i64 vk3, .int .u64 vb3, .int .i64 pos3, .int .i64 a3] 27)).alloc (.cells #[.int .i64 op3, .int .i64 kind3, .slice A3 args3.length c3, .int .i64 vk3, .int .u64 vb3, .int .i64 pos3, .int .i64 a3] 27)) (by decide) hg
      have hz9 : w1.heap.size + 1 + 1 ≤ w9.heap.size := by have := hg.size; omega
      have HM := Lib.hid hmap9
      have HO := Lib.hid hoks9
      have hlen9 : (l' ++ [NodeV.mk op3 kind3 A3 c3 args3 vk3 vb3 pos3 a3]).length = k + 1 := by simp; omega
      have hfil : (l' ++ [NodeV.mk op3 kind3 A3 c3 args3 vk3 vb3 pos3 a3]).filter isK = l'.filter isK ++ (if op3 = 40 then [NodeV.mk op3 kind3 A3 c3 args3 vk3 vb3 pos3 a3] else []) := by
        rw [List.filter_append]
        congr 1
        by_cases h : op3 = 40 <;> simp [isK, h]
      have HFIL := Lib.hid hfil
      clear hmap9 hoks9 hnew hkeep hwhich hg hown9 hown1 howl1 htree hok3 hbel1 hb1 hs2 kn kr hmap hoks HNX hq hbel kx ka hfil
      obtain ⟨x0, x1, x2, x3, x4, x5, x6⟩ := ncells kx9
      by_cases h40 : op3 = 40
      · as_aux_lemma =>
        subst h40
        rw [if_pos rfl] at HFIL
        generalize hlk : l' ++ [NodeV.mk 40 kind3 A3 c3 args3 vk3 vb3 pos3 a3] = l9 at *
        generalize hmm : (l'.filter isK).length = m at *
        have hlen : (l9.filter isK).length = m + 1 := by rw [HFIL.out, List.length_append, hmm]; rfl
        have hql9 : ∀ q, (Value.slice Al m cl).ownBlock = some q → w.heap.size + 2 ≤ q ∧ q < w9.heap.size := fun q h => howl10.lt q h
        clear hlk hmm
        go_wp2_with (first | (at_builtin; refine wpList_append_rd rfl _ _ 44 rfl (w.heap.size + 2) 33 iV _ 2 16 Try.underlying44 hV hV0 hV1 hV2 rfl (by decide) (.slice Al m cl) m _ rfl (howl10.alloc _) (w9.heap.size + 1) (some ⟨w9.heap.size, 0, none⟩) 1 1 [.int .i64 vk3, .int .u64 vb3] rfl (Rd.lit (by simp) _ _) rfl ?c2 ?c3 ?c4 ?c5 ?_))
        case c2 => intro u hu; simp at hu; rcases hu with rfl | rfl <;> rfl
        case c3 => unfold maxLen; omega
        case c4 => omega
        case c5 => simp; omega
        intro A7 c7 w7 hown7 hg hwhich
        have kn7 := (kn9.alloc _).grown hg (fun h => own_ne_bk howl10 kn9 (by decide) h)
        have kr7 := (kr9.alloc _).grown hg (fun h => own_ne_bk howl10 kr9 (by decide) h)
        have hbel7 : Below w.heap.size w w7 := below_own (hbel9.alloc (by omega) _) (howl10.alloc _) (by omega) hg (by simp; omega)
        have hown11 := own_keep (hown10.alloc (.cells #[.int .i64 vk3, .int .u64 vb3] 33)) (howl10.alloc (.cells #[.int .i64 vk3, .int .u64 vb3] 33)) (by decide) hg
        have hs2 : (w9.alloc (.cells #[.int .i64 vk3, .int .u64 vb3] 33)).heap.size = w9.heap.size + 1 := by simp
        have hoks7 : ∀ y ∈ l9, okS (fun b => ((b < B ∨ w.heap.size + 2 ≤ b) ∧ some b ≠ (Value.slice A9 (k + 1) c9).ownBlock) ∧ some b ≠ (Value.slice A7 (m + 1) c7).ownBlock) d y w7 := by
          intro y hy
          refine okS.keep (fun b h1 h2 => ⟨⟨h1.1.1, ?_⟩, by have := hg.size; omega, ?_⟩) (HO.out y hy)
          · rw [hg.block b (by omega) h1.1.2, Below.heap_alloc _ _ b h2]
          · rcases hwhich with h | h
            · rw [h]; exact h1.1.2
            · rw [h]; intro he; injection he with he; omega
        have hvals : ((l9.filter isK).map valK).flatMap V.cells = ((l'.filter isK).map valK).flatMap V.cells ++ [.int .i64 vk3, .int .u64 vb3] := by
          rw [HFIL.out, List.map_append, List.flatMap_append]; rfl
        rw [← hvals] at hown7
        have HO7 := Lib.hid hoks7
        clear hoks7 hwhich hg hown10 howl10 kn9 kr9 kx9 HO hbel9 hvals HFIL hvb3 hql hql9 hs2 x0 x1 x2 x3 x4 x5 x6
        go_wp2
        go_roundw
        case rel => exact ⟨k + 1, A9, c9, A7, c7, l9, by omega, by go_num, rfl, by rw [hlen], hbel7, kn7, kr7, hlen9, HM, hown11, by rw [hlen]; exact hown7, HO7⟩
        case measure => simp [intOf]; omega
      · as_aux_lemma =>
        have g40 : (op3 == 40) = false := by rw [beq_eq_false_iff_ne]; exact h40
        rw [if_neg h40, List.append_nil] at HFIL
        generalize l' ++ [NodeV.mk op3 kind3 A3 c3 args3 vk3 vb3 pos3 a3] = l9 at *
        have HO9 : Hid (∀ y ∈ l9, okS (fun b => ((b < B ∨ w.heap.size + 2 ≤ b) ∧ some b ≠ (Value.slice A9 (k + 1) c9).ownBlock) ∧ some b ≠ (Value.slice Al (l'.filter isK).length cl).ownBlock) d y w9) := Lib.hid fun y hy => (HO.out y hy).mono fun b h => h.1
        clear HO x1 x2 x3 x4 x5 x6 hvb3 hql
        go_wp2_with fail
        go_roundw
        case rel => exact ⟨k + 1, A9, c9, Al, cl, l9, by omega, by go_num, rfl, by rw [HFIL.out], hbel9, kn9, kr9, hlen9, HM, hown10, by rw [HFIL.out]; exact howl10, HO9⟩
        case measure => simp [intOf]; omega
    · as_aux_lemma =>
      obtain rfl : k = args.length := by omega
      have nok : okS (fun b => b < B ∨ w.heap.size + 2 ≤ b) (d + 1) (.mk op kind Av cv l' vk vb pos a) wl := by
        refine ⟨?_, by omega, hvb, fun y hy => (hoks.out y hy).mono fun b h => h.1.1⟩
        exact (own_rdS hown).keep fun b h1 h2 => ⟨.inr h1, h2, rfl⟩
      have hres : ∀ r, ruleR (.mk op kind Av cv l' vk vb pos a) = r → treeN (d + 1) r = TR ∧ okS (fun b => b < B ∨ w.heap.size + 2 ≤ b) (d + 1) r wl := fun r hr => ⟨HTR.out Av cv l' r wl wl.heap.size (fun x hx => (nok.2.2.2 x hx).n) (by rw [hmap.out, List.take_length]) hr, by rw [← hr]; exact ruleR_ok nok⟩
      have HRES := Lib.hid hres
      have HNOK := Lib.hid nok
      generalize hX : applyV op ((l'.filter isK).map valK) = X
      have hap : ∀ w', Below wl.heap.size wl w' → Calls Try.prog 18 #[.int .i64 op, .slice Al (l'.filter isK).length cl] w' fun e w2 => e = .returned (.agg #[.int .i64 X.k, .int .u64 X.b]) ∧ Below w'.heap.size w' w2 := by
        intro w' hw
        have := rapply_any op ((l'.filter isK).map valK) Al cl w' (own_rd (own_old howl hw)) (by
          intro y hy
          obtain ⟨q, hq, rfl⟩ := List.mem_map.1 hy
          exact valK_fits (nok.2.2.2 q (List.mem_filter.1 hq).1).n) (by rw [List.length_map]; omega)
        rw [hX, List.length_map] at this
        exact this
      have HAP := Lib.hid hap
      have HRW := Lib.hid (own_rd hown)
      have HX := Lib.hid hX
      clear nok hres hap hX hoks hown howl hmap HTR HIH HRD HARG
      have hfa := filter_all (l := l')
      generalize (l'.filter isK).length = m at *
      generalize args.length = n at *
      have hv : Below wl.heap.size wl wl := Below.refl _ _
      have n0 : wl.cell? ⟨w.heap.size, 0, none⟩ = some (.int .i64 op) := kn.cell 0
      go_upto_region 13 with fail
      refine wp_region_s (fun qk => (foG13 op kind n m cv cl Av Al false X w).getD qk .any) (by kernel_rfl) ?_ ?_
      · refine BOk.cons rfl [] [4] rfl rfl (by kernel_rfl) (by kernel_rfl) (fun qK qa wr hB qO qF hK => ?_) ?_
        · have e4 : qa.tmps[4]? = some (.slice Al m cl) := qO.1.trans rfl
          clear qO qF
          go_simp
          exact hK _ _ (Below.refl _ _) rfl
        refine BOk.cons rfl [0] [] rfl rfl (by kernel_rfl) (by kernel_rfl) (fun qK qa wr hB qO qF hK => ?_) ?_
        · have e38 : qa.tmps[38]? = some (.slice Al m cl) := fis qF.1 rfl rfl
          clear qO qF
          go_simp
          exact hK _ _ (Below.refl _ _) rfl
        refine BOk.cons rfl [] [3] rfl rfl (by kernel_rfl) (by kernel_rfl) (fun qK qa wr hB qO qF hK => ?_) ?_
        · have e3 : qa.tmps[3]? = some (.slice Av n cv) := qO.1.trans rfl
          clear qO qF
          go_simp
          exact hK _ _ (Below.refl _ _) rfl
        refine BOk.cons rfl [2] [] rfl rfl (by kernel_rfl) (by kernel_rfl) (fun qK qa wr hB qO qF hK => ?_) ?_
        · have e40 : qa.tmps[40]? = some (.slice Av n cv) := fis qF.1 rfl rfl
          clear qO qF
          go_simp
          exact hK _ _ (Below.refl _ _) rfl
        refine BOk.cons rfl [1, 3] [] rfl rfl (by kernel_rfl) (by kernel_rfl) (fun qK qa wr hB qO qF hK => ?_) ?_
        · have e39 : qa.tmps[39]? = some (.int .i64 (m : Nat)) := fis qF.1 rfl rfl
          have e41 : qa.tmps[41]? = some (.int .i64 (n : Nat)) := fis qF.2.1 rfl rfl
          clear qO qF
          go_simp
          refine hK _ _ (Below.refl _ _) ?_
          show (_ : Value) = _
          first | rfl | (simp; done) | (simp; omega) | (congr 1; simp; done) | (congr 1; rw [decide_eq_decide]; omega) | exact congrArg Value.bool (nat_bne _ _) | exact congrArg Value.bool (nat_beq _ _)
        refine BOk.cons rfl [4] [] rfl rfl (by kernel_rfl) (by kernel_rfl) (fun qK qa wr hB qO qF hK => ?_) ?_
        · have e42 : qa.tmps[42]? = some (.bool (((m : Nat) == (n : Nat)))) := fis qF.1 rfl rfl
          clear qO qF
          go_simp
          exact hK _ _ (Below.refl _ _) (by first | rfl | (show (_ : Value) = _; simp_all; done))
        refine BOk.optT rfl [] [1] rfl 5 true rfl rfl rfl rfl (by kernel_rfl) (by kernel_rfl) (by kernel_rfl) (fun hp hc hP qK qa wr hB qO qF hK => ?_) ?_
        · have e1 : qa.tmps[1]? = some (.pointer (some ⟨w.heap.size, 0, none⟩)) := qO.1.trans rfl
          clear qO qF
          go_simp
          exact hK _ _ (Below.refl _ _) rfl
        refine BOk.optT rfl [6] [] rfl 5 true rfl rfl rfl rfl (by kernel_rfl) (by kernel_rfl) (by kernel_rfl) (fun hp hc hP qK qa wr hB qO qF hK => ?_) ?_
        · have e44 : qa.tmps[44]? = some (.pointer (some ⟨w.heap.size, 0, none⟩)) := fif qF.1 rfl hP rfl
          clear qO qF
          have hn0 := (bcell hB _ _ (World.block_lt_of_cell? _ _ n0)).trans n0
          go_simp
          exact hK _ _ (Below.refl _ _) rfl
        refine BOk.optT rfl [7] [] rfl 5 true rfl rfl rfl rfl (by kernel_rfl) (by kernel_rfl) (by kernel_rfl) (fun hp hc hP qK qa wr hB qO qF hK => ?_) ?_
        · have e45 : qa.tmps[45]? = some (.int .i64 op) := fif qF.1 rfl hP rfl
          clear qO qF
          go_simp
          refine hK _ _ (Below.refl _ _) ?_
          show (_ : Value) = _
          first | rfl | (simp; done) | (simp; omega) | (congr 1; simp; done) | (congr 1; rw [decide_eq_decide]; omega) | exact congrArg Value.bool (nat_bne _ _) | exact congrArg Value.bool (nat_beq _ _)
        refine BOk.cons rfl [5, 8] [] rfl rfl (by kernel_rfl) (by kernel_rfl) (fun qK qa wr hB qO qF hK => ?_) ?_
        · have e43 : qa.tmps[43]? = some (.bool (((m : Nat) == (n : Nat)))) := fis qF.1 rfl rfl
          obtain ⟨u46, e46, r8⟩ := qF.2.1
          have r8 : u46 = (bif (true && ((((m : Nat) == (n : Nat))) == true)) then .bool (decide (1 ≤ op)) else undef) := r8
          clear qO qF
          rcases (Bool.eq_false_or_eq_true ((((m : Nat) == (n : Nat))))).symm with hcc | hcc
          · rw [hcc] at e43
            go_simp
            exact hK _ _ (Below.refl _ _) (by show (_ : Value) = _; first | (rw [hcc]; first | rfl | (simp; done)) | (simp_all; done))
          · rw [hcc] at e43
            have e46 : qa.tmps[46]? = some (.bool ((decide (1 ≤ op)))) := (show u46 = .bool ((decide (1 ≤ op))) from r8.trans (by (first | rw [hcc] | skip); first | rfl | (rw [hP]; rfl))) ▸ e46
            go_simp
            exact hK _ _ (Below.refl _ _) (by show (_ : Value) = _; first | (rw [hcc]; first | rfl | (simp; done)) | (simp_all; done))
        refine BOk.cons rfl [9] [] rfl rfl (by kernel_rfl) (by kernel_rfl) (fun qK qa wr hB qO qF hK => ?_) ?_
        · have e47 : qa.tmps[47]? = some (.bool ((((m : Nat) == (n : Nat))) && (decide (1 ≤ op)))) := fis qF.1 rfl rfl
          clear qO qF
          go_simp
          exact hK _ _ (Below.refl _ _) (by first | rfl | (show (_ : Value) = _; simp_all; done))
        refine BOk.optT rfl [] [1] rfl 10 true rfl rfl rfl rfl (by kernel_rfl) (by kernel_rfl) (by kernel_rfl) (fun hp hc hP qK qa wr hB qO qF hK => ?_) ?_
        · have e1 : qa.tmps[1]? = some (.pointer (some ⟨w.heap.size, 0, none⟩)) := qO.1.trans rfl
          clear qO qF
          go_simp
          exact hK _ _ (Below.refl _ _) rfl
        refine BOk.optT rfl [11] [] rfl 10 true rfl rfl rfl rfl (by kernel_rfl) (by kernel_rfl) (by kernel_rfl) (fun hp hc hP qK qa wr hB qO qF hK => ?_) ?_
        · have e49 : qa.tmps[49]? = some (.pointer (some ⟨w.heap.size, 0, none⟩)) := fif qF.1 rfl hP rfl
          clear qO qF
          have hn0 := (bcell hB _ _ (World.block_lt_of_cell? _ _ n0)).trans n0
          go_simp
          exact hK _ _ (Below.refl _ _) rfl
        refine BOk.optT rfl [12] [] rfl 10 true rfl rfl rfl rfl (by kernel_rfl) (by kernel_rfl) (by kernel_rfl) (fun hp hc hP qK qa wr hB qO qF hK => ?_) ?_
        · have e50 : qa.tmps[50]? = some (.int .i64 op) := fif qF.1 rfl hP rfl
          clear qO qF
          go_simp
          refine hK _ _ (Below.refl _ _) ?_
          show (_ : Value) = _
          first | rfl | (simp; done) | (simp; omega) | (congr 1; simp; done) | (congr 1; rw [decide_eq_decide]; omega) | exact congrArg Value.bool (nat_bne _ _) | exact congrArg Value.bool (nat_beq _ _)
        refine BOk.cons rfl [10, 13] [] rfl rfl (by kernel_rfl) (by kernel_rfl) (fun qK qa wr hB qO qF hK => ?_) ?_
        · have e48 : qa.tmps[48]? = some (.bool ((((m : Nat) == (n : Nat))) && (decide (1 ≤ op)))) := fis qF.1 rfl rfl
          obtain ⟨u51, e51, r13⟩ := qF.2.1
          have r13 : u51 = (bif (true && (((((m : Nat) == (n : Nat))) && (decide (1 ≤ op))) == true)) then .bool (decide (op ≤ 17)) else undef) := r13
          clear qO qF
          rcases (Bool.eq_false_or_eq_true (((((m : Nat) == (n : Nat))) && (decide (1 ≤ op))))).symm with hcc | hcc
          · rw [hcc] at e48
            go_simp
            exact hK _ _ (Below.refl _ _) (by show (_ : Value) = _; first | (rw [hcc]; first | rfl | (simp; done)) | (simp_all; done))
          · rw [hcc] at e48
            have e51 : qa.tmps[51]? = some (.bool ((decide (op ≤ 17)))) := (show u51 = .bool ((decide (op ≤ 17))) from r13.trans (by (first | rw [hcc] | skip); first | rfl | (rw [hP]; rfl))) ▸ e51
            go_simp
            exact hK _ _ (Below.refl _ _) (by show (_ : Value) = _; first | (rw [hcc]; first | rfl | (simp; done)) | (simp_all; done))
        exact BOk.nil
      intro vals wr hl hB hR
      match vals, hl with
      | [u38, u39, u40, u41, u42, u43, u44, u45, u46, u47, u48, u49, u50, u51, u52], _ =>
      have r14 : u52 = .bool (((((m : Nat) == (n : Nat))) && (decide (1 ≤ op))) && (decide (op ≤ 17))) := hR 14 _ rfl
      subst r14
      clear hR
      simp only [List.cons_append, List.nil_append, putAll, Act.put, List.setIfInBounds_toArray, List.set_cons_zero, List.set_cons_succ]
      rename World => wA
      replace hv := hv.trans (hB.mono hv.size)
      replace kn := kn.old hv
      replace kr := kr.old hv
      clear hB n0
      have n0 : wA.cell? ⟨w.heap.size, 0, none⟩ = some (.int .i64 op) := kn.cell 0
      have n1 : wA.cell? ⟨w.heap.size, 1, none⟩ = some (.int .i64 kind) := kn.cell 1
      by_cases h13 : (((((m : Nat) == (n : Nat))) && (decide (1 ≤ op))) && (decide (op ≤ 17))) = true
      · as_aux_lemma =>
        rw [h13]
        simp only [Bool.and_eq_true, beq_iff_eq, decide_eq_true_eq] at h13
        have hall : l'.all isK = true := hfa.1 (by omega)
        have hrr : ruleR (.mk op kind Av cv l' vk vb pos a) = .mk 40 kind none 0 [] X.k X.b 0 0 := by
          rw [con_at ⟨hall, h13.1.2, h13.2⟩, ← HX.out, List.filter_eq_self.2 (List.all_eq_true.1 hall)]
          rfl
        have HRR := Lib.hid hrr
        clear hrr hall hfa HX h13
        go_upto_region 14 with fail
        refine wp_region_t 7 (fun k => false) (by kernel_rfl) (fun qk => (foG14 op kind n m cv cl Av Al false X w).getD qk .any) (by kernel_rfl) ?_ ?_
        · refine BOk.cons rfl [] [1] rfl rfl (by kernel_rfl) (by kernel_rfl) (fun qK qa wr hB qO qF hK => ?_) ?_
          · have e1 : qa.tmps[1]? = some (.pointer (some ⟨w.heap.size, 0, none⟩)) := qO.1.trans rfl
            clear qO qF
            go_simp
            exact hK _ _ (Below.refl _ _) rfl
          refine BOk.cons rfl [0] [] rfl rfl (by kernel_rfl) (by kernel_rfl) (fun qK qa wr hB qO qF hK => ?_) ?_
          · have e53 : qa.tmps[53]? = some (.pointer (some ⟨w.heap.size, 1, none⟩)) := fis qF.1 rfl rfl
            clear qO qF
            have hn1 := (bcell hB _ _ (World.block_lt_of_cell? _ _ n1)).trans n1
            go_simp
            exact hK _ _ (Below.refl _ _) rfl
          refine BOk.cons rfl [] [1] rfl rfl (by kernel_rfl) (by kernel_rfl) (fun qK qa wr hB qO qF hK => ?_) ?_
          · have e1 : qa.tmps[1]? = some (.pointer (some ⟨w.heap.size, 0, none⟩)) := qO.1.trans rfl
            clear qO qF
            go_simp
            exact hK _ _ (Below.refl _ _) rfl
          refine BOk.cons rfl [2] [] rfl rfl (by kernel_rfl) (by kernel_rfl) (fun qK qa wr hB qO qF hK => ?_) ?_
          · have e55 : qa.tmps[55]? = some (.pointer (some ⟨w.heap.size, 0, none⟩)) := fis qF.1 rfl rfl
            clear qO qF
            have hn0 := (bcell hB _ _ (World.block_lt_of_cell? _ _ n0)).trans n0
            go_simp
            exact hK _ _ (Below.refl _ _) rfl
          refine BOk.cons rfl [] [4] rfl rfl (by kernel_rfl) (by kernel_rfl) (fun qK qa wr hB qO qF hK => ?_) ?_
          · have e4 : qa.tmps[4]? = some (.slice Al m cl) := qO.1.trans rfl
            clear qO qF
            go_simp
            exact hK _ _ (Below.refl _ _) rfl
          refine BOk.cons rfl [3, 4] [] rfl rfl (by kernel_rfl) (by kernel_rfl) (fun qK qa wr hB qO qF hK => ?_) ?_
          · have e56 : qa.tmps[56]? = some (.int .i64 op) := fis qF.1 rfl rfl
            have e57 : qa.tmps[57]? = some (.slice Al m cl) := fis qF.2.1 rfl rfl
            clear qO qF
            go_simp
            go_at_call 18
            refine (HAP.out _ (hv.trans (hB.mono hv.size))).mono ?_
            rintro e w2 ⟨rfl, hb2⟩
            exact hK _ _ hb2 rfl
          refine BOk.cons rfl [1, 5] [] rfl rfl (by kernel_rfl) (by kernel_rfl) (fun qK qa wr hB qO qF hK => ?_) ?_
          · have e54 : qa.tmps[54]? = some (.int .i64 kind) := fis qF.1 rfl rfl
            have e58 : qa.tmps[58]? = some (.agg #[.int .i64 X.k, .int .u64 X.b]) := fis qF.2.1 rfl rfl
            clear qO qF
            go_simp
            refine hK _ _ (Below.refl _ _) ?_
            show (_ : Value) = _
            first | rfl | (simp; done) | (simp; omega)
          exact BOk.nil
        intro vals wr hl hB hR hS
        match vals, hl with
        | [z53, z54, z55, z56, z57, z58, z59], _ =>
        have r6 : z59 = .agg #[.int .i64 40, .int .i64 kind, .slice none 0 0, .int .i64 X.k, .int .u64 X.b, .int .i64 0, .int .i64 0] := hR 6 _ rfl
        subst r6
        clear hS
        clear hR
        simp only [List.take_succ_cons, List.take_zero, List.drop_succ_cons, List.drop_zero, List.toList_toArray, List.cons_append, List.nil_append, putAll, Act.put, List.setIfInBounds_toArray, List.set_cons_zero, List.set_cons_succ]
        replace hv := hv.trans (hB.mono hv.size)
        replace kr := kr.old hB
        clear hB n0 n1 kn HAP
        go_wp2_with (refine wpList_put7 rfl _ _ rfl rfl rfl kr rfl ?_; intro w9 p9)
        have hb9 := p9.below _ _ (hbel.trans (hv.mono (by omega))) (by omega)
        obtain ⟨d0, d1, d2, d3, d4, d5, d6⟩ := ncells p9.bk
        have hres := HRES.out (.mk 40 kind none 0 [] X.k X.b 0 0) (HRR.out)
        have hz9 := p9.size
        exact bodyPost_ret (v := .agg #[.int .i64 40, .int .i64 kind, .slice none 0 0, .int .i64 X.k, .int .u64 X.b, .int .i64 0, .int .i64 0]) (by simp [results, Try.results9, go_sem, d0, d1, d2, d3, d4, d5, d6]) rfl ⟨.mk 40 kind none 0 [] X.k X.b 0 0, rfl, hres.1, okS.keep (fun b h1 h2 => ⟨by omega, by have := hv.size; omega, (p9.other b (by omega)).trans (hv.block b h2)⟩) hres.2, hb9⟩
      · have h13' : (((((m : Nat) == (n : Nat))) && (decide (1 ≤ op))) && (decide (op ≤ 17))) = false := by simpa using h13
        rw [h13']
        have hcon : ¬ (l'.all isK = true ∧ 1 ≤ op ∧ op ≤ 17) := by
          intro hh
          apply h13
          simp only [Bool.and_eq_true, beq_iff_eq, decide_eq_true_eq]
          exact ⟨⟨by have := hfa.2 hh.1; omega, hh.2.1⟩, hh.2.2⟩
        have HKON := Lib.hid hcon
        clear hcon h13 h13' HAP HX
        go_upto_region 15 with fail
        refine wp_region_s (fun qk => (foG15 op kind n m cv cl Av Al false X w).getD qk .any) (by kernel_rfl) ?_ ?_
        · refine BOk.cons rfl [] [3] rfl rfl (by kernel_rfl) (by kernel_rfl) (fun qK qa wr hB qO qF hK => ?_) ?_
          · have e3 : qa.tmps[3]? = some (.slice Av n cv) := qO.1.trans rfl
            clear qO qF
            go_simp
            exact hK _ _ (Below.refl _ _) rfl
          refine BOk.cons rfl [0] [] rfl rfl (by kernel_rfl) (by kernel_rfl) (fun qK qa wr hB qO qF hK => ?_) ?_
          · have e60 : qa.tmps[60]? = some (.slice Av n cv) := fis qF.1 rfl rfl
            clear qO qF
            go_simp
            exact hK _ _ (Below.refl _ _) rfl
          refine BOk.cons rfl [1] [] rfl rfl (by kernel_rfl) (by kernel_rfl) (fun qK qa wr hB qO qF hK => ?_) ?_
          · have e61 : qa.tmps[61]? = some (.int .i64 (n : Nat)) := fis qF.1 rfl rfl
            clear qO qF
            go_simp
            refine hK _ _ (Below.refl _ _) ?_
            show (_ : Value) = _
            first | rfl | (simp; done) | (simp; omega) | (congr 1; simp; done) | (congr 1; rw [decide_eq_decide]; omega) | exact congrArg Value.bool (nat_bne _ _) | exact congrArg Value.bool (nat_beq _ _)
          refine BOk.cons rfl [2] [] rfl rfl (by kernel_rfl) (by kernel_rfl) (fun qK qa wr hB qO qF hK => ?_) ?_
          · have e62 : qa.tmps[62]? = some (.bool (((n : Nat) == 2))) := fis qF.1 rfl rfl
            clear qO qF
            go_simp
            exact hK _ _ (Below.refl _ _) (by first | rfl | (show (_ : Value) = _; simp_all; done))
          refine BOk.optT rfl [] [1] rfl 3 true rfl rfl rfl rfl (by kernel_rfl) (by kernel_rfl) (by kernel_rfl) (fun hp hc hP qK qa wr hB qO qF hK => ?_) ?_
          · have e1 : qa.tmps[1]? = some (.pointer (some ⟨w.heap.size, 0, none⟩)) := qO.1.trans rfl
            clear qO qF
            go_simp
            exact hK _ _ (Below.refl _ _) rfl
          refine BOk.optT rfl [4] [] rfl 3 true rfl rfl rfl rfl (by kernel_rfl) (by kernel_rfl) (by kernel_rfl) (fun hp hc hP qK qa wr hB qO qF hK => ?_) ?_
          · have e64 : qa.tmps[64]? = some (.pointer (some ⟨w.heap.size, 0, none⟩)) := fif qF.1 rfl hP rfl
            clear qO qF
            have hn0 := (bcell hB _ _ (World.block_lt_of_cell? _ _ n0)).trans n0
            go_simp
            exact hK _ _ (Below.refl _ _) rfl
          refine BOk.optT rfl [5] [] rfl 3 true rfl rfl rfl rfl (by kernel_rfl) (by kernel_rfl) (by kernel_rfl) (fun hp hc hP qK qa wr hB qO qF hK => ?_) ?_
          · have e65 : qa.tmps[65]? = some (.int .i64 op) := fif qF.1 rfl hP rfl
            clear qO qF
            go_simp
            refine hK _ _ (Below.refl _ _) ?_
            show (_ : Value) = _
            first | rfl | (simp; done) | (simp; omega) | (congr 1; simp; done) | (congr 1; rw [decide_eq_decide]; omega) | exact congrArg Value.bool (nat_bne _ _) | exact congrArg Value.bool (nat_beq _ _)
          refine BOk.optT rfl [6] [] rfl 3 true rfl rfl rfl rfl (by kernel_rfl) (by kernel_rfl) (by kernel_rfl) (fun hp hc hP qK qa wr hB qO qF hK => ?_) ?_
          · have e66 : qa.tmps[66]? = some (.bool ((op == 13))) := fif qF.1 rfl hP rfl
            clear qO qF
            go_simp
            exact hK _ _ (Below.refl _ _) (by first | rfl | (show (_ : Value) = _; simp_all; done))
          refine BOk.optX rfl [] [1] rfl 7 false rfl rfl rfl rfl (by kernel_rfl) (by kernel_rfl) (by kernel_rfl) (fun hp hc hP qK qa wr hB qO qF hK => ?_) ?_
          · have e1 : qa.tmps[1]? = some (.pointer (some ⟨w.heap.size, 0, none⟩)) := qO.1.trans rfl
            clear qO qF
            go_simp
            exact hK _ _ (Below.refl _ _) rfl
          refine BOk.optX rfl [8] [] rfl 7 false rfl rfl rfl rfl (by kernel_rfl) (by kernel_rfl) (by kernel_rfl) (fun hp hc hP qK qa wr hB qO qF hK => ?_) ?_
          · have e68 : qa.tmps[68]? = some (.pointer (some ⟨w.heap.size, 0, none⟩)) := fif qF.1 rfl hP rfl
            clear qO qF
            have hn0 := (bcell hB _ _ (World.block_lt_of_cell? _ _ n0)).trans n0
            go_simp
            exact hK _ _ (Below.refl _ _) rfl
          refine BOk.optX rfl [9] [] rfl 7 false rfl rfl rfl rfl (by kernel_rfl) (by kernel_rfl) (by kernel_rfl) (fun hp hc hP qK qa wr hB qO qF hK => ?_) ?_
          · have e69 : qa.tmps[69]? = some (.int .i64 op) := fif qF.1 rfl hP rfl
            clear qO qF
            go_simp
            refine hK _ _ (Below.refl _ _) ?_
            show (_ : Value) = _
            first | rfl | (simp; done) | (simp; omega) | (congr 1; simp; done) | (congr 1; rw [decide_eq_decide]; omega) | exact congrArg Value.bool (nat_bne _ _) | exact congrArg Value.bool (nat_beq _ _)
          refine BOk.optT rfl [7, 10] [] rfl 3 true rfl rfl rfl rfl (by kernel_rfl) (by kernel_rfl) (by kernel_rfl) (fun hp hc hP qK qa wr hB qO qF hK => ?_) ?_
          · have e67 : qa.tmps[67]? = some (.bool ((op == 13))) := fif qF.1 rfl hP rfl
            obtain ⟨u70, e70, r10⟩ := qF.2.1
            have r10 : u70 = (bif ((true && ((((n : Nat) == 2)) == true)) && (((op == 13)) == false)) then .bool ((op == 14)) else undef) := r10
            clear qO qF
            rcases (Bool.eq_false_or_eq_true (((op == 13)))).symm with hcc | hcc
            · rw [hcc] at e67
              have e70 : qa.tmps[70]? = some (.bool (((op == 14)))) := (show u70 = .bool (((op == 14))) from r10.trans (by (first | rw [hcc] | skip); first | rfl | (rw [hP]; rfl))) ▸ e70
              go_simp
              exact hK _ _ (Below.refl _ _) (by show (_ : Value) = _; first | (rw [hcc]; first | rfl | (simp; done)) | (simp_all; done))
            · rw [hcc] at e67
              go_simp
              exact hK _ _ (Below.refl _ _) (by show (_ : Value) = _; first | (rw [hcc]; first | rfl | (simp; done)) | (simp_all; done))
          refine BOk.cons rfl [3, 11] [] rfl rfl (by kernel_rfl) (by kernel_rfl) (fun qK qa wr hB qO qF hK => ?_) ?_
          · have e63 : qa.tmps[63]? = some (.bool (((n : Nat) == 2))) := fis qF.1 rfl rfl
            obtain ⟨u71, e71, r11⟩ := qF.2.1
            have r11 : u71 = (bif (true && ((((n : Nat) == 2)) == true)) then .bool (((op == 13)) || ((op == 14))) else undef) := r11
            clear qO qF
            rcases (Bool.eq_false_or_eq_true ((((n : Nat) == 2)))).symm with hcc | hcc
            · rw [hcc] at e63
              go_simp
              exact hK _ _ (Below.refl _ _) (by show (_ : Value) = _; first | (rw [hcc]; first | rfl | (simp; done)) | (simp_all; done))
            · rw [hcc] at e63
              have e71 : qa.tmps[71]? = some (.bool ((((op == 13)) || ((op == 14))))) := (show u71 = .bool ((((op == 13)) || ((op == 14)))) from r11.trans (by (first | rw [hcc] | skip); first | rfl | (rw [hP]; rfl))) ▸ e71
              go_simp
              exact hK _ _ (Below.refl _ _) (by show (_ : Value) = _; first | (rw [hcc]; first | rfl | (simp; done)) | (simp_all; done))
          exact BOk.nil
        intro vals wr hl hB hR
        match vals, hl with
        | [y60, y61, y62, y63, y64, y65, y66, y67, y68, y69, y70, y71, y72], _ =>
        have r12 : y72 = .bool ((((n : Nat) == 2)) && (((op == 13)) || ((op == 14)))) := hR 12 _ rfl
        subst r12
        clear hR
        simp only [List.cons_append, List.nil_append, putAll, Act.put, List.setIfInBounds_toArray, List.set_cons_zero, List.set_cons_succ]
        rename World => wB
        replace hv := hv.trans (hB.mono hv.size)
        replace kn := kn.old hB
        replace kr := kr.old hB
        clear hB n0 n1
        have n0 : wB.cell? ⟨w.heap.size, 0, none⟩ = some (.int .i64 op) := kn.cell 0
        by_cases h15 : ((((n : Nat) == 2)) && (((op == 13)) || ((op == 14)))) = true
        · as_aux_lemma =>
          rw [h15]
          simp only [Bool.and_eq_true, Bool.or_eq_true, beq_iff_eq] at h15
          obtain ⟨h2, ho⟩ := h15
          have hx2 : ∃ (op2 kind2 : Int) (A2 : Option Addr) (c2 : Nat) (args2 : List NodeV) (vk2 : Int) (vb2 : Nat) (pos2 a2 : Int) (op3 kind3 : Int) (A3 : Option Addr) (c3 : Nat) (args3 : List NodeV) (vk3 : Int) (vb3 : Nat) (pos3 a3 : Int), l' = [.mk op2 kind2 A2 c2 args2 vk2 vb2 pos2 a2, .mk op3 kind3 A3 c3 args3 vk3 vb3 pos3 a3] := by
            match l', (hl'.trans h2) with
            | [.mk .., .mk ..], _ => exact ⟨_, _, _, _, _, _, _, _, _, _, _, _, _, _, _, _, _, _, rfl⟩
          obtain ⟨op2, kind2, A2, c2, args2, vk2, vb2, pos2, a2, op3, kind3, A3, c3, args3, vk3, vb3, pos3, a3, rfl⟩ := hx2
          subst h2
          have hcon := HKON.out
          generalize hor : (op == 14) = orb
          have horb : orN op = orb.toNat := by rw [← hor]; rcases ho with rfl | rfl <;> rfl
          have horb2 : 1 - orN op = (!orb).toNat := by rw [← hor]; rcases ho with rfl | rfl <;> rfl
          have g15 : (op == 15) = false := by rw [beq_eq_false_iff_ne]; omega
          rcases HRW.out with h | ⟨bb, oo, rfl, hbb, hcc⟩
          · simp [NodeV.cells] at h
          have hcx : ∀ w', Below wl.heap.size wl w' → ∀ (j : Nat) (u : Value), [.int .i64 op2, .int .i64 kind2, .slice A2 args2.length c2, .int .i64 vk2, .int .u64 vb2, .int .i64 pos2, .int .i64 a2][j]? = some u → w'.cell? ⟨bb, oo + j, none⟩ = some u := fun w' hw j u hu => by
            have hj : j < 7 := (List.getElem?_eq_some_iff.1 hu).1
            have := hcc j u (by simp only [List.flatMap_cons, List.flatMap_nil, NodeV.cells]; rw [List.getElem?_append_left (by simpa using hj)]; exact hu)
            exact (bcell hw _ _ (World.block_lt_of_cell? _ _ this)).trans this
          have hcy : ∀ w', Below wl.heap.size wl w' → ∀ (j : Nat) (u : Value), [.int .i64 op3, .int .i64 kind3, .slice A3 args3.length c3, .int .i64 vk3, .int .u64 vb3, .int .i64 pos3, .int .i64 a3][j]? = some u → w'.cell? ⟨bb, oo + 7 + j, none⟩ = some u := fun w' hw j u hu => by
            have hj : j < 7 := (List.getElem?_eq_some_iff.1 hu).1
            have := hcc (7 + j) u (by
              simp only [List.flatMap_cons, List.flatMap_nil, NodeV.cells, List.append_nil]
              rw [List.getElem?_append_right (by simp)]
              simpa using hu)
            rw [← Nat.add_assoc] at this
            exact (bcell hw _ _ (World.block_lt_of_cell? _ _ this)).trans this
          have HCXW := Lib.hid hcx
          have HCYW := Lib.hid hcy
          have HCX := Lib.hid (hcx wB hv)
          have HCY := Lib.hid (hcy wB hv)
          have hT : ∀ w', Calls Try.prog 20 #[.bool orb] w' fun x w2 => x = .returned (.agg #[.int .i64 2, .int .u64 (orb.toNat : Nat)]) ∧ Below w'.heap.size w' w2 := fun w' => by
            have := rtruth_any orb w'
            cases orb <;> exact this
          have HT := Lib.hid hT
          generalize hpx0 : isCN orb.toNat (.mk op2 kind2 A2 c2 args2 vk2 vb2 pos2 a2) = px
          generalize hpy0 : isCN orb.toNat (.mk op3 kind3 A3 c3 args3 vk3 vb3 pos3 a3) = py
          generalize hqx0 : isCN (!orb).toNat (.mk op2 kind2 A2 c2 args2 vk2 vb2 pos2 a2) = qx
          generalize hqy0 : isCN (!orb).toNat (.mk op3 kind3 A3 c3 args3 vk3 vb3 pos3 a3) = qy
          have HX1 := Lib.hid (is_any op2 kind2 A2 args2 c2 vk2 vb2 pos2 a2 orb px hpx0)
          have HY1 := Lib.hid (is_any op3 kind3 A3 args3 c3 vk3 vb3 pos3 a3 orb py hpy0)
          have HX2 := Lib.hid (is_any op2 kind2 A2 args2 c2 vk2 vb2 pos2 a2 (!orb) qx hqx0)
          have HY2 := Lib.hid (is_any op3 kind3 A3 args3 c3 vk3 vb3 pos3 a3 (!orb) qy hqy0)
          clear hT hcx hcy hcc HRW HKON hfa HNOK
          cases hpx : px
          · rw [hpx] at HX1
            cases hpy : py
            · rw [hpy] at HY1
              cases hqx : qx
              · rw [hqx] at HX2
                cases hqy : qy
                · rw [hqy] at HY2
                  as_aux_lemma =>
                    go_wp2_with (first | (refine wpList_load7 rfl _ rfl rfl HCX.out ?_) | (refine wpList_load7g _ rfl rfl (by rfl) HCX.out ?_))
                    refine (HX1.out _).mono ?_
                    rintro e w6 ⟨rfl, hb6⟩
                    replace hv := hv.trans (hb6.mono hv.size)
                    replace HCX := Lib.hid (HCXW.out _ hv)
                    replace HCY := Lib.hid (HCYW.out _ hv)
                    replace kn := kn.old hb6
                    replace kr := kr.old hb6
                    clear hb6
                    rename World => wC
                    go_wp2_with (first | (refine wpList_load7 rfl _ rfl rfl HCY.out ?_) | (refine wpList_load7g _ rfl rfl (by rfl) HCY.out ?_))
                    refine (HY1.out _).mono ?_
                    rintro e w6 ⟨rfl, hb6⟩
                    replace hv := hv.trans (hb6.mono hv.size)
                    replace HCX := Lib.hid (HCXW.out _ hv)
                    replace HCY := Lib.hid (HCYW.out _ hv)
                    replace kn := kn.old hb6
                    replace kr := kr.old hb6
                    clear hb6
                    rename World => wC
                    go_wp2_with (first | (refine wpList_load7 rfl _ rfl rfl HCX.out ?_) | (refine wpList_load7g _ rfl rfl (by rfl) HCX.out ?_))
                    refine (HX2.out _).mono ?_
                    rintro e w6 ⟨rfl, hb6⟩
                    replace hv := hv.trans (hb6.mono hv.size)
                    replace HCX := Lib.hid (HCXW.out _ hv)
                    replace HCY := Lib.hid (HCYW.out _ hv)
                    replace kn := kn.old hb6
                    replace kr := kr.old hb6
                    clear hb6
                    rename World => wC
                    go_wp2_with (first | (refine wpList_load7 rfl _ rfl rfl HCY.out ?_) | (refine wpList_load7g _ rfl rfl (by rfl) HCY.out ?_))
                    refine (HY2.out _).mono ?_
                    rintro e w6 ⟨rfl, hb6⟩
                    replace hv := hv.trans (hb6.mono hv.size)
                    replace HCX := Lib.hid (HCXW.out _ hv)
                    replace HCY := Lib.hid (HCYW.out _ hv)
                    replace kn := kn.old hb6
                    replace kr := kr.old hb6
                    clear hb6
                    rename World => wC
                    have n0 : wC.cell? ⟨w.heap.size, 0, none⟩ = some (.int .i64 op) := kn.cell 0
                    have n2 : wC.cell? ⟨w.heap.size, 2, none⟩ = some (.slice A 2 c) := kn.cell 2
                    have f2 := kn.frozen 2
                    have kn2 : Bk (wC.setCell ⟨w.heap.size, 2, none⟩ (.slice (some ⟨bb, oo, none⟩) 2 cv)) w.heap.size 27 #[.int .i64 op, .int .i64 kind, .slice (some ⟨bb, oo, none⟩) 2 cv, .int .i64 vk, .int .u64 vb, .int .i64 pos, .int .i64 a] := by simpa using kn.put 2 (.slice (some ⟨bb, oo, none⟩) 2 cv)
                    have kr2 := kr.far (p := ⟨w.heap.size, 2, none⟩) (by simp) (.slice (some ⟨bb, oo, none⟩) 2 cv)
                    have ka := Lib.hid kn2.at7
                    clear kn kr kn2
                    go_wp2_with (first | (refine wpList_load7 rfl _ rfl rfl ka.out ?_) | (refine wpList_put7 rfl _ _ rfl rfl rfl kr2 rfl ?_; intro w9 p9))
                    have hb9 := p9.below _ _ ((hbel.trans (hv.mono (by omega))).setCell (Nat.le_refl _) _) (by omega)
                    obtain ⟨d0, d1, d2, d3, d4, d5, d6⟩ := ncells p9.bk
                    have hres := HRES.out (.mk op kind (some ⟨bb, oo, none⟩) cv [.mk op2 kind2 A2 c2 args2 vk2 vb2 pos2 a2, .mk op3 kind3 A3 c3 args3 vk3 vb3 pos3 a3] vk vb pos a) (self_logic hcon ho (by rw [horb]; exact hpx0.trans hpx) (by rw [horb]; exact hpy0.trans hpy) (by rw [horb2]; exact hqx0.trans hqx) (by rw [horb2]; exact hqy0.trans hqy))
                    have hz9 := p9.size
                    simp at hz9
                    exact bodyPost_ret (v := .agg #[.int .i64 op, .int .i64 kind, .slice (some ⟨bb, oo, none⟩) 2 cv, .int .i64 vk, .int .u64 vb, .int .i64 pos, .int .i64 a]) (by simp [results, Try.results9, go_sem, d0, d1, d2, d3, d4, d5, d6]) rfl ⟨.mk op kind (some ⟨bb, oo, none⟩) cv [.mk op2 kind2 A2 c2 args2 vk2 vb2 pos2 a2, .mk op3 kind3 A3 c3 args3 vk3 vb3 pos3 a3] vk vb pos a, rfl, hres.1, okS.keep (fun b h1 h2 => ⟨by omega, by have := hv.size; omega, (p9.other b (by omega)).trans ((setCell_other _ _ _ _ (show b ≠ w.heap.size by omega)).trans (hv.block b h2))⟩) hres.2, hb9⟩
                · rw [hqy] at HY2
                  as_aux_lemma =>
                    go_wp2_with (first | (refine wpList_load7 rfl _ rfl rfl HCX.out ?_) | (refine wpList_load7g _ rfl rfl (by rfl) HCX.out ?_))
                    refine (HX1.out _).mono ?_
                    rintro e w6 ⟨rfl, hb6⟩
                    replace hv := hv.trans (hb6.mono hv.size)
                    replace HCX := Lib.hid (HCXW.out _ hv)
                    replace HCY := Lib.hid (HCYW.out _ hv)
                    replace kn := kn.old hb6
                    replace kr := kr.old hb6
                    clear hb6
                    rename World => wC
                    go_wp2_with (first | (refine wpList_load7 rfl _ rfl rfl HCY.out ?_) | (refine wpList_load7g _ rfl rfl (by rfl) HCY.out ?_))
                    refine (HY1.out _).mono ?_
                    rintro e w6 ⟨rfl, hb6⟩
                    replace hv := hv.trans (hb6.mono hv.size)
                    replace HCX := Lib.hid (HCXW.out _ hv)
                    replace HCY := Lib.hid (HCYW.out _ hv)
                    replace kn := kn.old hb6
                    replace kr := kr.old hb6
                    clear hb6
                    rename World => wC
                    go_wp2_with (first | (refine wpList_load7 rfl _ rfl rfl HCX.out ?_) | (refine wpList_load7g _ rfl rfl (by rfl) HCX.out ?_))
                    refine (HX2.out _).mono ?_
                    rintro e w6 ⟨rfl, hb6⟩
                    replace hv := hv.trans (hb6.mono hv.size)
                    replace HCX := Lib.hid (HCXW.out _ hv)
                    replace HCY := Lib.hid (HCYW.out _ hv)
                    replace kn := kn.old hb6
                    replace kr := kr.old hb6
                    clear hb6
                    rename World => wC
                    go_wp2_with (first | (refine wpList_load7 rfl _ rfl rfl HCY.out ?_) | (refine wpList_load7g _ rfl rfl (by rfl) HCY.out ?_))
                    refine (HY2.out _).mono ?_
                    rintro e w6 ⟨rfl, hb6⟩
                    replace hv := hv.trans (hb6.mono hv.size)
                    replace HCX := Lib.hid (HCXW.out _ hv)
                    replace HCY := Lib.hid (HCYW.out _ hv)
                    replace kn := kn.old hb6
                    replace kr := kr.old hb6
                    clear hb6
                    rename World => wC
                    go_wp2_with (first | (refine wpList_load7 rfl _ rfl rfl HCX.out ?_) | (refine wpList_put7 rfl _ _ rfl rfl rfl kr rfl ?_; intro w9 p9))
                    have hb9 := p9.below _ _ (hbel.trans (hv.mono (by omega))) (by omega)
                    obtain ⟨d0, d1, d2, d3, d4, d5, d6⟩ := ncells p9.bk
                    have hres := HRES.out (.mk op2 kind2 A2 c2 args2 vk2 vb2 pos2 a2) (neut_at hcon ho (by rw [horb]; exact hpx0.trans hpx) (by rw [horb]; exact hpy0.trans hpy) (.inr ⟨by rw [horb2]; exact hqx0.trans hqx, by rw [horb2]; exact hqy0.trans hqy, rfl⟩))
                    have hz9 := p9.size
                    exact bodyPost_ret (v := .agg #[.int .i64 op2, .int .i64 kind2, .slice A2 args2.length c2, .int .i64 vk2, .int .u64 vb2, .int .i64 pos2, .int .i64 a2]) (by simp [results, Try.results9, go_sem, d0, d1, d2, d3, d4, d5, d6]) rfl ⟨.mk op2 kind2 A2 c2 args2 vk2 vb2 pos2 a2, rfl, hres.1, okS.keep (fun b h1 h2 => ⟨by omega, by have := hv.size; omega, (p9.other b (by omega)).trans (hv.block b h2)⟩) hres.2, hb9⟩
              · rw [hqx] at HX2
                as_aux_lemma =>
                  go_wp2_with (first | (refine wpList_load7 rfl _ rfl rfl HCX.out ?_) | (refine wpList_load7g _ rfl rfl (by rfl) HCX.out ?_))
                  refine (HX1.out _).mono ?_
                  rintro e w6 ⟨rfl, hb6⟩
                  replace hv := hv.trans (hb6.mono hv.size)
                  replace HCX := Lib.hid (HCXW.out _ hv)
                  replace HCY := Lib.hid (HCYW.out _ hv)
                  replace kn := kn.old hb6
                  replace kr := kr.old hb6
                  clear hb6
                  rename World => wC
                  go_wp2_with (first | (refine wpList_load7 rfl _ rfl rfl HCY.out ?_) | (refine wpList_load7g _ rfl rfl (by rfl) HCY.out ?_))
                  refine (HY1.out _).mono ?_
                  rintro e w6 ⟨rfl, hb6⟩
                  replace hv := hv.trans (hb6.mono hv.size)
                  replace HCX := Lib.hid (HCXW.out _ hv)
                  replace HCY := Lib.hid (HCYW.out _ hv)
                  replace kn := kn.old hb6
                  replace kr := kr.old hb6
                  clear hb6
                  rename World => wC
                  go_wp2_with (first | (refine wpList_load7 rfl _ rfl rfl HCX.out ?_) | (refine wpList_load7g _ rfl rfl (by rfl) HCX.out ?_))
                  refine (HX2.out _).mono ?_
                  rintro e w6 ⟨rfl, hb6⟩
                  replace hv := hv.trans (hb6.mono hv.size)
                  replace HCX := Lib.hid (HCXW.out _ hv)
                  replace HCY := Lib.hid (HCYW.out _ hv)
                  replace kn := kn.old hb6
                  replace kr := kr.old hb6
                  clear hb6
                  rename World => wC
                  go_wp2_with (first | (refine wpList_load7 rfl _ rfl rfl HCY.out ?_) | (refine wpList_put7 rfl _ _ rfl rfl rfl kr rfl ?_; intro w9 p9))
                  have hb9 := p9.below _ _ (hbel.trans (hv.mono (by omega))) (by omega)
                  obtain ⟨d0, d1, d2, d3, d4, d5, d6⟩ := ncells p9.bk
                  have hres := HRES.out (.mk op3 kind3 A3 c3 args3 vk3 vb3 pos3 a3) (neut_at hcon ho (by rw [horb]; exact hpx0.trans hpx) (by rw [horb]; exact hpy0.trans hpy) (.inl ⟨by rw [horb2]; exact hqx0.trans hqx, rfl⟩))
                  have hz9 := p9.size
                  exact bodyPost_ret (v := .agg #[.int .i64 op3, .int .i64 kind3, .slice A3 args3.length c3, .int .i64 vk3, .int .u64 vb3, .int .i64 pos3, .int .i64 a3]) (by simp [results, Try.results9, go_sem, d0, d1, d2, d3, d4, d5, d6]) rfl ⟨.mk op3 kind3 A3 c3 args3 vk3 vb3 pos3 a3, rfl, hres.1, okS.keep (fun b h1 h2 => ⟨by omega, by have := hv.size; omega, (p9.other b (by omega)).trans (hv.block b h2)⟩) hres.2, hb9⟩
            · rw [hpy] at HY1
              as_aux_lemma =>
                go_wp2_with (first | (refine wpList_load7 rfl _ rfl rfl HCX.out ?_) | (refine wpList_load7g _ rfl rfl (by rfl) HCX.out ?_))
                refine (HX1.out _).mono ?_
                rintro e w6 ⟨rfl, hb6⟩
                replace hv := hv.trans (hb6.mono hv.size)
                replace HCX := Lib.hid (HCXW.out _ hv)
                replace HCY := Lib.hid (HCYW.out _ hv)
                replace kn := kn.old hb6
                replace kr := kr.old hb6
                clear hb6
                rename World => wC
                go_wp2_with (first | (refine wpList_load7 rfl _ rfl rfl HCY.out ?_) | (refine wpList_load7g _ rfl rfl (by rfl) HCY.out ?_))
                refine (HY1.out _).mono ?_
                rintro e w6 ⟨rfl, hb6⟩
                replace hv := hv.trans (hb6.mono hv.size)
                replace HCX := Lib.hid (HCXW.out _ hv)
                replace HCY := Lib.hid (HCYW.out _ hv)
                replace kn := kn.old hb6
                replace kr := kr.old hb6
                clear hb6
                rename World => wC
                have n0 : wC.cell? ⟨w.heap.size, 0, none⟩ = some (.int .i64 op) := kn.cell 0
                have n1 : wC.cell? ⟨w.heap.size, 1, none⟩ = some (.int .i64 kind) := kn.cell 1
                clear HCX HCY HCXW HCYW HX1 HX2 HY1 HY2
                go_upto_region 18 with fail
                refine wp_region_t 5 (fun k => false) (by kernel_rfl) (fun qk => (foG18 op kind 2 m cv cl (some ⟨bb, oo, none⟩) Al orb X w).getD qk .any) (by kernel_rfl) ?_ ?_
                · refine BOk.cons rfl [] [1] rfl rfl (by kernel_rfl) (by kernel_rfl) (fun qK qa wr hB qO qF hK => ?_) ?_
                  · have e1 : qa.tmps[1]? = some (.pointer (some ⟨w.heap.size, 0, none⟩)) := qO.1.trans rfl
                    clear qO qF
                    go_simp
                    exact hK _ _ (Below.refl _ _) rfl
                  refine BOk.cons rfl [0] [] rfl rfl (by kernel_rfl) (by kernel_rfl) (fun qK qa wr hB qO qF hK => ?_) ?_
                  · have e88 : qa.tmps[88]? = some (.pointer (some ⟨w.heap.size, 1, none⟩)) := fis qF.1 rfl rfl
                    clear qO qF
                    have hn1 := (bcell hB _ _ (World.block_lt_of_cell? _ _ n1)).trans n1
                    go_simp
                    exact hK _ _ (Below.refl _ _) rfl
                  refine BOk.cons rfl [] [7] rfl rfl (by kernel_rfl) (by kernel_rfl) (fun qK qa wr hB qO qF hK => ?_) ?_
                  · have e7 : qa.tmps[7]? = some (.bool orb) := qO.1.trans rfl
                    clear qO qF
                    go_simp
                    exact hK _ _ (Below.refl _ _) (by first | rfl | (show (_ : Value) = _; simp_all; done))
                  refine BOk.cons rfl [2] [] rfl rfl (by kernel_rfl) (by kernel_rfl) (fun qK qa wr hB qO qF hK => ?_) ?_
                  · have e90 : qa.tmps[90]? = some (.bool orb) := fis qF.1 rfl rfl
                    clear qO qF
                    go_simp
                    go_at_call 20
                    refine (HT.out _).mono ?_
                    rintro e w2 ⟨rfl, hb2⟩
                    exact hK _ _ hb2 rfl
                  refine BOk.cons rfl [1, 3] [] rfl rfl (by kernel_rfl) (by kernel_rfl) (fun qK qa wr hB qO qF hK => ?_) ?_
                  · have e89 : qa.tmps[89]? = some (.int .i64 kind) := fis qF.1 rfl rfl
                    have e91 : qa.tmps[91]? = some (.agg #[.int .i64 2, .int .u64 (orb.toNat : Nat)]) := fis qF.2.1 rfl rfl
                    clear qO qF
                    go_simp
                    refine hK _ _ (Below.refl _ _) ?_
                    show (_ : Value) = _
                    first | rfl | (simp; done) | (simp; omega)
                  exact BOk.nil
                intro vals wr hl hB hR hS
                match vals, hl with
                | [v88, v89, v90, v91, v92], _ =>
                have r4 : v92 = .agg #[.int .i64 40, .int .i64 kind, .slice none 0 0, .int .i64 2, .int .u64 (orb.toNat : Nat), .int .i64 0, .int .i64 0] := hR 4 _ rfl
                subst r4
                clear hS
                clear hR
                simp only [List.take_succ_cons, List.take_zero, List.drop_succ_cons, List.drop_zero, List.toList_toArray, List.cons_append, List.nil_append, putAll, Act.put, List.setIfInBounds_toArray, List.set_cons_zero, List.set_cons_succ]
                replace hv := hv.trans (hB.mono hv.size)
                replace kr := kr.old hB
                clear hB
                go_wp2_with (refine wpList_put7 rfl _ _ rfl rfl rfl kr rfl ?_; intro w9 p9)
                have hb9 := p9.below _ _ (hbel.trans (hv.mono (by omega))) (by omega)
                obtain ⟨d0, d1, d2, d3, d4, d5, d6⟩ := ncells p9.bk
                have hres := HRES.out (.mk 40 kind none 0 [] 2 orb.toNat 0 0) (by rw [← horb]; exact dec_at hcon ho (.inr (by rw [horb]; exact hpy0.trans hpy)))
                have hz9 := p9.size
                exact bodyPost_ret (v := .agg #[.int .i64 40, .int .i64 kind, .slice none 0 0, .int .i64 2, .int .u64 (orb.toNat : Nat), .int .i64 0, .int .i64 0]) (by simp [results, Try.results9, go_sem, d0, d1, d2, d3, d4, d5, d6]) rfl ⟨.mk 40 kind none 0 [] 2 orb.toNat 0 0, rfl, hres.1, okS.keep (fun b h1 h2 => ⟨by omega, by have := hv.size; omega, (p9.other b (by omega)).trans (hv.block b h2)⟩) hres.2, hb9⟩
          · rw [hpx] at HX1
            as_aux_lemma =>
              go_wp2_with (first | (refine wpList_load7 rfl _ rfl rfl HCX.out ?_) | (refine wpList_load7g _ rfl rfl (by rfl) HCX.out ?_))
              refine (HX1.out _).mono ?_
              rintro e w6 ⟨rfl, hb6⟩
              replace hv := hv.trans (hb6.mono hv.size)
              replace HCX := Lib.hid (HCXW.out _ hv)
              replace HCY := Lib.hid (HCYW.out _ hv)
              replace kn := kn.old hb6
              replace kr := kr.old hb6
              clear hb6
              rename World => wC
              have n0 : wC.cell? ⟨w.heap.size, 0, none⟩ = some (.int .i64 op) := kn.cell 0
              have n1 : wC.cell? ⟨w.heap.size, 1, none⟩ = some (.int .i64 kind) := kn.cell 1
              clear HCX HCY HCXW HCYW HX1 HX2 HY1 HY2
              go_upto_region 18 with fail
              refine wp_region_t 5 (fun k => false) (by kernel_rfl) (fun qk => (foG18 op kind 2 m cv cl (some ⟨bb, oo, none⟩) Al orb X w).getD qk .any) (by kernel_rfl) ?_ ?_
              · refine BOk.cons rfl [] [1] rfl rfl (by kernel_rfl) (by kernel_rfl) (fun qK qa wr hB qO qF hK => ?_) ?_
                · have e1 : qa.tmps[1]? = some (.pointer (some ⟨w.heap.size, 0, none⟩)) := qO.1.trans rfl
                  clear qO qF
                  go_simp
                  exact hK _ _ (Below.refl _ _) rfl
                refine BOk.cons rfl [0] [] rfl rfl (by kernel_rfl) (by kernel_rfl) (fun qK qa wr hB qO qF hK => ?_) ?_
                · have e88 : qa.tmps[88]? = some (.pointer (some ⟨w.heap.size, 1, none⟩)) := fis qF.1 rfl rfl
                  clear qO qF
                  have hn1 := (bcell hB _ _ (World.block_lt_of_cell? _ _ n1)).trans n1
                  go_simp
                  exact hK _ _ (Below.refl _ _) rfl
                refine BOk.cons rfl [] [7] rfl rfl (by kernel_rfl) (by kernel_rfl) (fun qK qa wr hB qO qF hK => ?_) ?_
                · have e7 : qa.tmps[7]? = some (.bool orb) := qO.1.trans rfl
                  clear qO qF
                  go_simp
                  exact hK _ _ (Below.refl _ _) (by first | rfl | (show (_ : Value) = _; simp_all; done))
                refine BOk.cons rfl [2] [] rfl rfl (by kernel_rfl) (by kernel_rfl) (fun qK qa wr hB qO qF hK => ?_) ?_
                · have e90 : qa.tmps[90]? = some (.bool orb) := fis qF.1 rfl rfl
                  clear qO qF
                  go_simp
                  go_at_call 20
                  refine (HT.out _).mono ?_
                  rintro e w2 ⟨rfl, hb2⟩
                  exact hK _ _ hb2 rfl
                refine BOk.cons rfl [1, 3] [] rfl rfl (by kernel_rfl) (by kernel_rfl) (fun qK qa wr hB qO qF hK => ?_) ?_
                · have e89 : qa.tmps[89]? = some (.int .i64 kind) := fis qF.1 rfl rfl
                  have e91 : qa.tmps[91]? = some (.agg #[.int .i64 2, .int .u64 (orb.toNat : Nat)]) := fis qF.2.1 rfl rfl
                  clear qO qF
                  go_simp
                  refine hK _ _ (Below.refl _ _) ?_
                  show (_ : Value) = _
                  first | rfl | (simp; done) | (simp; omega)
                exact BOk.nil
              intro vals wr hl hB hR hS
              match vals, hl with
              | [v88, v89, v90, v91, v92], _ =>
              have r4 : v92 = .agg #[.int .i64 40, .int .i64 kind, .slice none 0 0, .int .i64 2, .int .u64 (orb.toNat : Nat), .int .i64 0, .int .i64 0] := hR 4 _ rfl
              subst r4
              clear hS
              clear hR
              simp only [List.take_succ_cons, List.take_zero, List.drop_succ_cons, List.drop_zero, List.toList_toArray, List.cons_append, List.nil_append, putAll, Act.put, List.setIfInBounds_toArray, List.set_cons_zero, List.set_cons_succ]
              replace hv := hv.trans (hB.mono hv.size)
              replace kr := kr.old hB
              clear hB
              go_wp2_with (refine wpList_put7 rfl _ _ rfl rfl rfl kr rfl ?_; intro w9 p9)
              have hb9 := p9.below _ _ (hbel.trans (hv.mono (by omega))) (by omega)
              obtain ⟨d0, d1, d2, d3, d4, d5, d6⟩ := ncells p9.bk
              have hres := HRES.out (.mk 40 kind none 0 [] 2 orb.toNat 0 0) (by rw [← horb]; exact dec_at hcon ho (.inl (by rw [horb]; exact hpx0.trans hpx)))
              have hz9 := p9.size
              exact bodyPost_ret (v := .agg #[.int .i64 40, .int .i64 kind, .slice none 0 0, .int .i64 2, .int .u64 (orb.toNat : Nat), .int .i64 0, .int .i64 0]) (by simp [results, Try.results9, go_sem, d0, d1, d2, d3, d4, d5, d6]) rfl ⟨.mk 40 kind none 0 [] 2 orb.toNat 0 0, rfl, hres.1, okS.keep (fun b h1 h2 => ⟨by omega, by have := hv.size; omega, (p9.other b (by omega)).trans (hv.block b h2)⟩) hres.2, hb9⟩
        · have h15' : ((((n : Nat) == 2)) && (((op == 13)) || ((op == 14)))) = false := by simpa using h15
          rw [h15']
          have hlog : ¬ (l'.length = 2 ∧ (op = 13 ∨ op = 14)) := by
            intro hh
            apply h15
            simp only [Bool.and_eq_true, Bool.or_eq_true, beq_iff_eq]
            exact ⟨by omega, hh.2⟩
          have HLOG := Lib.hid hlog
          clear h15 h15' hlog hfa
          by_cases hop : op = 15
          · subst hop
            by_cases h1 : n = 1
            · obtain ⟨x, rfl⟩ : ∃ x, l' = [x] := by
                match l', (hl'.trans h1) with
                | [x], _ => exact ⟨x, rfl⟩
              subst h1
              obtain ⟨op2, kind2, A2, c2, args2, vk2, vb2, pos2, a2⟩ := x
              have hxok := HNOK.out.2.2.2 _ (List.mem_cons_self ..)
              rcases HRW.out with h | ⟨bb, oo, rfl, hbb, hcc⟩
              · simp [NodeV.cells] at h
              have x0 : wB.cell? ⟨bb, oo, none⟩ = some (.int .i64 op2) := (bcell hv _ _ (World.block_lt_of_cell? _ _ (hcc 0 _ rfl))).trans (hcc 0 _ rfl)
              have x2 : wB.cell? ⟨bb, oo + 2, none⟩ = some (.slice A2 args2.length c2) := (bcell hv _ _ (World.block_lt_of_cell? _ _ (hcc 2 _ rfl))).trans (hcc 2 _ rfl)
              clear hcc HRW HNOK
              by_cases hop2 : op2 = 15
              · subst hop2
                by_cases h12 : args2.length = 1
                · as_aux_lemma =>
                  obtain ⟨z, rfl⟩ : ∃ z, args2 = [z] := by
                    match args2, h12 with
                    | [z], _ => exact ⟨z, rfl⟩
                  obtain ⟨op3, kind3, A3, c3, args3, vk3, vb3, pos3, a3⟩ := z
                  cases d with
                  | zero => exact hxok.elim
                  | succ d =>
                    rcases hxok.1 with h | ⟨b2, o2, rfl, _, hb2, hc2⟩
                    · simp [NodeV.cells] at h
                    have hcz : ∀ (j : Nat) (u : Value), [.int .i64 op3, .int .i64 kind3, .slice A3 args3.length c3, .int .i64 vk3, .int .u64 vb3, .int .i64 pos3, .int .i64 a3][j]? = some u → wB.cell? ⟨b2, o2 + j, none⟩ = some u := fun j u hu => by
                      have := hc2 j u (by simpa [NodeV.cells] using hu)
                      exact (bcell hv _ _ (World.block_lt_of_cell? _ _ this)).trans this
                    have HCZ := Lib.hid hcz
                    clear hcz hc2 hxok kn
                    go_wp2_with (first | (refine wpList_load7 rfl _ rfl rfl HCZ.out ?_) | (refine wpList_put7 rfl _ _ rfl rfl rfl kr rfl ?_; intro w9 p9))
                    have hb9 := p9.below _ _ (hbel.trans (hv.mono (by omega))) (by omega)
                    obtain ⟨d0, d1, d2, d3, d4, d5, d6⟩ := ncells p9.bk
                    have hres := HRES.out (.mk op3 kind3 A3 c3 args3 vk3 vb3 pos3 a3) (twice_at)
                    have hz9 := p9.size
                    exact bodyPost_ret (v := .agg #[.int .i64 op3, .int .i64 kind3, .slice A3 args3.length c3, .int .i64 vk3, .int .u64 vb3, .int .i64 pos3, .int .i64 a3]) (by simp [results, Try.results9, go_sem, d0, d1, d2, d3, d4, d5, d6]) rfl ⟨.mk op3 kind3 A3 c3 args3 vk3 vb3 pos3 a3, rfl, hres.1, okS.keep (fun b h1 h2 => ⟨by omega, by have := hv.size; omega, (p9.other b (by omega)).trans (hv.block b h2)⟩) hres.2, hb9⟩
                · as_aux_lemma =>
                  have g12 : ((args2.length : Int) == 1) = false := by rw [beq_eq_false_iff_ne]; omega
                  have htw : ruleAt 3 (.mk 15 kind (some ⟨bb, oo, none⟩) cv [.mk 15 kind2 A2 c2 args2 vk2 vb2 pos2 a2] vk vb pos a) = none := by
                    match args2, h12 with
                    | [], _ => rfl
                    | [_], h12 => exact absurd rfl h12
                    | _ :: _ :: _, _ => rfl
                  have HTW := Lib.hid htw
                  clear htw hxok
                  have n0 : wB.cell? ⟨w.heap.size, 0, none⟩ = some (.int .i64 15) := kn.cell 0
                  have n2 : wB.cell? ⟨w.heap.size, 2, none⟩ = some (.slice A 1 c) := kn.cell 2
                  have f2 := kn.frozen 2
                  have kn2 : Bk (wB.setCell ⟨w.heap.size, 2, none⟩ (.slice (some ⟨bb, oo, none⟩) 1 cv)) w.heap.size 27 #[.int .i64 15, .int .i64 kind, .slice (some ⟨bb, oo, none⟩) 1 cv, .int .i64 vk, .int .u64 vb, .int .i64 pos, .int .i64 a] := by simpa using kn.put 2 (.slice (some ⟨bb, oo, none⟩) 1 cv)
                  have kr2 := kr.far (p := ⟨w.heap.size, 2, none⟩) (by simp) (.slice (some ⟨bb, oo, none⟩) 1 cv)
                  have ka := Lib.hid kn2.at7
                  clear kn kr kn2
                  go_wp2_with (first | (refine wpList_load7 rfl _ rfl rfl ka.out ?_) | (refine wpList_put7 rfl _ _ rfl rfl rfl kr2 rfl ?_; intro w9 p9))
                  have hb9 := p9.below _ _ ((hbel.trans (hv.mono (by omega))).setCell (Nat.le_refl _) _) (by omega)
                  obtain ⟨d0, d1, d2, d3, d4, d5, d6⟩ := ncells p9.bk
                  have hres := HRES.out (.mk 15 kind (some ⟨bb, oo, none⟩) cv [.mk 15 kind2 A2 c2 args2 vk2 vb2 pos2 a2] vk vb pos a) (self_at HKON.out HLOG.out HTW.out)
                  have hz9 := p9.size
                  simp at hz9
                  exact bodyPost_ret (v := .agg #[.int .i64 15, .int .i64 kind, .slice (some ⟨bb, oo, none⟩) 1 cv, .int .i64 vk, .int .u64 vb, .int .i64 pos, .int .i64 a]) (by simp [results, Try.results9, go_sem, d0, d1, d2, d3, d4, d5, d6]) rfl ⟨.mk 15 kind (some ⟨bb, oo, none⟩) cv [.mk 15 kind2 A2 c2 args2 vk2 vb2 pos2 a2] vk vb pos a, rfl, hres.1, okS.keep (fun b h1 h2 => ⟨by omega, by have := hv.size; omega, (p9.other b (by omega)).trans ((setCell_other _ _ _ _ (show b ≠ w.heap.size by omega)).trans (hv.block b h2))⟩) hres.2, hb9⟩
              · as_aux_lemma =>
                have g2 : (op2 == 15) = false := by rw [beq_eq_false_iff_ne]; exact hop2
                have htw : ruleAt 3 (.mk 15 kind (some ⟨bb, oo, none⟩) cv [.mk op2 kind2 A2 c2 args2 vk2 vb2 pos2 a2] vk vb pos a) = none := by
                  show (if op2 = 15 then _ else none : Option NodeV) = none
                  rw [if_neg hop2]
                have HTW := Lib.hid htw
                clear htw hxok
                have n0 : wB.cell? ⟨w.heap.size, 0, none⟩ = some (.int .i64 15) := kn.cell 0
                have n2 : wB.cell? ⟨w.heap.size, 2, none⟩ = some (.slice A 1 c) := kn.cell 2
                have f2 := kn.frozen 2
                have kn2 : Bk (wB.setCell ⟨w.heap.size, 2, none⟩ (.slice (some ⟨bb, oo, none⟩) 1 cv)) w.heap.size 27 #[.int .i64 15, .int .i64 kind, .slice (some ⟨bb, oo, none⟩) 1 cv, .int .i64 vk, .int .u64 vb, .int .i64 pos, .int .i64 a] := by simpa using kn.put 2 (.slice (some ⟨bb, oo, none⟩) 1 cv)
                have kr2 := kr.far (p := ⟨w.heap.size, 2, none⟩) (by simp) (.slice (some ⟨bb, oo, none⟩) 1 cv)
                have ka := Lib.hid kn2.at7
                clear kn kr kn2
                go_wp2_with (first | (refine wpList_load7 rfl _ rfl rfl ka.out ?_) | (refine wpList_put7 rfl _ _ rfl rfl rfl kr2 rfl ?_; intro w9 p9))
                have hb9 := p9.below _ _ ((hbel.trans (hv.mono (by omega))).setCell (Nat.le_refl _) _) (by omega)
                obtain ⟨d0, d1, d2, d3, d4, d5, d6⟩ := ncells p9.bk
                have hres := HRES.out (.mk 15 kind (some ⟨bb, oo, none⟩) cv [.mk op2 kind2 A2 c2 args2 vk2 vb2 pos2 a2] vk vb pos a) (self_at HKON.out HLOG.out HTW.out)
                have hz9 := p9.size
                simp at hz9
                exact bodyPost_ret (v := .agg #[.int .i64 15, .int .i64 kind, .slice (some ⟨bb, oo, none⟩) 1 cv, .int .i64 vk, .int .u64 vb, .int .i64 pos, .int .i64 a]) (by simp [results, Try.results9, go_sem, d0, d1, d2, d3, d4, d5, d6]) rfl ⟨.mk 15 kind (some ⟨bb, oo, none⟩) cv [.mk op2 kind2 A2 c2 args2 vk2 vb2 pos2 a2] vk vb pos a, rfl, hres.1, okS.keep (fun b h1 h2 => ⟨by omega, by have := hv.size; omega, (p9.other b (by omega)).trans ((setCell_other _ _ _ _ (show b ≠ w.heap.size by omega)).trans (hv.block b h2))⟩) hres.2, hb9⟩
            · as_aux_lemma =>
              have g1 : ((n : Int) == 1) = false := by rw [beq_eq_false_iff_ne]; omega
              have htw : ruleAt 3 (.mk 15 kind Av cv l' vk vb pos a) = none := by
                have hln : l'.length ≠ 1 := by omega
                show twiceR (.mk 15 kind Av cv l' vk vb pos a) = none
                exact twiceR_len hln
              have HTW := Lib.hid htw
              clear htw HNOK HRW
              have n0 : wB.cell? ⟨w.heap.size, 0, none⟩ = some (.int .i64 15) := kn.cell 0
              have n2 : wB.cell? ⟨w.heap.size, 2, none⟩ = some (.slice A n c) := kn.cell 2
              have f2 := kn.frozen 2
              have kn2 : Bk (wB.setCell ⟨w.heap.size, 2, none⟩ (.slice Av n cv)) w.heap.size 27 #[.int .i64 15, .int .i64 kind, .slice Av n cv, .int .i64 vk, .int .u64 vb, .int .i64 pos, .int .i64 a] := by simpa using kn.put 2 (.slice Av n cv)
              have kr2 := kr.far (p := ⟨w.heap.size, 2, none⟩) (by simp) (.slice Av n cv)
              have ka := Lib.hid kn2.at7
              clear kn kr kn2
              go_wp2_with (first | (refine wpList_load7 rfl _ rfl rfl ka.out ?_) | (refine wpList_put7 rfl _ _ rfl rfl rfl kr2 rfl ?_; intro w9 p9))
              have hb9 := p9.below _ _ ((hbel.trans (hv.mono (by omega))).setCell (Nat.le_refl _) _) (by omega)
              obtain ⟨d0, d1, d2, d3, d4, d5, d6⟩ := ncells p9.bk
              have hres := HRES.out (.mk 15 kind Av cv l' vk vb pos a) (self_at HKON.out HLOG.out HTW.out)
              have hz9 := p9.size
              simp at hz9
              exact bodyPost_ret (v := .agg #[.int .i64 15, .int .i64 kind, .slice Av n cv, .int .i64 vk, .int .u64 vb, .int .i64 pos, .int .i64 a]) (by simp [results, Try.results9, go_sem, d0, d1, d2, d3, d4, d5, d6]) rfl ⟨.mk 15 kind Av cv l' vk vb pos a, by show _ = Ending.returned (.agg #[.int .i64 15, .int .i64 kind, .slice Av l'.length cv, .int .i64 vk, .int .u64 vb, .int .i64 pos, .int .i64 a]); rw [hl'], hres.1, okS.keep (fun b h1 h2 => ⟨by omega, by have := hv.size; omega, (p9.other b (by omega)).trans ((setCell_other _ _ _ _ (show b ≠ w.heap.size by omega)).trans (hv.block b h2))⟩) hres.2, hb9⟩
          · as_aux_lemma =>
            have g15 : (op == 15) = false := by rw [beq_eq_false_iff_ne]; exact hop
            have htw : ruleAt 3 (.mk op kind Av cv l' vk vb pos a) = none := by
              show twiceR (.mk op kind Av cv l' vk vb pos a) = none
              exact twiceR_no hop
            have HTW := Lib.hid htw
            clear htw HNOK HRW
            have n0 : wB.cell? ⟨w.heap.size, 0, none⟩ = some (.int .i64 op) := kn.cell 0
            have n2 : wB.cell? ⟨w.heap.size, 2, none⟩ = some (.slice A n c) := kn.cell 2
            have f2 := kn.frozen 2
            have kn2 : Bk (wB.setCell ⟨w.heap.size, 2, none⟩ (.slice Av n cv)) w.heap.size 27 #[.int .i64 op, .int .i64 kind, .slice Av n cv, .int .i64 vk, .int .u64 vb, .int .i64 pos, .int .i64 a] := by simpa using kn.put 2 (.slice Av n cv)
            have kr2 := kr.far (p := ⟨w.heap.size, 2, none⟩) (by simp) (.slice Av n cv)
            have ka := Lib.hid kn2.at7
            clear kn kr kn2
            go_wp2_with (first | (refine wpList_load7 rfl _ rfl rfl ka.out ?_) | (refine wpList_put7 rfl _ _ rfl rfl rfl kr2 rfl ?_; intro w9 p9))
            have hb9 := p9.below _ _ ((hbel.trans (hv.mono (by omega))).setCell (Nat.le_refl _) _) (by omega)
            obtain ⟨d0, d1, d2, d3, d4, d5, d6⟩ := ncells p9.bk
            have hres := HRES.out (.mk op kind Av cv l' vk vb pos a) (self_at HKON.out HLOG.out HTW.out)
            have hz9 := p9.size
            simp at hz9
            exact bodyPost_ret (v := .agg #[.int .i64 op, .int .i64 kind, .slice Av n cv, .int .i64 vk, .int .u64 vb, .int .i64 pos, .int .i64 a]) (by simp [results, Try.results9, go_sem, d0, d1, d2, d3, d4, d5, d6]) rfl ⟨.mk op kind Av cv l' vk vb pos a, by show _ = Ending.returned (.agg #[.int .i64 op, .int .i64 kind, .slice Av l'.length cv, .int .i64 vk, .int .u64 vb, .int .i64 pos, .int .i64 a]); rw [hl'], hres.1, okS.keep (fun b h1 h2 => ⟨by omega, by have := hv.size; omega, (p9.other b (by omega)).trans ((setCell_other _ _ _ _ (show b ≠ w.heap.size by omega)).trans (hv.block b h2))⟩) hres.2, hb9⟩

theorem rfold_any : ∀ (d : Nat) (n : NodeV) (w : World) (B : Nat), B ≤ w.heap.size → okS (fun b => b < B) d n w → Calls Try.prog 9 #[n.val] w (FoldOk d (foldT d (treeN d n)) (fun b => b < B ∨ w.heap.size ≤ b) w.heap.size w)
  | 0, _, _, _, _, h => h.elim
  | d + 1, .mk op kind A c args vk vb pos a, w, B, hB, h => by
    by_cases h0 : args.length = 0
    · obtain rfl := List.eq_nil_of_length_eq_zero h0
      exact rfold_leaf d op kind A c vk vb pos a _ _ w (fun w' hw => okS.keep (fun b h1 h2 => ⟨.inl h1, by have := hw.size; omega, hw.block b h2⟩) h) leaf_tree
    · exact rfold_step d (fun x w B hB hx => rfold_any d x w B hB hx) op kind A c args vk vb pos a w B hB h h0
end Go.Proofs.Ytkfpmoilfillmaa
