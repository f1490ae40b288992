/- Layer 12: the program's fold of a node. No conditions. -/
import Derived.Test.YtkfpmoilfillmaaFoE
namespace Go.Proofs.Ytkfpmoilfillmaa
open Go.RowKit
set_option linter.unusedVariables false
set_option linter.unusedSimpArgs false

theorem setCell_other (w : World) (p : Addr) (u : Value) (b : Nat) (h : b ≠ p.block) : (w.setCell p u).heap[b]? = w.heap[b]? := Below.heap_setCell w p u b h
theorem put7_other {w : World} {g b : Nat} {d0 d1 d2 d3 d4 d5 d6 : Value} (h : b ≠ g) : (put7 w g d0 d1 d2 d3 d4 d5 d6).heap[b]? = w.heap[b]? := by
  unfold put7
  rw [setCell_other _ _ _ _ h, setCell_other _ _ _ _ h, setCell_other _ _ _ _ h, setCell_other _ _ _ _ h, setCell_other _ _ _ _ h, setCell_other _ _ _ _ h, setCell_other _ _ _ _ h]
/-- Behind the store: the block holds the cells, all others are as they were. -/
structure Put7 (w : World) (g : Nat) (t : TypeId) (cs : Array Value) (w' : World) : Prop where
  bk : Bk w' g t cs
  size : w'.heap.size = w.heap.size
  other : ∀ b : Nat, b ≠ g → w'.heap[b]? = w.heap[b]?
  below : ∀ (B : Nat) (a0 : World), Below B a0 w → B ≤ g → Below B a0 w'
theorem wpList_put7 {w : World} {ops : Array Oper} {rest : List Oper} {op : Oper} {a : Act} {Q : Exit → Act → World → Prop} {g : Nat} {c0 c1 c2 c3 c4 c5 c6 d0 d1 d2 d3 d4 d5 d6 : Value}
    (hg : op.guard = none) (x y : Operand) (hop : op.op = Op.store 27 x y) (hx : a.eval x = .pointer (some ⟨g, 0, none⟩)) (hy : a.eval y = .agg #[d0, d1, d2, d3, d4, d5, d6]) {t : TypeId} (h : Bk w g t #[c0, c1, c2, c3, c4, c5, c6])
    (h1 : (d0.oneCell' && d1.oneCell' && d2.oneCell' && d3.oneCell' && d4.oneCell' && d5.oneCell' && d6.oneCell') = true)
    (hK : ∀ w' : World, Put7 w g t #[d0, d1, d2, d3, d4, d5, d6] w' → wpList Try.prog ops Q rest (a.put op.dst undef) w') : wpList Try.prog ops Q (op :: rest) a w := by
  refine wpList_plain hg fun K' hK' => ?_
  simp only [Bool.and_eq_true] at h1
  obtain ⟨⟨⟨⟨⟨⟨e0, e1⟩, e2⟩, e3⟩, e4⟩, e5⟩, e6⟩ := h1
  unfold Oper.wp
  simp [execOp, hop, hx, hy, run_store7 h e0 e1 e2 e3 e4 e5 e6, Result.andThen]
  exact hK' _ _ (hK _ ⟨h.put7, put7_size, fun _ hb => put7_other hb, fun _ _ hb hg => below_put7 hb hg⟩)

/-- A node told, with its tree. -/
def FoldOk (d : Nat) (t : T) (S : Nat → Prop) (base : Nat) (w : World) (e : Ending) (w' : World) : Prop :=
  ∃ r : NodeV, e = .returned r.val ∧ treeN d r = t ∧ okS S d r w' ∧ Below base w w'
/-- The rules, by their places. -/
def ruleAt : Nat → NodeV → Option NodeV
  | 0 => conR
  | 1 => decR
  | 2 => neutR
  | 3 => twiceR
  | _ => fun _ => none
theorem ruleR_at {n r : NodeV} (k : Nat) (hk : k < 4) (h0 : ∀ j, j < k → ruleAt j n = none) (h1 : ruleAt k n = some r) : ruleR n = r := by
  unfold ruleR
  match k, hk, h0, h1 with
  | 0, _, h0, h1 => rw [show conR n = some r from h1]
  | 1, _, h0, h1 => rw [show conR n = none from h0 0 (by omega), show decR n = some r from h1]
  | 2, _, h0, h1 => rw [show conR n = none from h0 0 (by omega), show decR n = none from h0 1 (by omega), show neutR n = some r from h1]
  | 3, _, h0, h1 => rw [show conR n = none from h0 0 (by omega), show decR n = none from h0 1 (by omega), show neutR n = none from h0 2 (by omega), show twiceR n = some r from h1]
theorem ruleR_self {n : NodeV} (h0 : ∀ j, j < 4 → ruleAt j n = none) : ruleR n = n := by
  unfold ruleR
  rw [show conR n = none from h0 0 (by omega), show decR n = none from h0 1 (by omega), show neutR n = none from h0 2 (by omega), show twiceR n = none from h0 3 (by omega)]
theorem ruleAt_ok {w : World} {S : Nat → Prop} {d : Nat} {op kind : Int} {A : Option Addr} {c : Nat} {args : List NodeV} {vk : Int} {vb : Nat} {pos a : Int} {r : NodeV} (k : Nat) (h : ∀ x ∈ args, okS S d x w) (h1 : ruleAt k (.mk op kind A c args vk vb pos a) = some r) : okS S (d + 1) r w := by
  match k, h1 with
  | 0, h1 => exact con_ok (op := op) (kind := kind) (A := A) (c := c) (vk := vk) (vb := vb) (pos := pos) (a := a) h h1
  | 1, h1 => exact dec_ok (op := op) (kind := kind) (A := A) (c := c) (vk := vk) (vb := vb) (pos := pos) (a := a) (args := args) h1
  | 2, h1 => exact neut_ok (op := op) (kind := kind) (A := A) (c := c) (vk := vk) (vb := vb) (pos := pos) (a := a) h h1
  | 3, h1 => exact twice_ok (op := op) (kind := kind) (A := A) (c := c) (vk := vk) (vb := vb) (pos := pos) (a := a) h h1
theorem node_tree {w : World} {B d : Nat} {op kind : Int} {A A2 : Option Addr} {c c2 : Nat} {args l : List NodeV} {vk : Int} {vb : Nat} {pos a : Int} {r : NodeV} (h0 : args.length ≠ 0) (h : ∀ x ∈ l, okN d x w B) (hm : l.map (treeN d) = args.map fun x => foldT d (treeN d x))
    (hr : ruleR (.mk op kind A2 c2 l vk vb pos a) = r) : treeN (d + 1) r = foldT (d + 1) (treeN (d + 1) (.mk op kind A c args vk vb pos a)) := by
  show _ = if (args.map (treeN d)).length = 0 then _ else ruleT (.mk op kind ((args.map (treeN d)).map (foldT d)) vk vb pos a)
  rw [if_neg (by simpa using h0), List.map_map, show args.map (foldT d ∘ treeN d) = l.map (treeN d) from hm.symm, ← hr]
  exact (rule_tree h).symm
theorem leaf_tree {d : Nat} {op kind : Int} {A : Option Addr} {c : Nat} {vk : Int} {vb : Nat} {pos a : Int} : treeN (d + 1) (.mk op kind A c [] vk vb pos a) = foldT (d + 1) (treeN (d + 1) (.mk op kind A c [] vk vb pos a)) := rfl

/-- What a rule tells of a node, case by case. -/
def CallOk (f : FuncId) (R : NodeV → Option NodeV) (op kind : Int) (A : Option Addr) (args : List NodeV) (c : Nat) (n : Nat) (vk : Int) (vb : Nat) (pos a : Int) (w : World) : Prop :=
  (R (.mk op kind A c args vk vb pos a) = none → Calls Try.prog f #[.agg #[], .agg #[.int .i64 op, .int .i64 kind, .slice A n c, .int .i64 vk, .int .u64 vb, .int .i64 pos, .int .i64 a]] w fun e w' =>
    e = .returned (.tuple #[.agg #[.int .i64 op, .int .i64 kind, .slice A n c, .int .i64 vk, .int .u64 vb, .int .i64 pos, .int .i64 a], .bool false]) ∧ Below w.heap.size w w') ∧
  (∀ (op2 kind2 : Int) (A2 : Option Addr) (c2 : Nat) (args2 : List NodeV) (vk2 : Int) (vb2 : Nat) (pos2 a2 : Int), R (.mk op kind A c args vk vb pos a) = some (.mk op2 kind2 A2 c2 args2 vk2 vb2 pos2 a2) → Calls Try.prog f #[.agg #[], .agg #[.int .i64 op, .int .i64 kind, .slice A n c, .int .i64 vk, .int .u64 vb, .int .i64 pos, .int .i64 a]] w fun e w' =>
    e = .returned (.tuple #[.agg #[.int .i64 op2, .int .i64 kind2, .slice A2 args2.length c2, .int .i64 vk2, .int .u64 vb2, .int .i64 pos2, .int .i64 a2], .bool true]) ∧ Below w.heap.size w w')
theorem RuleOk.call {f : FuncId} {R : NodeV → Option NodeV} (h : RuleOk f R) {op kind : Int} {A : Option Addr} {args : List NodeV} {c : Nat} {vk : Int} {vb : Nat} {pos a : Int} {d : Nat} {w : World} {n : Nat} (hlen : args.length = n) (hn : okN (d + 1) (.mk op kind A c args vk vb pos a) w w.heap.size) : CallOk f R op kind A args c n vk vb pos a w := by
  subst hlen
  have hc := h op kind A args c vk vb pos a w d hn.1 hn.2.1 hn.2.2.2
  refine ⟨fun hr => ?_, fun op2 kind2 A2 c2 args2 vk2 vb2 pos2 a2 hr => ?_⟩
  · rw [hr] at hc; exact hc
  · rw [hr] at hc; exact hc
theorem wpList_pick {w : World} {ops : Array Oper} {rest : List Oper} {op : Oper} {a : Act} {Q : Exit → Act → World → Prop} {t : TypeId} {arr i v : Value} (hg : op.guard = none) (x y : Operand) (hop : op.op = Op.index t x y) (hx : a.eval x = arr) (hy : a.eval y = i)
    (hr : (Instr.index t arr i).run Try.prog w = .ok v w) (hK : wpList Try.prog ops Q rest (a.put op.dst v) w) : wpList Try.prog ops Q (op :: rest) a w := by
  refine wpList_plain hg fun K' hK' => ?_
  unfold Oper.wp
  simp [execOp, hop, hx, hy, hr, Result.andThen]
  exact hK' _ _ hK
/-- The four method values. -/
def rulesV : Value := .agg #[.func (.func 24) #[.agg #[]] #[], .func (.func 25) #[.agg #[]] #[], .func (.func 26) #[.agg #[]] #[], .func (.func 27) #[.agg #[]] #[]]
theorem run_rule0 (w : World) : (Instr.index 39 (.agg #[.func (.func 24) #[.agg #[]] #[], .func (.func 25) #[.agg #[]] #[], .func (.func 26) #[.agg #[]] #[], .func (.func 27) #[.agg #[]] #[]]) (.int .i64 0)).run Try.prog w = .ok (.func (.func 24) #[.agg #[]] #[]) w := by kernel_rfl
theorem run_rule1 (w : World) : (Instr.index 39 (.agg #[.func (.func 24) #[.agg #[]] #[], .func (.func 25) #[.agg #[]] #[], .func (.func 26) #[.agg #[]] #[], .func (.func 27) #[.agg #[]] #[]]) (.int .i64 1)).run Try.prog w = .ok (.func (.func 25) #[.agg #[]] #[]) w := by kernel_rfl
theorem run_rule2 (w : World) : (Instr.index 39 (.agg #[.func (.func 24) #[.agg #[]] #[], .func (.func 25) #[.agg #[]] #[], .func (.func 26) #[.agg #[]] #[], .func (.func 27) #[.agg #[]] #[]]) (.int .i64 2)).run Try.prog w = .ok (.func (.func 26) #[.agg #[]] #[]) w := by kernel_rfl
theorem run_rule3 (w : World) : (Instr.index 39 (.agg #[.func (.func 24) #[.agg #[]] #[], .func (.func 25) #[.agg #[]] #[], .func (.func 26) #[.agg #[]] #[], .func (.func 27) #[.agg #[]] #[]]) (.int .i64 3)).run Try.prog w = .ok (.func (.func 27) #[.agg #[]] #[]) w := by kernel_rfl

set_option maxRecDepth 100000 in
set_option maxHeartbeats 4000000 in
theorem fold_leaf (d : Nat) (op kind : Int) (A : Option Addr) (c : Nat) (vk : Int) (vb : Nat) (pos a : Int) (TR : T) (S : Nat → Prop) (w : World) (hok : ∀ w', Below w.heap.size w w' → okS S (d + 1) (.mk op kind A c [] vk vb pos a) w') (ht : treeN (d + 1) (.mk op kind A c [] vk vb pos a) = TR) :
    Calls Try.prog 8 #[.agg #[.int .i64 op, .int .i64 kind, .slice A 0 c, .int .i64 vk, .int .u64 vb, .int .i64 pos, .int .i64 a]] w (FoldOk (d + 1) TR S w.heap.size w) := by
  have HOK := Lib.hid hok
  have HT := Lib.hid ht
  have hbe := bel2 w (.cells #[.int .i64 op, .int .i64 kind, .slice A 0 c, .int .i64 vk, .int .u64 vb, .int .i64 pos, .int .i64 a] 27) (.cells #[.int .i64 0, .int .i64 0, .slice none 0 0, .int .i64 0, .int .u64 0, .int .i64 0, .int .i64 0] 27)
  have kn := (Bk.new w 27 #[.int .i64 op, .int .i64 kind, .slice A 0 c, .int .i64 vk, .int .u64 vb, .int .i64 pos, .int .i64 a]).alloc (.cells #[.int .i64 0, .int .i64 0, .slice none 0 0, .int .i64 0, .int .u64 0, .int .i64 0, .int .i64 0] 27)
  have kr := Bk.newAt (w := w.alloc (.cells #[.int .i64 op, .int .i64 kind, .slice A 0 c, .int .i64 vk, .int .u64 vb, .int .i64 pos, .int .i64 a] 27)) (g := w.heap.size + 1) (by simp) 27 #[.int .i64 0, .int .i64 0, .slice none 0 0, .int .i64 0, .int .u64 0, .int .i64 0, .int .i64 0]
  have n2 := kn.cell 2
  simp at n2
  have ka := Lib.hid kn.at7
  clear hok ht
  go_enter Try.func8, Try.ntmps8
  go_wp2_with (first | (refine wpList_load7 rfl _ rfl rfl ka.out ?_) | (refine wpList_put7 rfl _ _ rfl rfl rfl kr rfl ?_; intro w9 p9; replace hbe := p9.below _ _ hbe (by omega); clear kr))
  have k9 := p9.bk
  obtain ⟨d0, d1, d2, d3, d4, d5, d6⟩ := ncells k9
  exact bodyPost_ret (v := .agg #[.int .i64 op, .int .i64 kind, .slice A 0 c, .int .i64 vk, .int .u64 vb, .int .i64 pos, .int .i64 a]) (by simp [results, Try.results8, go_sem, d0, d1, d2, d3, d4, d5, d6]) rfl ⟨.mk op kind A c [] vk vb pos a, rfl, HT.out, HOK.out _ hbe, hbe⟩

set_option maxRecDepth 100000 in
set_option maxHeartbeats 10000000 in
theorem fold_step (d : Nat) (ih : ∀ (x : NodeV) (w : World) (B : Nat), B ≤ w.heap.size → okS (fun b => b < B) d x w → Calls Try.prog 8 #[x.val] w (FoldOk d (foldT d (treeN d x)) (fun b => b < B ∨ w.heap.size ≤ b) w.heap.size w))
    (op kind : Int) (A : Option Addr) (c : Nat) (args : List NodeV) (vk : Int) (vb : Nat) (pos a : Int) (w : World) (B : Nat) (hB : B ≤ w.heap.size) (hok : okS (fun b => b < B) (d + 1) (.mk op kind A c args vk vb pos a) w) (h0 : args.length ≠ 0) :
    Calls Try.prog 8 #[.agg #[.int .i64 op, .int .i64 kind, .slice A args.length c, .int .i64 vk, .int .u64 vb, .int .i64 pos, .int .i64 a]] w (FoldOk (d + 1) (foldT (d + 1) (treeN (d + 1) (.mk op kind A c args vk vb pos a))) (fun b => b < B ∨ w.heap.size ≤ b) w.heap.size w) := by
  obtain ⟨iN, hN, hN0, hN1, hN2⟩ := info_parts infoN
  have HIH := Lib.hid ih
  have HRD := Lib.hid hok.1.rd
  have hl := hok.2.1
  have hvb := hok.2.2.1
  have HARG := Lib.hid hok.2.2.2
  generalize hTR : foldT (d + 1) (treeN (d + 1) (.mk op kind A c args vk vb pos a)) = TR
  have htr : ∀ (Av : Option Addr) (cv : Nat) (l : List NodeV) (r : NodeV) (w5 : World) (B5 : Nat), (∀ x ∈ l, okN d x w5 B5) → (l.map (treeN d) = args.map fun x => foldT d (treeN d x)) → ruleR (.mk op kind Av cv l vk vb pos a) = r → treeN (d + 1) r = TR := fun Av cv l r w5 B5 h1 h2 h3 => by rw [← hTR]; exact node_tree h0 h1 h2 h3
  have HTR := Lib.hid htr
  have hbe0 := bel2 w (.cells #[.int .i64 op, .int .i64 kind, .slice A args.length c, .int .i64 vk, .int .u64 vb, .int .i64 pos, .int .i64 a] 27) (.cells #[.int .i64 0, .int .i64 0, .slice none 0 0, .int .i64 0, .int .u64 0, .int .i64 0, .int .i64 0] 27)
  have kn0 := (Bk.new w 27 #[.int .i64 op, .int .i64 kind, .slice A args.length c, .int .i64 vk, .int .u64 vb, .int .i64 pos, .int .i64 a]).alloc (.cells #[.int .i64 0, .int .i64 0, .slice none 0 0, .int .i64 0, .int .u64 0, .int .i64 0, .int .i64 0] 27)
  have kr0 := Bk.newAt (w := w.alloc (.cells #[.int .i64 op, .int .i64 kind, .slice A args.length c, .int .i64 vk, .int .u64 vb, .int .i64 pos, .int .i64 a] 27)) (g := w.heap.size + 1) (by simp) 27 #[.int .i64 0, .int .i64 0, .slice none 0 0, .int .i64 0, .int .u64 0, .int .i64 0, .int .i64 0]
  have n2 := kn0.cell 2
  simp at n2
  have g0 : ((args.length : Int) == 0) = false := by rw [beq_eq_false_iff_ne]; omega
  clear hok hTR htr ih
  go_enter Try.func8, Try.ntmps8
  go_wp2_with fail
  clear n2
  go_loopw [3, 18] (fun vs i wr => ∃ (k : Nat) (Av : Option Addr) (cv : Nat) (l' : List NodeV), k ≤ args.length ∧ i = .int .i64 k ∧ vs = .slice Av k cv ∧ Below w.heap.size w wr ∧ Bk wr w.heap.size 27 #[.int .i64 op, .int .i64 kind, .slice A args.length c, .int .i64 vk, .int .u64 vb, .int .i64 pos, .int .i64 a] ∧ Bk wr (w.heap.size + 1) 27 #[.int .i64 0, .int .i64 0, .slice none 0 0, .int .i64 0, .int .u64 0, .int .i64 0, .int .i64 0] ∧ l'.length = k ∧
      Hid (l'.map (treeN d) = (args.take k).map fun x => foldT d (treeN d x)) ∧ wr.ownsRow (w.heap.size + 2) 27 7 vs k (l'.flatMap NodeV.cells) ∧ Hid (∀ y ∈ l', okS (fun b => (b < B ∨ w.heap.size + 2 ≤ b) ∧ some b ≠ vs.ownBlock) d y wr)) (fun _ i _ => args.length - (intOf i).toNat)
  case atStart => exact ⟨0, none, 0, [], Nat.zero_le _, rfl, rfl, hbe0, kn0, kr0, rfl, Lib.hid (by simp), World.ownsRow_nil _ _ _ _, Lib.hid (by simp)⟩
  case round =>
    rename World => wl
    clear hbe0 kn0 kr0
    obtain ⟨k, Av, cv, l', hk, rfl, rfl, hbel, kn, kr, hl', hmap, hown, hoks⟩ := hrel
    have hz := kr.lt
    by_cases hlt : k < args.length
    · as_aux_lemma =>
      obtain ⟨b, o, rfl, hb, hc⟩ := (HRD.out.below hbel).elem (f := NodeV.cells) (n := 7) NodeV.len (by omega) hlt
      have hx := HARG.out args[k] (by simp)
      have hnext : (args.take (k + 1)).map (fun x => foldT d (treeN d x)) = (args.take k).map (fun x => foldT d (treeN d x)) ++ [foldT d (treeN d args[k])] := by
        rw [List.take_succ_eq_append_getElem hlt, List.map_append]; rfl
      generalize args[k] = x at *
      obtain ⟨op2, kind2, A2, c2, args2, vk2, vb2, pos2, a2⟩ := x
      have HNX := Lib.hid hnext
      have hc' : ∀ (j : Nat) (u : Value), [.int .i64 op2, .int .i64 kind2, .slice A2 args2.length c2, .int .i64 vk2, .int .u64 vb2, .int .i64 pos2, .int .i64 a2][j]? = some u → wl.cell? ⟨b, o + k * 7 + j, none⟩ = some u := hc
      have HC := Lib.hid hc'
      have hbx : Below w.heap.size w (wl.alloc (.cells #[.int .i64 op2, .int .i64 kind2, .slice A2 args2.length c2, .int .i64 vk2, .int .u64 vb2, .int .i64 pos2, .int .i64 a2] 27)) := hbel.alloc (by omega) _
      have hrec := HIH.out (.mk op2 kind2 A2 c2 args2 vk2 vb2 pos2 a2) (wl.alloc (.cells #[.int .i64 op2, .int .i64 kind2, .slice A2 args2.length c2, .int .i64 vk2, .int .u64 vb2, .int .i64 pos2, .int .i64 a2] 27)) B (by simp; omega) (okS.keep (fun b h1 h2 => ⟨h1, by have := hbx.size; omega, hbx.block b h2⟩) hx)
      have ka := Lib.hid (Bk.new wl 27 #[.int .i64 op2, .int .i64 kind2, .slice A2 args2.length c2, .int .i64 vk2, .int .u64 vb2, .int .i64 pos2, .int .i64 a2]).at7
      have HREC := Lib.hid hrec
      clear hrec hx hc hc' hnext HIH
      go_wp2_with (first | (refine wpList_load7 rfl _ rfl rfl HC.out ?_) | (refine wpList_load7 rfl _ rfl rfl ka.out ?_))
      refine HREC.out.mono ?_
      rintro e w1 ⟨⟨op3, kind3, A3, c3, args3, vk3, vb3, pos3, a3⟩, rfl, htree, hok3, hb1⟩
      have hsz : (wl.alloc (.cells #[.int .i64 op2, .int .i64 kind2, .slice A2 args2.length c2, .int .i64 vk2, .int .u64 vb2, .int .i64 pos2, .int .i64 a2] 27)).heap.size = wl.heap.size + 1 := by simp
      rw [hsz] at hok3 hb1
      have hown1 : w1.ownsRow (w.heap.size + 2) 27 7 (.slice Av k cv) k (l'.flatMap NodeV.cells) := own_below (hown.alloc _) hb1 (fun q hq => by have := (hown.lt q hq).2; omega)
      have hbel1 : Below w.heap.size w w1 := hbx.trans (hb1.mono (by omega))
      replace kn := (kn.alloc (.cells #[.int .i64 op2, .int .i64 kind2, .slice A2 args2.length c2, .int .i64 vk2, .int .u64 vb2, .int .i64 pos2, .int .i64 a2] 27)).below hb1 (by omega)
      replace kr := (kr.alloc (.cells #[.int .i64 op2, .int .i64 kind2, .slice A2 args2.length c2, .int .i64 vk2, .int .u64 vb2, .int .i64 pos2, .int .i64 a2] 27)).below hb1 (by omega)
      have hz1 : wl.heap.size + 1 ≤ w1.heap.size := by have := hb1.size; simpa using this
      have hq : ∀ q, (Value.slice Av k cv).ownBlock = some q → w.heap.size + 2 ≤ q ∧ q < wl.heap.size := fun q h => hown.lt q h
      clear HREC HC ka hown
      go_wp2_with (first
        | (refine wpList_bs_node (by rfl) (.tmp 24) (by rfl) (by rfl) ?_)
        | (at_builtin; refine wpList_append_rd rfl _ _ 22 rfl (w.heap.size + 2) 27 iN _ 7 72 Try.underlying22 hN hN0 hN1 hN2 rfl (by decide) (.slice Av k cv) k _ rfl (hown1.alloc _) (w1.heap.size + 1) (some ⟨w1.heap.size, 0, none⟩) 1 1 (NodeV.mk op3 kind3 A3 c3 args3 vk3 vb3 pos3 a3).cells rfl ?c1 rfl ?c2 ?c3 ?c4 ?c5 ?_))
      case c1 => exact Rd.lit rfl _ _
      case c2 => intro u hu; simp [NodeV.cells] at hu; rcases hu with rfl | rfl | rfl | rfl | rfl | rfl | rfl <;> rfl
      case c3 => unfold maxLen; omega
      case c4 => omega
      case c5 => simp; omega
      intro A9 c9 w9 hown9 hg hwhich
      have hs2 : (w1.alloc (.cells #[.int .i64 op3, .int .i64 kind3, .slice A3 args3.length c3, .int .i64 vk3, .int .u64 vb3, .int .i64 pos3, .int .i64 a3] 27)).heap.size = w1.heap.size + 1 := by simp
      have hkeep : ∀ b : Nat, b < w1.heap.size → some b ≠ (Value.slice Av k cv).ownBlock → b < w9.heap.size ∧ w9.heap[b]? = w1.heap[b]? := by
        intro b h1 h3
        refine ⟨by have := hg.size; omega, ?_⟩
        rw [hg.block b (by omega) h3, Below.heap_alloc _ _ b h1]
      have hnew : ∀ b : Nat, b < w1.heap.size → some b ≠ (Value.slice Av k cv).ownBlock → some b ≠ (Value.slice A9 (k + 1) c9).ownBlock := by
        intro b h1 h2
        rcases hwhich with h | h
        · rw [h]; exact h2
        · rw [h]; intro he; injection he with he; omega
      have hyok : okS (fun b => (b < B ∨ w.heap.size + 2 ≤ b) ∧ some b ≠ (Value.slice A9 (k + 1) c9).ownBlock) d (.mk op3 kind3 A3 c3 args3 vk3 vb3 pos3 a3) w9 := by
        refine okS.keep (fun b h1 h2 => ?_) hok3
        have hne : some b ≠ (Value.slice Av k cv).ownBlock := fun h => by have := hq b h.symm; omega
        obtain ⟨k1, k2⟩ := hkeep b h2 hne
        exact ⟨⟨by omega, hnew b h2 hne⟩, k1, k2⟩
      have hoks9 : ∀ y ∈ l' ++ [NodeV.mk op3 kind3 A3 c3 args3 vk3 vb3 pos3 a3], okS (fun b => (b < B ∨ w.heap.size + 2 ≤ b) ∧ some b ≠ (Value.slice A9 (k + 1) c9).ownBlock) d y w9 := by
        intro y hy
        rcases List.mem_append.1 hy with hy | hy
        · refine okS.keep (fun b h1 h2 => ?_) (hoks.out y hy)
          obtain ⟨k1, k2⟩ := hkeep b (by omega) h1.2
          exact ⟨⟨h1.1, hnew b (by omega) h1.2⟩, k1, by rw [k2, hb1.block b (by omega), Below.heap_alloc _ _ b h2]⟩
        · simp only [List.mem_cons, List.not_mem_nil, or_false] at hy
          subst hy
          exact hyok
      have hmap9 : (l' ++ [NodeV.mk op3 kind3 A3 c3 args3 vk3 vb3 pos3 a3]).map (treeN d) = (args.take (k + 1)).map fun x => foldT d (treeN d x) := by
        rw [List.map_append, HNX.out, hmap.out, ← htree]; rfl
      have kn9 : Bk w9 w.heap.size 27 #[.int .i64 op, .int .i64 kind, .slice (some ⟨b, o, none⟩) args.length c, .int .i64 vk, .int .u64 vb, .int .i64 pos, .int .i64 a] := (hkeep _ kn.lt fun h => by have := hq _ h.symm; omega).2.trans kn
      have kr9 : Bk w9 (w.heap.size + 1) 27 #[.int .i64 0, .int .i64 0, .slice none 0 0, .int .i64 0, .int .u64 0, .int .i64 0, .int .i64 0] := (hkeep _ kr.lt fun h => by have := hq _ h.symm; omega).2.trans kr
      have hbel9 : Below w.heap.size w w9 := below_own (hbel1.alloc (by omega) _) (hown1.alloc _) (by omega) hg (by simp; omega)
      have hown10 : w9.ownsRow (w.heap.size + 2) 27 7 (.slice A9 (k + 1) c9) (k + 1) ((l' ++ [NodeV.mk op3 kind3 A3 c3 args3 vk3 vb3 pos3 a3]).flatMap NodeV.cells) := by
        rw [List.flatMap_append]
        simpa using hown9
      have HM := Lib.hid hmap9
      have HO := Lib.hid hoks9
      have hlen9 : (l' ++ [NodeV.mk op3 kind3 A3 c3 args3 vk3 vb3 pos3 a3]).length = k + 1 := by simp; omega
      clear hmap9 hoks9 hyok hnew hkeep hwhich hg hown9 hown1 htree hok3 hbel1 hb1 hsz hs2 kn kr hmap hoks HNX hq hbx hbel
      generalize (l' ++ [NodeV.mk op3 kind3 A3 c3 args3 vk3 vb3 pos3 a3]) = l9 at *
      go_wp2
      go_roundw
      case rel => exact ⟨k + 1, A9, c9, l9, by omega, by go_num, rfl, hbel9, kn9, kr9, hlen9, HM, hown10, HO⟩
      case measure => simp [intOf]; omega
    · as_aux_lemma =>
      obtain rfl : k = args.length := by omega
      have n2 := kn.cell 2
      have f2 := kn.frozen 2
      simp at n2
      have HRUL := Lib.hid (rules_any (wl.setCell ⟨w.heap.size, 2, none⟩ (.slice Av args.length cv)))
      go_wp2_with fail
      refine HRUL.out.mono ?_
      rintro e w5 ⟨rfl, hb5⟩
      have kn5 : Bk w5 w.heap.size 27 #[.int .i64 op, .int .i64 kind, .slice Av args.length cv, .int .i64 vk, .int .u64 vb, .int .i64 pos, .int .i64 a] := Bk.old (by simpa using kn.put 2 (.slice Av args.length cv)) hb5
      have kr5 := (kr.far (p := ⟨w.heap.size, 2, none⟩) (by simp) (.slice Av args.length cv)).old hb5
      have hz5 : wl.heap.size ≤ w5.heap.size := by have := hb5.size; simpa using this
      have hbe5 : Below w.heap.size w w5 := (hbel.setCell (Nat.le_refl _) _).trans (hb5.mono (by simp; omega))
      have hkeep : ∀ b : Nat, b < wl.heap.size → b ≠ w.heap.size → w5.heap[b]? = wl.heap[b]? := fun b h1 h2 => (hb5.block b (by simpa using h1)).trans (setCell_other _ _ _ _ h2)
      have nok : okS (fun b => b < B ∨ w.heap.size + 2 ≤ b) (d + 1) (.mk op kind Av cv l' vk vb pos a) w5 := by
        refine ⟨?_, by omega, hvb, fun y hy => okS.keep (fun b h1 h2 => ⟨h1.1, by omega, hkeep b h2 (by omega)⟩) (hoks.out y hy)⟩
        have h := own_rdS hown
        exact h.keep fun b h1 h2 => ⟨.inr h1, by omega, hkeep b h2 (by omega)⟩
      have htree : ∀ r, ruleR (.mk op kind Av cv l' vk vb pos a) = r → treeN (d + 1) r = TR := fun r hr => HTR.out Av cv l' r w5 w5.heap.size (fun x hx => (nok.2.2.2 x hx).n) (by rw [hmap.out, List.take_length]) hr
      have NOK5 := Lib.hid nok
      have HTREE := Lib.hid htree
      clear nok htree hkeep hoks hown hmap HTR HIH HRD HARG HRUL hb5 n2 f2 kn kr hbel
      go_wp2_with fail
      go_loopw [32] (fun i wr => ∃ k2 : Nat, k2 ≤ 4 ∧ i = .int .i64 k2 ∧ Below w.heap.size w wr ∧ Below w5.heap.size w5 wr ∧ Hid (∀ j, j < k2 → ruleAt j (.mk op kind Av cv l' vk vb pos a) = none)) (fun i _ => 4 - (intOf i).toNat)
      case atStart => exact ⟨0, by omega, rfl, hbe5, Below.refl _ _, Lib.hid fun j hj => by omega⟩
      case round =>
        obtain ⟨k2, hk2, rfl, hbe, hb, HLED⟩ := hrel
        have kn := kn5.old hb
        have kr := kr5.old hb
        have ka := Lib.hid kn.at7
        have hz6 := hb.size
        have hz7 := kr.lt
        have NOK := Lib.hid (okS.keep (S' := fun b => b < B ∨ w.heap.size + 2 ≤ b) (fun b h1 h2 => ⟨h1, by omega, hb.block b h2⟩) NOK5.out)
        clear NOK5 kn5 kr5
        have hcs : k2 = 0 ∨ k2 = 1 ∨ k2 = 2 ∨ k2 = 3 ∨ k2 = 4 := by omega
        rcases hcs with rfl | rfl | rfl | rfl | rfl
        · as_aux_lemma =>
          have hcall := RuleOk.call (w := wr) constants_any (d := d) (op := op) (kind := kind) (A := Av) (args := l') (c := cv) (vk := vk) (vb := vb) (pos := pos) (a := a) hl' NOK.out.n
          cases hR : ruleAt 0 (.mk op kind Av cv l' vk vb pos a) with
          | none =>
            have HC := Lib.hid (hcall.1 hR)
            have HL2 : Hid (∀ j, j < 1 → ruleAt j (.mk op kind Av cv l' vk vb pos a) = none) := Lib.hid fun j hj => by
              by_cases h : j = 0
              · rw [h]; exact hR
              · exact HLED.out j (by omega)
            clear hcall hR NOK HTREE HLED
            go_wp2_with (first | (refine wpList_pick rfl _ _ rfl rfl rfl (run_rule0 _) ?_) | (refine wpList_load7 rfl _ rfl rfl ka.out ?_))
            refine HC.out.mono ?_
            rintro e w6 ⟨rfl, hb6⟩
            replace hbe := hbe.trans (hb6.mono (by omega))
            replace hb := hb.trans (hb6.mono (by omega))
            replace hbe := hbe.alloc hbe.size (.cells #[.int .i64 op, .int .i64 kind, .slice Av args.length cv, .int .i64 vk, .int .u64 vb, .int .i64 pos, .int .i64 a] 27)
            replace hb := hb.alloc hb.size (.cells #[.int .i64 op, .int .i64 kind, .slice Av args.length cv, .int .i64 vk, .int .u64 vb, .int .i64 pos, .int .i64 a] 27)
            clear HC hb6 ka kn kr
            go_wp2_with fail
            go_roundw
            case rel => exact ⟨1, by omega, by go_num, hbe, hb, HL2⟩
            case measure => simp [intOf]
          | some r =>
            have hrok := ruleAt_ok 0 NOK.out.2.2.2 hR
            have hrt := HTREE.out r (ruleR_at 0 (by omega) HLED.out hR)
            obtain ⟨op3, kind3, A3, c3, args3, vk3, vb3, pos3, a3⟩ := r
            have HC := Lib.hid (hcall.2 _ _ _ _ _ _ _ _ _ hR)
            have HROK := Lib.hid hrok
            have HRT := Lib.hid hrt
            clear hcall hR NOK HTREE HLED hrok hrt
            go_wp2_with (first | (refine wpList_pick rfl _ _ rfl rfl rfl (run_rule0 _) ?_) | (refine wpList_load7 rfl _ rfl rfl ka.out ?_))
            refine HC.out.mono ?_
            rintro e w6 ⟨rfl, hb6⟩
            replace kr := (kr.old hb6).alloc (.cells #[.int .i64 op3, .int .i64 kind3, .slice A3 args3.length c3, .int .i64 vk3, .int .u64 vb3, .int .i64 pos3, .int .i64 a3] 27)
            have hrk : okS (fun b => b < B ∨ w.heap.size + 2 ≤ b) (d + 1) (.mk op3 kind3 A3 c3 args3 vk3 vb3 pos3 a3) (w6.alloc (.cells #[.int .i64 op3, .int .i64 kind3, .slice A3 args3.length c3, .int .i64 vk3, .int .u64 vb3, .int .i64 pos3, .int .i64 a3] 27)) := okS.keep (fun b h1 h2 => ⟨h1, by have := hb6.size; simp; omega, by rw [Below.heap_alloc _ _ b (by have := hb6.size; omega), hb6.block b h2]⟩) HROK.out
            replace HROK := Lib.hid hrk
            replace hbe := hbe.trans (hb6.mono (by omega))
            replace hbe := hbe.alloc hbe.size (.cells #[.int .i64 op3, .int .i64 kind3, .slice A3 args3.length c3, .int .i64 vk3, .int .u64 vb3, .int .i64 pos3, .int .i64 a3] 27)
            have k8 := Bk.new w6 27 #[.int .i64 op3, .int .i64 kind3, .slice A3 args3.length c3, .int .i64 vk3, .int .u64 vb3, .int .i64 pos3, .int .i64 a3]
            replace ka := Lib.hid k8.at7
            clear HC hb6 kn hb hrk k8
            go_wp2_with (first | (refine wpList_load7 rfl _ rfl rfl ka.out ?_) | (refine wpList_put7 rfl _ _ rfl rfl rfl kr rfl ?_; intro w9 p9; clear kr))
            have hb9 := p9.below _ _ hbe (by omega)
            obtain ⟨d0, d1, d2, d3, d4, d5, d6⟩ := ncells p9.bk
            exact bodyPost_ret (v := .agg #[.int .i64 op3, .int .i64 kind3, .slice A3 args3.length c3, .int .i64 vk3, .int .u64 vb3, .int .i64 pos3, .int .i64 a3]) (by simp [results, Try.results8, go_sem, d0, d1, d2, d3, d4, d5, d6]) rfl ⟨.mk op3 kind3 A3 c3 args3 vk3 vb3 pos3 a3, rfl, HRT.out, okS.keep (fun b h1 h2 => ⟨by omega, by have := p9.size; omega, p9.other b (by omega)⟩) HROK.out, hb9⟩
        · as_aux_lemma =>
          have hcall := RuleOk.call (w := wr) decided_any (d := d) (op := op) (kind := kind) (A := Av) (args := l') (c := cv) (vk := vk) (vb := vb) (pos := pos) (a := a) hl' NOK.out.n
          cases hR : ruleAt 1 (.mk op kind Av cv l' vk vb pos a) with
          | none =>
            have HC := Lib.hid (hcall.1 hR)
            have HL2 : Hid (∀ j, j < 2 → ruleAt j (.mk op kind Av cv l' vk vb pos a) = none) := Lib.hid fun j hj => by
              by_cases h : j = 1
              · rw [h]; exact hR
              · exact HLED.out j (by omega)
            clear hcall hR NOK HTREE HLED
            go_wp2_with (first | (refine wpList_pick rfl _ _ rfl rfl rfl (run_rule1 _) ?_) | (refine wpList_load7 rfl _ rfl rfl ka.out ?_))
            refine HC.out.mono ?_
            rintro e w6 ⟨rfl, hb6⟩
            replace hbe := hbe.trans (hb6.mono (by omega))
            replace hb := hb.trans (hb6.mono (by omega))
            replace hbe := hbe.alloc hbe.size (.cells #[.int .i64 op, .int .i64 kind, .slice Av args.length cv, .int .i64 vk, .int .u64 vb, .int .i64 pos, .int .i64 a] 27)
            replace hb := hb.alloc hb.size (.cells #[.int .i64 op, .int .i64 kind, .slice Av args.length cv, .int .i64 vk, .int .u64 vb, .int .i64 pos, .int .i64 a] 27)
            clear HC hb6 ka kn kr
            go_wp2_with fail
            go_roundw
            case rel => exact ⟨2, by omega, by go_num, hbe, hb, HL2⟩
            case measure => simp [intOf]
          | some r =>
            have hrok := ruleAt_ok 1 NOK.out.2.2.2 hR
            have hrt := HTREE.out r (ruleR_at 1 (by omega) HLED.out hR)
            obtain ⟨op3, kind3, A3, c3, args3, vk3, vb3, pos3, a3⟩ := r
            have HC := Lib.hid (hcall.2 _ _ _ _ _ _ _ _ _ hR)
            have HROK := Lib.hid hrok
            have HRT := Lib.hid hrt
            clear hcall hR NOK HTREE HLED hrok hrt
            go_wp2_with (first | (refine wpList_pick rfl _ _ rfl rfl rfl (run_rule1 _) ?_) | (refine wpList_load7 rfl _ rfl rfl ka.out ?_))
            refine HC.out.mono ?_
            rintro e w6 ⟨rfl, hb6⟩
            replace kr := (kr.old hb6).alloc (.cells #[.int .i64 op3, .int .i64 kind3, .slice A3 args3.length c3, .int .i64 vk3, .int .u64 vb3, .int .i64 pos3, .int .i64 a3] 27)
            have hrk : okS (fun b => b < B ∨ w.heap.size + 2 ≤ b) (d + 1) (.mk op3 kind3 A3 c3 args3 vk3 vb3 pos3 a3) (w6.alloc (.cells #[.int .i64 op3, .int .i64 kind3, .slice A3 args3.length c3, .int .i64 vk3, .int .u64 vb3, .int .i64 pos3, .int .i64 a3] 27)) := okS.keep (fun b h1 h2 => ⟨h1, by have := hb6.size; simp; omega, by rw [Below.heap_alloc _ _ b (by have := hb6.size; omega), hb6.block b h2]⟩) HROK.out
            replace HROK := Lib.hid hrk
            replace hbe := hbe.trans (hb6.mono (by omega))
            replace hbe := hbe.alloc hbe.size (.cells #[.int .i64 op3, .int .i64 kind3, .slice A3 args3.length c3, .int .i64 vk3, .int .u64 vb3, .int .i64 pos3, .int .i64 a3] 27)
            have k8 := Bk.new w6 27 #[.int .i64 op3, .int .i64 kind3, .slice A3 args3.length c3, .int .i64 vk3, .int .u64 vb3, .int .i64 pos3, .int .i64 a3]
            replace ka := Lib.hid k8.at7
            clear HC hb6 kn hb hrk k8
            go_wp2_with (first | (refine wpList_load7 rfl _ rfl rfl ka.out ?_) | (refine wpList_put7 rfl _ _ rfl rfl rfl kr rfl ?_; intro w9 p9; clear kr))
            have hb9 := p9.below _ _ hbe (by omega)
            obtain ⟨d0, d1, d2, d3, d4, d5, d6⟩ := ncells p9.bk
            exact bodyPost_ret (v := .agg #[.int .i64 op3, .int .i64 kind3, .slice A3 args3.length c3, .int .i64 vk3, .int .u64 vb3, .int .i64 pos3, .int .i64 a3]) (by simp [results, Try.results8, go_sem, d0, d1, d2, d3, d4, d5, d6]) rfl ⟨.mk op3 kind3 A3 c3 args3 vk3 vb3 pos3 a3, rfl, HRT.out, okS.keep (fun b h1 h2 => ⟨by omega, by have := p9.size; omega, p9.other b (by omega)⟩) HROK.out, hb9⟩
        · as_aux_lemma =>
          have hcall := RuleOk.call (w := wr) neutral_any (d := d) (op := op) (kind := kind) (A := Av) (args := l') (c := cv) (vk := vk) (vb := vb) (pos := pos) (a := a) hl' NOK.out.n
          cases hR : ruleAt 2 (.mk op kind Av cv l' vk vb pos a) with
          | none =>
            have HC := Lib.hid (hcall.1 hR)
            have HL2 : Hid (∀ j, j < 3 → ruleAt j (.mk op kind Av cv l' vk vb pos a) = none) := Lib.hid fun j hj => by
              by_cases h : j = 2
              · rw [h]; exact hR
              · exact HLED.out j (by omega)
            clear hcall hR NOK HTREE HLED
            go_wp2_with (first | (refine wpList_pick rfl _ _ rfl rfl rfl (run_rule2 _) ?_) | (refine wpList_load7 rfl _ rfl rfl ka.out ?_))
            refine HC.out.mono ?_
            rintro e w6 ⟨rfl, hb6⟩
            replace hbe := hbe.trans (hb6.mono (by omega))
            replace hb := hb.trans (hb6.mono (by omega))
            replace hbe := hbe.alloc hbe.size (.cells #[.int .i64 op, .int .i64 kind, .slice Av args.length cv, .int .i64 vk, .int .u64 vb, .int .i64 pos, .int .i64 a] 27)
            replace hb := hb.alloc hb.size (.cells #[.int .i64 op, .int .i64 kind, .slice Av args.length cv, .int .i64 vk, .int .u64 vb, .int .i64 pos, .int .i64 a] 27)
            clear HC hb6 ka kn kr
            go_wp2_with fail
            go_roundw
            case rel => exact ⟨3, by omega, by go_num, hbe, hb, HL2⟩
            case measure => simp [intOf]
          | some r =>
            have hrok := ruleAt_ok 2 NOK.out.2.2.2 hR
            have hrt := HTREE.out r (ruleR_at 2 (by omega) HLED.out hR)
            obtain ⟨op3, kind3, A3, c3, args3, vk3, vb3, pos3, a3⟩ := r
            have HC := Lib.hid (hcall.2 _ _ _ _ _ _ _ _ _ hR)
            have HROK := Lib.hid hrok
            have HRT := Lib.hid hrt
            clear hcall hR NOK HTREE HLED hrok hrt
            go_wp2_with (first | (refine wpList_pick rfl _ _ rfl rfl rfl (run_rule2 _) ?_) | (refine wpList_load7 rfl _ rfl rfl ka.out ?_))
            refine HC.out.mono ?_
            rintro e w6 ⟨rfl, hb6⟩
            replace kr := (kr.old hb6).alloc (.cells #[.int .i64 op3, .int .i64 kind3, .slice A3 args3.length c3, .int .i64 vk3, .int .u64 vb3, .int .i64 pos3, .int .i64 a3] 27)
            have hrk : okS (fun b => b < B ∨ w.heap.size + 2 ≤ b) (d + 1) (.mk op3 kind3 A3 c3 args3 vk3 vb3 pos3 a3) (w6.alloc (.cells #[.int .i64 op3, .int .i64 kind3, .slice A3 args3.length c3, .int .i64 vk3, .int .u64 vb3, .int .i64 pos3, .int .i64 a3] 27)) := okS.keep (fun b h1 h2 => ⟨h1, by have := hb6.size; simp; omega, by rw [Below.heap_alloc _ _ b (by have := hb6.size; omega), hb6.block b h2]⟩) HROK.out
            replace HROK := Lib.hid hrk
            replace hbe := hbe.trans (hb6.mono (by omega))
            replace hbe := hbe.alloc hbe.size (.cells #[.int .i64 op3, .int .i64 kind3, .slice A3 args3.length c3, .int .i64 vk3, .int .u64 vb3, .int .i64 pos3, .int .i64 a3] 27)
            have k8 := Bk.new w6 27 #[.int .i64 op3, .int .i64 kind3, .slice A3 args3.length c3, .int .i64 vk3, .int .u64 vb3, .int .i64 pos3, .int .i64 a3]
            replace ka := Lib.hid k8.at7
            clear HC hb6 kn hb hrk k8
            go_wp2_with (first | (refine wpList_load7 rfl _ rfl rfl ka.out ?_) | (refine wpList_put7 rfl _ _ rfl rfl rfl kr rfl ?_; intro w9 p9; clear kr))
            have hb9 := p9.below _ _ hbe (by omega)
            obtain ⟨d0, d1, d2, d3, d4, d5, d6⟩ := ncells p9.bk
            exact bodyPost_ret (v := .agg #[.int .i64 op3, .int .i64 kind3, .slice A3 args3.length c3, .int .i64 vk3, .int .u64 vb3, .int .i64 pos3, .int .i64 a3]) (by simp [results, Try.results8, go_sem, d0, d1, d2, d3, d4, d5, d6]) rfl ⟨.mk op3 kind3 A3 c3 args3 vk3 vb3 pos3 a3, rfl, HRT.out, okS.keep (fun b h1 h2 => ⟨by omega, by have := p9.size; omega, p9.other b (by omega)⟩) HROK.out, hb9⟩
        · as_aux_lemma =>
          have hcall := RuleOk.call (w := wr) twice_any (d := d) (op := op) (kind := kind) (A := Av) (args := l') (c := cv) (vk := vk) (vb := vb) (pos := pos) (a := a) hl' NOK.out.n
          cases hR : ruleAt 3 (.mk op kind Av cv l' vk vb pos a) with
          | none =>
            have HC := Lib.hid (hcall.1 hR)
            have HL2 : Hid (∀ j, j < 4 → ruleAt j (.mk op kind Av cv l' vk vb pos a) = none) := Lib.hid fun j hj => by
              by_cases h : j = 3
              · rw [h]; exact hR
              · exact HLED.out j (by omega)
            clear hcall hR NOK HTREE HLED
            go_wp2_with (first | (refine wpList_pick rfl _ _ rfl rfl rfl (run_rule3 _) ?_) | (refine wpList_load7 rfl _ rfl rfl ka.out ?_))
            refine HC.out.mono ?_
            rintro e w6 ⟨rfl, hb6⟩
            replace hbe := hbe.trans (hb6.mono (by omega))
            replace hb := hb.trans (hb6.mono (by omega))
            replace hbe := hbe.alloc hbe.size (.cells #[.int .i64 op, .int .i64 kind, .slice Av args.length cv, .int .i64 vk, .int .u64 vb, .int .i64 pos, .int .i64 a] 27)
            replace hb := hb.alloc hb.size (.cells #[.int .i64 op, .int .i64 kind, .slice Av args.length cv, .int .i64 vk, .int .u64 vb, .int .i64 pos, .int .i64 a] 27)
            clear HC hb6 ka kn kr
            go_wp2_with fail
            go_roundw
            case rel => exact ⟨4, by omega, by go_num, hbe, hb, HL2⟩
            case measure => simp [intOf]
          | some r =>
            have hrok := ruleAt_ok 3 NOK.out.2.2.2 hR
            have hrt := HTREE.out r (ruleR_at 3 (by omega) HLED.out hR)
            obtain ⟨op3, kind3, A3, c3, args3, vk3, vb3, pos3, a3⟩ := r
            have HC := Lib.hid (hcall.2 _ _ _ _ _ _ _ _ _ hR)
            have HROK := Lib.hid hrok
            have HRT := Lib.hid hrt
            clear hcall hR NOK HTREE HLED hrok hrt
            go_wp2_with (first | (refine wpList_pick rfl _ _ rfl rfl rfl (run_rule3 _) ?_) | (refine wpList_load7 rfl _ rfl rfl ka.out ?_))
            refine HC.out.mono ?_
            rintro e w6 ⟨rfl, hb6⟩
            replace kr := (kr.old hb6).alloc (.cells #[.int .i64 op3, .int .i64 kind3, .slice A3 args3.length c3, .int .i64 vk3, .int .u64 vb3, .int .i64 pos3, .int .i64 a3] 27)
            have hrk : okS (fun b => b < B ∨ w.heap.size + 2 ≤ b) (d + 1) (.mk op3 kind3 A3 c3 args3 vk3 vb3 pos3 a3) (w6.alloc (.cells #[.int .i64 op3, .int .i64 kind3, .slice A3 args3.length c3, .int .i64 vk3, .int .u64 vb3, .int .i64 pos3, .int .i64 a3] 27)) := okS.keep (fun b h1 h2 => ⟨h1, by have := hb6.size; simp; omega, by rw [Below.heap_alloc _ _ b (by have := hb6.size; omega), hb6.block b h2]⟩) HROK.out
            replace HROK := Lib.hid hrk
            replace hbe := hbe.trans (hb6.mono (by omega))
            replace hbe := hbe.alloc hbe.size (.cells #[.int .i64 op3, .int .i64 kind3, .slice A3 args3.length c3, .int .i64 vk3, .int .u64 vb3, .int .i64 pos3, .int .i64 a3] 27)
            have k8 := Bk.new w6 27 #[.int .i64 op3, .int .i64 kind3, .slice A3 args3.length c3, .int .i64 vk3, .int .u64 vb3, .int .i64 pos3, .int .i64 a3]
            replace ka := Lib.hid k8.at7
            clear HC hb6 kn hb hrk k8
            go_wp2_with (first | (refine wpList_load7 rfl _ rfl rfl ka.out ?_) | (refine wpList_put7 rfl _ _ rfl rfl rfl kr rfl ?_; intro w9 p9; clear kr))
            have hb9 := p9.below _ _ hbe (by omega)
            obtain ⟨d0, d1, d2, d3, d4, d5, d6⟩ := ncells p9.bk
            exact bodyPost_ret (v := .agg #[.int .i64 op3, .int .i64 kind3, .slice A3 args3.length c3, .int .i64 vk3, .int .u64 vb3, .int .i64 pos3, .int .i64 a3]) (by simp [results, Try.results8, go_sem, d0, d1, d2, d3, d4, d5, d6]) rfl ⟨.mk op3 kind3 A3 c3 args3 vk3 vb3 pos3 a3, rfl, HRT.out, okS.keep (fun b h1 h2 => ⟨by omega, by have := p9.size; omega, p9.other b (by omega)⟩) HROK.out, hb9⟩
        · as_aux_lemma =>
          have hrt := HTREE.out _ (ruleR_self HLED.out)
          have HROK := NOK
          have HRT := Lib.hid hrt
          clear hrt HTREE HLED NOK hb kn
          go_wp2_with (first | (refine wpList_load7 rfl _ rfl rfl ka.out ?_) | (refine wpList_put7 rfl _ _ rfl rfl rfl kr rfl ?_; intro w9 p9; clear kr))
          have hb9 := p9.below _ _ hbe (by omega)
          obtain ⟨d0, d1, d2, d3, d4, d5, d6⟩ := ncells p9.bk
          exact bodyPost_ret (v := .agg #[.int .i64 op, .int .i64 kind, .slice Av args.length cv, .int .i64 vk, .int .u64 vb, .int .i64 pos, .int .i64 a]) (by simp [results, Try.results8, go_sem, d0, d1, d2, d3, d4, d5, d6]) rfl ⟨.mk op kind Av cv l' vk vb pos a, by show _ = Ending.returned (.agg #[.int .i64 op, .int .i64 kind, .slice Av l'.length cv, .int .i64 vk, .int .u64 vb, .int .i64 pos, .int .i64 a]); rw [hl'], HRT.out, okS.keep (fun b h1 h2 => ⟨by omega, by have := p9.size; omega, p9.other b (by omega)⟩) HROK.out, hb9⟩
theorem fold_any : ∀ (d : Nat) (n : NodeV) (w : World) (B : Nat), B ≤ w.heap.size → okS (fun b => b < B) d n w → Calls Try.prog 8 #[n.val] w (FoldOk d (foldT d (treeN d n)) (fun b => b < B ∨ w.heap.size ≤ b) w.heap.size w)
  | 0, _, _, _, _, h => h.elim
  | d + 1, .mk op kind A c args vk vb pos a, w, B, hB, h => by
    by_cases h0 : args.length = 0
    · obtain rfl := List.eq_nil_of_length_eq_zero h0
      exact fold_leaf d op kind A c vk vb pos a _ _ w (fun w' hw => okS.keep (fun b h1 h2 => ⟨.inl h1, by have := hw.size; omega, hw.block b h2⟩) h) leaf_tree
    · exact fold_step d (fun x w B hB hx => fold_any d x w B hB hx) op kind A c args vk vb pos a w B hB h h0
end Go.Proofs.Ytkfpmoilfillmaa
