/- Layer 12: folding, on trees. Plain. -/
import Derived.Test.YtkfpmoilfillmaaFoD
import Derived.Test.YtkfpmoilfillmaaFoC1
import Derived.Test.YtkfpmoilfillmaaFoC2
import Derived.Test.YtkfpmoilfillmaaValM
namespace Go.Proofs.Ytkfpmoilfillmaa
open Go.RowKit
set_option linter.unusedVariables false
set_option linter.unusedSimpArgs false

/-- A node, without where it lies. -/
inductive T
  | mk (op kind : Int) (args : List T) (vk : Int) (vb : Nat) (pos attr : Int)
def treeN : Nat → NodeV → T
  | 0, _ => .mk 0 0 [] 0 0 0 0
  | d + 1, .mk op kind A c args vk vb pos a => .mk op kind (args.map (treeN d)) vk vb pos a
def isKT : T → Bool
  | .mk op _ _ _ _ _ _ => decide (op = 40)
def valKT : T → V
  | .mk _ _ _ vk vb _ _ => ⟨vk, vb⟩
def isCT (b : Nat) : T → Bool
  | .mk op _ _ vk vb _ _ => decide (op = 40) && (decide (vk = 2) && decide (vb = b))
def constT (kind : Int) (x : V) : T := .mk 40 kind [] x.k x.b 0 0
def conT : T → Option T
  | .mk op kind args vk vb pos a => if args.all isKT = true ∧ 1 ≤ op ∧ op ≤ 17 then some (constT kind (applyV op (args.map valKT))) else none
def decT : T → Option T
  | .mk op kind args vk vb pos a => if (logicB op args.length && args.any (isCT (orN op))) = true then some (.mk 40 kind [] 2 (orN op) 0 0) else none
def neutT : T → Option T
  | .mk op kind args vk vb pos a => match args with
    | [x, y] => if op = 13 ∨ op = 14 then (if isCT (1 - orN op) x = true then some y else if isCT (1 - orN op) y = true then some x else none) else none
    | _ => none
def twiceT : T → Option T
  | .mk op _ args _ _ _ _ => if op = 15 then match args with
    | [.mk op2 _ args2 _ _ _ _] => if op2 = 15 then match args2 with
      | [z] => some z
      | _ => none else none
    | _ => none else none
def ruleT (t : T) : T := match conT t with
  | some r => r
  | none => match decT t with
    | some r => r
    | none => match neutT t with
      | some r => r
      | none => match twiceT t with
        | some r => r
        | none => t
def foldT : Nat → T → T
  | 0, t => t
  | d + 1, .mk op kind args vk vb pos a => if args.length = 0 then .mk op kind args vk vb pos a else ruleT (.mk op kind (args.map (foldT d)) vk vb pos a)

section
variable {w : World} {B : Nat}
theorem treeN_up : ∀ {d : Nat} {n : NodeV}, okN d n w B → treeN (d + 1) n = treeN d n
  | 0, _, h => h.elim
  | d + 1, .mk op kind A c args vk vb pos a, h => by
    show T.mk op kind (args.map (treeN (d + 1))) vk vb pos a = T.mk op kind (args.map (treeN d)) vk vb pos a
    rw [List.map_congr_left fun x hx => treeN_up (h.2.2.2 x hx)]
theorem isKT_tree : ∀ {d : Nat} {n : NodeV}, okN d n w B → isKT (treeN d n) = isK n
  | 0, _, h => h.elim
  | d + 1, .mk .., _ => rfl
theorem valKT_tree : ∀ {d : Nat} {n : NodeV}, okN d n w B → valKT (treeN d n) = valK n
  | 0, _, h => h.elim
  | d + 1, .mk .., _ => rfl
theorem isCT_tree (b : Nat) : ∀ {d : Nat} {n : NodeV}, okN d n w B → isCT b (treeN d n) = isCN b n
  | 0, _, h => h.elim
  | d + 1, .mk .., _ => rfl
theorem all_tree {α β : Type} {f : α → β} {p : β → Bool} {q : α → Bool} : ∀ {l : List α}, (∀ x ∈ l, p (f x) = q x) → (l.map f).all p = l.all q
  | [], _ => rfl
  | x :: l, h => by rw [List.map_cons, List.all_cons, List.all_cons, h x (by simp), all_tree fun y hy => h y (by simp [hy])]
theorem any_tree {α β : Type} {f : α → β} {p : β → Bool} {q : α → Bool} : ∀ {l : List α}, (∀ x ∈ l, p (f x) = q x) → (l.map f).any p = l.any q
  | [], _ => rfl
  | x :: l, h => by rw [List.map_cons, List.any_cons, List.any_cons, h x (by simp), any_tree fun y hy => h y (by simp [hy])]
variable {d : Nat} {op kind : Int} {A : Option Addr} {c : Nat} {args : List NodeV} {vk : Int} {vb : Nat} {pos a : Int}
theorem con_tree (h : ∀ x ∈ args, okN d x w B) : conT (treeN (d + 1) (.mk op kind A c args vk vb pos a)) = (conR (.mk op kind A c args vk vb pos a)).map (treeN (d + 1)) := by
  show (if (args.map (treeN d)).all isKT = true ∧ 1 ≤ op ∧ op ≤ 17 then some (constT kind (applyV op ((args.map (treeN d)).map valKT))) else none) = (if args.all isK = true ∧ 1 ≤ op ∧ op ≤ 17 then some (constN kind (applyV op (args.map valK))) else none).map _
  rw [all_tree fun x hx => isKT_tree (h x hx), List.map_map, List.map_congr_left (f := valKT ∘ treeN d) (g := valK) fun x hx => valKT_tree (h x hx)]
  split <;> rfl
theorem dec_tree (h : ∀ x ∈ args, okN d x w B) : decT (treeN (d + 1) (.mk op kind A c args vk vb pos a)) = (decR (.mk op kind A c args vk vb pos a)).map (treeN (d + 1)) := by
  show (if (logicB op (args.map (treeN d)).length && (args.map (treeN d)).any (isCT (orN op))) = true then some (T.mk 40 kind [] 2 (orN op) 0 0) else none) = (if (logicB op args.length && args.any (isCN (orN op))) = true then some (NodeV.mk 40 kind none 0 [] 2 (orN op) 0 0) else none).map _
  rw [any_tree fun x hx => isCT_tree (orN op) (h x hx), List.length_map]
  split <;> rfl
theorem neut_tree (h : ∀ x ∈ args, okN d x w B) : neutT (treeN (d + 1) (.mk op kind A c args vk vb pos a)) = (neutR (.mk op kind A c args vk vb pos a)).map (treeN (d + 1)) := by
  match args, h with
  | [], _ => rfl
  | [_], _ => rfl
  | _ :: _ :: _ :: _, _ => rfl
  | [x, y], h =>
    have hx := h x (by simp)
    have hy := h y (by simp)
    show (if op = 13 ∨ op = 14 then (if isCT (1 - orN op) (treeN d x) = true then some (treeN d y) else if isCT (1 - orN op) (treeN d y) = true then some (treeN d x) else none) else none) =
      (if op = 13 ∨ op = 14 then (if isCN (1 - orN op) x = true then some y else if isCN (1 - orN op) y = true then some x else none) else none).map _
    rw [isCT_tree _ hx, isCT_tree _ hy]
    split
    · split
      · rw [Option.map_some, treeN_up hy]
      · split
        · rw [Option.map_some, treeN_up hx]
        · rfl
    · rfl
theorem twice_tree (h : ∀ x ∈ args, okN d x w B) : twiceT (treeN (d + 1) (.mk op kind A c args vk vb pos a)) = (twiceR (.mk op kind A c args vk vb pos a)).map (treeN (d + 1)) := by
  by_cases h15 : op = 15
  · subst h15
    match args, h with
    | [], _ => rfl
    | x :: y :: l, _ => cases x; cases d <;> rfl
    | [.mk op2 kind2 A2 c2 args2 vk2 vb2 pos2 a2], h =>
      have hx := h _ (List.mem_cons_self ..)
      cases d with
      | zero => exact hx.elim
      | succ d =>
        by_cases h15 : op2 = 15
        · subst h15
          match args2, hx.2.2.2 with
          | [], _ => rfl
          | _ :: _ :: _, _ => rfl
          | [z], hz =>
            have hz := hz z (by simp)
            show some (treeN d z) = some (treeN (d + 1 + 1) z)
            rw [treeN_up hz.up, treeN_up hz]
        · show (if op2 = 15 then _ else none) = (if op2 = 15 then _ else none : Option NodeV).map _
          rw [if_neg h15, if_neg h15]; rfl
  · rw [twiceR_no h15]
    exact if_neg h15
/-- What the four rules make of a node. -/
def ruleR (n : NodeV) : NodeV := match conR n with
  | some r => r
  | none => match decR n with
    | some r => r
    | none => match neutR n with
      | some r => r
      | none => match twiceR n with
        | some r => r
        | none => n
theorem rule_tree (h : ∀ x ∈ args, okN d x w B) : ruleT (treeN (d + 1) (.mk op kind A c args vk vb pos a)) = treeN (d + 1) (ruleR (.mk op kind A c args vk vb pos a)) := by
  unfold ruleT ruleR
  rw [con_tree h, dec_tree h, neut_tree h, twice_tree h]
  cases conR (.mk op kind A c args vk vb pos a) with
  | some r => rfl
  | none =>
    cases decR (.mk op kind A c args vk vb pos a) with
    | some r => rfl
    | none =>
      cases neutR (.mk op kind A c args vk vb pos a) with
      | some r => rfl
      | none => cases twiceR (.mk op kind A c args vk vb pos a) <;> rfl
end

section
variable {w : World} {S : Nat → Prop}
theorem okS.up : ∀ {d : Nat} {n : NodeV}, okS S d n w → okS S (d + 1) n w
  | 0, _, h => h.elim
  | d + 1, .mk .., h => ⟨h.1, h.2.1, h.2.2.1, fun x hx => (h.2.2.2 x hx).up⟩
theorem okS.mono {S' : Nat → Prop} (hs : ∀ b, S b → S' b) {d : Nat} {n : NodeV} (h : okS S d n w) : okS S' d n w := okS.keep (fun b h1 h2 => ⟨hs b h1, h2, rfl⟩) h
variable {d : Nat} {op kind : Int} {A : Option Addr} {c : Nat} {args : List NodeV} {vk : Int} {vb : Nat} {pos a : Int} {r : NodeV}
theorem con_ok (h : ∀ x ∈ args, okS S d x w) (hr : conR (.mk op kind A c args vk vb pos a) = some r) : okS S (d + 1) r w := by
  have hr : (if args.all isK = true ∧ 1 ≤ op ∧ op ≤ 17 then some (constN kind (applyV op (args.map valK))) else none) = some r := hr
  split at hr
  · injection hr with hr
    subst hr
    exact ⟨.inl rfl, Nat.zero_le _, apply_fits _ _ (fun y hy => by obtain ⟨q, hq, rfl⟩ := List.mem_map.1 hy; exact valK_fits (h q hq).n), fun _ hx => by cases hx⟩
  · cases hr
theorem dec_ok (hr : decR (.mk op kind A c args vk vb pos a) = some r) : okS S (d + 1) r w := by
  have hr : (if (logicB op args.length && args.any (isCN (orN op))) = true then some (NodeV.mk 40 kind none 0 [] 2 (orN op) 0 0) else none) = some r := hr
  split at hr
  · injection hr with hr
    subst hr
    exact ⟨.inl rfl, Nat.zero_le _, by unfold orN; split <;> decide, fun _ hx => by cases hx⟩
  · cases hr
theorem neut_ok (h : ∀ x ∈ args, okS S d x w) (hr : neutR (.mk op kind A c args vk vb pos a) = some r) : okS S (d + 1) r w := by
  match args, h, hr with
  | [x, y], h, hr =>
    have hr : (if op = 13 ∨ op = 14 then (if isCN (1 - orN op) x = true then some y else if isCN (1 - orN op) y = true then some x else none) else none) = some r := hr
    split at hr
    · split at hr
      · injection hr with hr; subst hr; exact (h _ (by simp)).up
      · split at hr
        · injection hr with hr; subst hr; exact (h _ (by simp)).up
        · cases hr
    · cases hr
theorem twice_ok (h : ∀ x ∈ args, okS S d x w) (hr : twiceR (.mk op kind A c args vk vb pos a) = some r) : okS S (d + 1) r w := by
  by_cases h15 : op = 15
  · subst h15
    match args, h, hr with
    | [], _, hr => cases hr
    | x :: y :: l, _, hr => cases x; cases hr
    | [.mk op2 kind2 A2 c2 args2 vk2 vb2 pos2 a2], h, hr =>
      have hx := h _ (List.mem_cons_self ..)
      by_cases h15 : op2 = 15
      · subst h15
        cases d with
        | zero => exact hx.elim
        | succ d =>
          match args2, hx, hr with
          | [z], hx, hr =>
            have hr : some z = some r := hr
            injection hr with hr
            subst hr
            exact (hx.2.2.2 z (by simp)).up.up
          | [], _, hr => cases hr
          | _ :: _ :: _, _, hr => cases hr
      · have hr : (if op2 = 15 then _ else none : Option NodeV) = some r := hr
        rw [if_neg h15] at hr; cases hr
  · rw [twiceR_no h15] at hr; cases hr
end

theorem twice_any : RuleOk 27 twiceR := by
  intro op kind A args c vk vb pos a w d hr hl hall
  by_cases h15 : op = 15
  · subst h15
    by_cases h1 : args.length = 1
    · match args, h1, hr, hall with
      | [.mk op2 kind2 A2 c2 args2 vk2 vb2 pos2 a2], _, hr, hall =>
        have hx := hall _ (List.mem_cons_self ..)
        rcases hr with h | ⟨b, o, rfl, hb, hc⟩
        · exact absurd (congrArg List.length h) (by simp [NodeV.cells])
        · by_cases h2 : op2 = 15 ∧ args2.length = 1
          · obtain ⟨rfl, h2⟩ := h2
            cases d with
            | zero => exact hx.elim
            | succ d =>
              match args2, h2, hx, hc with
              | [.mk op3 kind3 A3 c3 args3 vk3 vb3 pos3 a3], _, hx, hc =>
                rcases hx.1 with h | ⟨b2, o2, rfl, hb2, hc2⟩
                · exact absurd (congrArg List.length h) (by simp [NodeV.cells])
                · exact twice_yes kind b o c vk vb pos a kind2 b2 o2 c2 vk2 vb2 pos2 a2 op3 kind3 A3 c3 args3 vk3 vb3 pos3 a3 w hb (fun j u hu => hc j u (by simpa [NodeV.cells] using hu)) hb2 (fun j u hu => hc2 j u (by simpa [NodeV.cells] using hu))
          · rw [show twiceR (.mk 15 kind (some ⟨b, o, none⟩) c [.mk op2 kind2 A2 c2 args2 vk2 vb2 pos2 a2] vk vb pos a) = none from by
              by_cases h3 : op2 = 15
              · subst h3
                match args2, h2 with
                | [], _ => rfl
                | [_], h2 => exact absurd ⟨rfl, rfl⟩ h2
                | _ :: _ :: _, _ => rfl
              · show (if op2 = 15 then _ else none : Option NodeV) = none
                exact if_neg h3]
            exact twice_no kind b o c vk vb pos a op2 kind2 A2 c2 args2 vk2 vb2 pos2 a2 (by
              by_cases h3 : op2 = 15
              · exact .inr fun h4 => h2 ⟨h3, h4⟩
              · exact .inl h3) w hb (fun j u hu => hc j u (by simpa [NodeV.cells] using hu))
    · rw [twiceR_len h1]
      exact twice_len kind A args h1 c vk vb pos a w
  · rw [twiceR_no h15]
    exact twice_op op kind h15 A args c vk vb pos a w

theorem size_rules (w : World) : (sizeOf 39).run Try.prog w = .ok 4 w := by
  have h : ((sizeOf 39).run Try.prog w) = .ok 4 w := by kernel_rfl
  exact h
theorem run_store4 {w : World} {g : Nat} {t : TypeId} {c0 c1 c2 c3 d0 d1 d2 d3 : Value} (h : Bk w g t #[c0, c1, c2, c3]) (h0 : d0.oneCell' = true) (h1 : d1.oneCell' = true) (h2 : d2.oneCell' = true) (h3 : d3.oneCell' = true) :
    ∃ w', (Instr.storeAt 39 (.pointer (some ⟨g, 0, none⟩)) (.agg #[d0, d1, d2, d3])).run Try.prog w = .ok () w' ∧ Bk w' g t #[d0, d1, d2, d3] ∧ ∀ (B : Nat) (a0 : World), Below B a0 w → B ≤ g → Below B a0 w' := by
  have b1 := h.put 0 d0
  have b2 := b1.put 1 d1
  have b3 := b2.put 2 d2
  have b4 := b3.put 3 d3
  have hall : (storeCells ⟨g, 0, none⟩ [d0, d1, d2, d3] 0).run Try.prog w = .ok () _ :=
    (sc_step h (by simp) h0).trans ((sc_step b1 (by simp) h1).trans ((sc_step b2 (by simp) h2).trans ((sc_step b3 (by simp) h3).trans rfl)))
  have hrun : (Instr.storeAt 39 (.pointer (some ⟨g, 0, none⟩)) (.agg #[d0, d1, d2, d3])).run Try.prog w = (storeCells ⟨g, 0, none⟩ [d0, d1, d2, d3] 0).run Try.prog w := by
    simp [Instr.storeAt, storeVar, Instr.sureAddr, size_rules, Value.cells]
  exact ⟨_, hrun.trans hall, by simpa using b4, fun B a0 hb hg => (((hb.setCell hg _).setCell hg _).setCell hg _).setCell hg _⟩
theorem wpList_store4 {w : World} {ops : Array Oper} {rest : List Oper} {op : Oper} {a : Act} {Q : Exit → Act → World → Prop} {g : Nat} {c0 c1 c2 c3 d0 d1 d2 d3 : Value} (hg : op.guard = none) (x y : Operand) (hop : op.op = Op.store 39 x y) (hx : a.eval x = .pointer (some ⟨g, 0, none⟩)) (hy : a.eval y = .agg #[d0, d1, d2, d3]) {t : TypeId} (h : Bk w g t #[c0, c1, c2, c3])
    (h1 : (d0.oneCell' && d1.oneCell' && d2.oneCell' && d3.oneCell') = true)
    (hK : ∀ w' : World, Bk w' g t #[d0, d1, d2, d3] → (∀ (B : Nat) (a0 : World), Below B a0 w → B ≤ g → Below B a0 w') → wpList Try.prog ops Q rest (a.put op.dst undef) w') : wpList Try.prog ops Q (op :: rest) a w := by
  refine wpList_plain hg fun K' hK' => ?_
  simp only [Bool.and_eq_true] at h1
  obtain ⟨⟨⟨e0, e1⟩, e2⟩, e3⟩ := h1
  obtain ⟨w', hr, k9, b9⟩ := run_store4 h e0 e1 e2 e3
  unfold Oper.wp
  simp [execOp, hop, hx, hy, hr, Result.andThen]
  exact hK' _ _ (hK _ k9 b9)
set_option maxRecDepth 100000 in
set_option maxHeartbeats 1000000 in
theorem rules_any (w : World) : Calls Try.prog 17 #[.agg #[]] w fun e w' => e = .returned (.agg #[.func (.func 24) #[.agg #[]] #[], .func (.func 25) #[.agg #[]] #[], .func (.func 26) #[.agg #[]] #[], .func (.func 27) #[.agg #[]] #[]]) ∧ Below w.heap.size w w' := by
  have hbe := bel2 w (.cells #[] 41) (.cells #[.nilFunc, .nilFunc, .nilFunc, .nilFunc] 39)
  have kr := Bk.newAt (w := w.alloc (.cells #[] 41)) (g := w.heap.size + 1) (by simp) 39 #[.nilFunc, .nilFunc, .nilFunc, .nilFunc]
  go_enter Try.func17, Try.ntmps17
  go_wp2_with (refine wpList_store4 rfl _ _ rfl rfl rfl kr rfl ?_; intro w9 k9 b9; replace hbe := b9 _ _ hbe (by omega); clear b9 kr)
  have d0 := k9.cell 0
  have d1 := k9.cell 1
  have d2 := k9.cell 2
  have d3 := k9.cell 3
  simp at d0 d1 d2 d3
  exact bodyPost_ret (v := (.agg #[.func (.func 24) #[.agg #[]] #[], .func (.func 25) #[.agg #[]] #[], .func (.func 26) #[.agg #[]] #[], .func (.func 27) #[.agg #[]] #[]])) (by simp [results, Try.results17, go_sem, d0, d1, d2, d3]) rfl ⟨rfl, hbe⟩
end Go.Proofs.Ytkfpmoilfillmaa
