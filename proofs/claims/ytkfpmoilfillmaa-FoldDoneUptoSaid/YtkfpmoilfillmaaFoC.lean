/- Layer 12: fold's rules 'decided' and 'neutral'. No conditions. -/
import Derived.Test.YtkfpmoilfillmaaFoB
import Derived.Test.YtkfpmoilfillmaaFoL
namespace Go.Proofs.Ytkfpmoilfillmaa
open Go.RowKit
set_option linter.unusedVariables false
set_option linter.unusedSimpArgs false

theorem eql_V (a b c d : Int) (w : World) : (binOp .eql 25 (.agg #[.int .i64 a, .int .u64 b]) (.agg #[.int .i64 c, .int .u64 d])).run Try.prog w = .ok (.bool (a == c && b == d)) w := by
  have h1 : Try.prog.stoodInHeld 25 = false := by kernel_rfl
  by_cases h : a = c <;> by_cases h2 : b = d <;> simp [go_sem, h, h2, h1]
/-- The value that decides an AND, an OR; whether it is one of two. -/
def orN (op : Int) : Nat := if op = 14 then 1 else 0
def logicB (op : Int) (n : Nat) : Bool := decide (n = 2 ∧ (op = 13 ∨ op = 14))
theorem logical_any (op kind : Int) (A : Option Addr) (n c : Nat) (vk : Int) (vb : Nat) (pos a : Int) (w : World) :
    Calls Try.prog 38 #[.agg #[.int .i64 op, .int .i64 kind, .slice A n c, .int .i64 vk, .int .u64 vb, .int .i64 pos, .int .i64 a]] w fun e w' => e = .returned (.tuple #[.agg #[.int .i64 2, .int .u64 (orN op)], .bool (logicB op n)]) ∧ Below w.heap.size w w' := by
  by_cases h14 : op = 14
  · subst h14
    by_cases hn : n = 2
    · subst hn; exact logical_or kind A c vk vb pos a w
    · rw [show logicB 14 n = false from decide_eq_false (by omega)]
      exact logical_or2 kind A n hn c vk vb pos a w
  · rw [show orN op = 0 from if_neg h14]
    by_cases hn : n = 2
    · subst hn
      by_cases h13 : op = 13
      · subst h13; exact logical_and kind A c vk vb pos a w
      · rw [show logicB op 2 = false from decide_eq_false (by omega)]
        exact logical_no op h13 h14 kind A c vk vb pos a w
    · rw [show logicB op n = false from decide_eq_false (by omega)]
      exact logical_no2 op h14 kind A n hn c vk vb pos a w
/-- Is it the constant of the Bool b? -/
def isCN (b : Nat) : NodeV → Bool
  | .mk op _ _ _ _ vk vb _ _ => decide (op = 40) && (decide (vk = 2) && decide (vb = b))
/-- What a rule tells of a node. -/
def Told (n : NodeV) (r : Option NodeV) : Value := .tuple #[(r.getD n).val, .bool r.isSome]
def decR : NodeV → Option NodeV
  | .mk op kind A c args vk vb pos a => if (logicB op args.length && args.any (isCN (orN op))) = true then some (.mk 40 kind none 0 [] 2 (orN op) 0 0) else none
def RuleOk (f : FuncId) (R : NodeV → Option NodeV) : Prop :=
  ∀ (op kind : Int) (A : Option Addr) (args : List NodeV) (c : Nat) (vk : Int) (vb : Nat) (pos a : Int) (w : World) (d : Nat), Rd w w.heap.size A (args.flatMap NodeV.cells) → args.length ≤ 1048576 → (∀ x ∈ args, okN d x w w.heap.size) →
    Calls Try.prog f #[.agg #[], .agg #[.int .i64 op, .int .i64 kind, .slice A args.length c, .int .i64 vk, .int .u64 vb, .int .i64 pos, .int .i64 a]] w fun e w' => e = .returned (Told (.mk op kind A c args vk vb pos a) (R (.mk op kind A c args vk vb pos a))) ∧ Below w.heap.size w w'
def neutR : NodeV → Option NodeV
  | .mk op kind A c args vk vb pos a => match args with
    | [x, y] => if op = 13 ∨ op = 14 then (if isCN (1 - orN op) x = true then some y else if isCN (1 - orN op) y = true then some x else none) else none
    | _ => none

set_option maxRecDepth 100000 in
set_option maxHeartbeats 4000000 in
theorem decided_no (op kind : Int) (A : Option Addr) (args : List NodeV) (c : Nat) (vk : Int) (vb : Nat) (pos a : Int) (w : World) (h : logicB op args.length = false) :
    Calls Try.prog 25 #[.agg #[], .agg #[.int .i64 op, .int .i64 kind, .slice A args.length c, .int .i64 vk, .int .u64 vb, .int .i64 pos, .int .i64 a]] w fun e w' => e = .returned (.tuple #[.agg #[.int .i64 op, .int .i64 kind, .slice A args.length c, .int .i64 vk, .int .u64 vb, .int .i64 pos, .int .i64 a], .bool false]) ∧ Below w.heap.size w w' := by
  have hlg := logical_any op kind A args.length c vk vb pos a (((w.alloc (.cells #[] 41)).alloc (.cells #[.int .i64 op, .int .i64 kind, .slice A args.length c, .int .i64 vk, .int .u64 vb, .int .i64 pos, .int .i64 a] 27)).alloc (.cells #[.int .i64 0, .int .i64 0, .slice none 0 0, .int .i64 0, .int .u64 0, .int .i64 0, .int .i64 0] 27))
  rw [h] at hlg
  have HLG := Lib.hid hlg
  clear hlg h
  go_enter Try.func25, Try.ntmps25
  go_wp2_with (refine wpList_load7 rfl _ rfl rfl (by assumption) ?_)
  refine HLG.out.mono ?_
  rintro e w1 ⟨rfl, hb1⟩
  have kr := (Bk.newAt (w := (w.alloc (.cells #[] 41)).alloc (.cells #[.int .i64 op, .int .i64 kind, .slice A args.length c, .int .i64 vk, .int .u64 vb, .int .i64 pos, .int .i64 a] 27)) (g := w.heap.size + 2) (by simp) 27 #[.int .i64 0, .int .i64 0, .slice none 0 0, .int .i64 0, .int .u64 0, .int .i64 0, .int .i64 0]).old hb1
  have kn := ((Bk.newAt (w := w.alloc (.cells #[] 41)) (g := w.heap.size + 1) (by simp) 27 #[.int .i64 op, .int .i64 kind, .slice A args.length c, .int .i64 vk, .int .u64 vb, .int .i64 pos, .int .i64 a]).alloc (.cells #[.int .i64 0, .int .i64 0, .slice none 0 0, .int .i64 0, .int .u64 0, .int .i64 0, .int .i64 0] 27)).old hb1
  have hbe : Below w.heap.size w w1 := (bel3 _ _ _ _).trans (hb1.mono (by simp; omega))
  have hz := kr.lt
  clear hb1 HLG
  replace hbe := hbe.alloc hbe.size (.cells #[.int .i64 2, .int .u64 (orN op)] 25)
  replace kr := kr.alloc (.cells #[.int .i64 2, .int .u64 (orN op)] 25)
  replace kn := kn.alloc (.cells #[.int .i64 2, .int .u64 (orN op)] 25)
  have ka := Lib.hid kn.at7
  go_wp2_with (first | (refine wpList_load7 rfl _ rfl rfl ka.out ?_) | (refine wpList_store7 rfl _ _ rfl rfl rfl kr rfl ?_; intro w9 k9 b9; replace hbe := b9 _ _ hbe (by omega); clear b9 kr))
  obtain ⟨d0, d1, d2, d3, d4, d5, d6⟩ := ncells k9
  exact bodyPost_ret (v := .tuple #[.agg #[.int .i64 op, .int .i64 kind, .slice A args.length c, .int .i64 vk, .int .u64 vb, .int .i64 pos, .int .i64 a], .bool false]) (by simp [results, Try.results25, go_sem, d0, d1, d2, d3, d4, d5, d6]) rfl ⟨rfl, hbe⟩

set_option maxRecDepth 100000 in
set_option maxHeartbeats 4000000 in
theorem neutral_no (op kind : Int) (A : Option Addr) (args : List NodeV) (c : Nat) (vk : Int) (vb : Nat) (pos a : Int) (w : World) (h : logicB op args.length = false) :
    Calls Try.prog 26 #[.agg #[], .agg #[.int .i64 op, .int .i64 kind, .slice A args.length c, .int .i64 vk, .int .u64 vb, .int .i64 pos, .int .i64 a]] w fun e w' => e = .returned (.tuple #[.agg #[.int .i64 op, .int .i64 kind, .slice A args.length c, .int .i64 vk, .int .u64 vb, .int .i64 pos, .int .i64 a], .bool false]) ∧ Below w.heap.size w w' := by
  have hlg := logical_any op kind A args.length c vk vb pos a (((w.alloc (.cells #[] 41)).alloc (.cells #[.int .i64 op, .int .i64 kind, .slice A args.length c, .int .i64 vk, .int .u64 vb, .int .i64 pos, .int .i64 a] 27)).alloc (.cells #[.int .i64 0, .int .i64 0, .slice none 0 0, .int .i64 0, .int .u64 0, .int .i64 0, .int .i64 0] 27))
  rw [h] at hlg
  have HLG := Lib.hid hlg
  clear hlg h
  go_enter Try.func26, Try.ntmps26
  go_wp2_with (refine wpList_load7 rfl _ rfl rfl (by assumption) ?_)
  refine HLG.out.mono ?_
  rintro e w1 ⟨rfl, hb1⟩
  have kr := (Bk.newAt (w := (w.alloc (.cells #[] 41)).alloc (.cells #[.int .i64 op, .int .i64 kind, .slice A args.length c, .int .i64 vk, .int .u64 vb, .int .i64 pos, .int .i64 a] 27)) (g := w.heap.size + 2) (by simp) 27 #[.int .i64 0, .int .i64 0, .slice none 0 0, .int .i64 0, .int .u64 0, .int .i64 0, .int .i64 0]).old hb1
  have kn := ((Bk.newAt (w := w.alloc (.cells #[] 41)) (g := w.heap.size + 1) (by simp) 27 #[.int .i64 op, .int .i64 kind, .slice A args.length c, .int .i64 vk, .int .u64 vb, .int .i64 pos, .int .i64 a]).alloc (.cells #[.int .i64 0, .int .i64 0, .slice none 0 0, .int .i64 0, .int .u64 0, .int .i64 0, .int .i64 0] 27)).old hb1
  have hbe : Below w.heap.size w w1 := (bel3 _ _ _ _).trans (hb1.mono (by simp; omega))
  have hz := kr.lt
  clear hb1 HLG
  replace hbe := hbe.alloc hbe.size (.cells #[.int .i64 2, .int .u64 (orN op)] 25)
  replace kr := kr.alloc (.cells #[.int .i64 2, .int .u64 (orN op)] 25)
  replace kn := kn.alloc (.cells #[.int .i64 2, .int .u64 (orN op)] 25)
  have ka := Lib.hid kn.at7
  go_wp2_with (first | (refine wpList_load7 rfl _ rfl rfl ka.out ?_) | (refine wpList_store7 rfl _ _ rfl rfl rfl kr rfl ?_; intro w9 k9 b9; replace hbe := b9 _ _ hbe (by omega); clear b9 kr))
  obtain ⟨d0, d1, d2, d3, d4, d5, d6⟩ := ncells k9
  exact bodyPost_ret (v := .tuple #[.agg #[.int .i64 op, .int .i64 kind, .slice A args.length c, .int .i64 vk, .int .u64 vb, .int .i64 pos, .int .i64 a], .bool false]) (by simp [results, Try.results26, go_sem, d0, d1, d2, d3, d4, d5, d6]) rfl ⟨rfl, hbe⟩
end Go.Proofs.Ytkfpmoilfillmaa
