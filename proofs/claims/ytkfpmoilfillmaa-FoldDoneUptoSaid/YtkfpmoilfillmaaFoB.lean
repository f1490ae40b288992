/- Layer 12: fold.logical. No conditions. -/
import Derived.Test.YtkfpmoilfillmaaFoA
import Derived.Deep.DeepCutAuto
import Derived.Deep.RegionHeld3
namespace Go.Proofs.Ytkfpmoilfillmaa
open Go.RowKit
set_option linter.unusedVariables false
set_option linter.unusedSimpArgs false


set_option maxRecDepth 100000 in
set_option maxHeartbeats 1000000 in
theorem logical_and (kind : Int) (A : Option Addr) (c : Nat) (vk : Int) (vb : Nat) (pos a : Int) (w : World) : Calls Try.prog 38 #[.agg #[.int .i64 13, .int .i64 kind, .slice A 2 c, .int .i64 vk, .int .u64 vb, .int .i64 pos, .int .i64 a]] w fun e w' => e = .returned (.tuple #[.agg #[.int .i64 2, .int .u64 0], .bool true]) ∧ Below w.heap.size w w' := by
  have kn := ((Bk.new w 27 #[.int .i64 13, .int .i64 kind, .slice A 2 c, .int .i64 vk, .int .u64 vb, .int .i64 pos, .int .i64 a]).alloc (.cells #[.int .i64 0, .int .u64 0] 25)).alloc (.cells #[.int .i64 2, .int .u64 0] 25)
  have kr := (Bk.newAt (w := w.alloc (.cells #[.int .i64 13, .int .i64 kind, .slice A 2 c, .int .i64 vk, .int .u64 vb, .int .i64 pos, .int .i64 a] 27)) (g := w.heap.size + 1) (by simp) 25 #[.int .i64 0, .int .u64 0]).alloc (.cells #[.int .i64 2, .int .u64 0] 25)
  have kv := Bk.newAt (w := (w.alloc (.cells #[.int .i64 13, .int .i64 kind, .slice A 2 c, .int .i64 vk, .int .u64 vb, .int .i64 pos, .int .i64 a] 27)).alloc (.cells #[.int .i64 0, .int .u64 0] 25)) (g := w.heap.size + 2) (by simp) 25 #[.int .i64 2, .int .u64 0]
  have hbW := bel3 w (.cells #[.int .i64 13, .int .i64 kind, .slice A 2 c, .int .i64 vk, .int .u64 vb, .int .i64 pos, .int .i64 a] 27) (.cells #[.int .i64 0, .int .u64 0] 25) (.cells #[.int .i64 2, .int .u64 0] 25)
  go_enter Try.func38, Try.ntmps38
  go_upto_region 4 with fail
  generalize (((w.alloc (.cells #[.int .i64 13, .int .i64 kind, .slice A 2 c, .int .i64 vk, .int .u64 vb, .int .i64 pos, .int .i64 a] 27)).alloc (.cells #[.int .i64 0, .int .u64 0] 25)).alloc (.cells #[.int .i64 2, .int .u64 0] 25)) = W at *
  have n0 := kn.cell 0
  have n2 := kn.cell 2
  have v0 := kv.cell 0
  have v1 := kv.cell 1
  obtain ⟨e0, e1, f0, f1⟩ := vcells kr
  obtain ⟨d0, d1, _, _⟩ := vcells (vput kr (.int .i64 2) (.int .u64 0))
  simp at n0 n2 v0 v1
  clear kn kr kv
  go_region
  all_goals go_wp2_with fail
  all_goals exact bodyPost_ret (v := .tuple #[.agg #[.int .i64 2, .int .u64 0], .bool true]) (by simp [results, Try.results38, go_sem, d0, d1]) rfl ⟨rfl, by repeat (first | assumption | exact hbW | refine Below.drew ?_ | refine Below.setCell ?_ (by first | (simp; done) | (simp; omega)) _)⟩

set_option maxRecDepth 100000 in
set_option maxHeartbeats 1000000 in
theorem logical_or (kind : Int) (A : Option Addr) (c : Nat) (vk : Int) (vb : Nat) (pos a : Int) (w : World) : Calls Try.prog 38 #[.agg #[.int .i64 14, .int .i64 kind, .slice A 2 c, .int .i64 vk, .int .u64 vb, .int .i64 pos, .int .i64 a]] w fun e w' => e = .returned (.tuple #[.agg #[.int .i64 2, .int .u64 1], .bool true]) ∧ Below w.heap.size w w' := by
  have kn := ((Bk.new w 27 #[.int .i64 14, .int .i64 kind, .slice A 2 c, .int .i64 vk, .int .u64 vb, .int .i64 pos, .int .i64 a]).alloc (.cells #[.int .i64 0, .int .u64 0] 25)).alloc (.cells #[.int .i64 2, .int .u64 1] 25)
  have kr := (Bk.newAt (w := w.alloc (.cells #[.int .i64 14, .int .i64 kind, .slice A 2 c, .int .i64 vk, .int .u64 vb, .int .i64 pos, .int .i64 a] 27)) (g := w.heap.size + 1) (by simp) 25 #[.int .i64 0, .int .u64 0]).alloc (.cells #[.int .i64 2, .int .u64 1] 25)
  have kv := Bk.newAt (w := (w.alloc (.cells #[.int .i64 14, .int .i64 kind, .slice A 2 c, .int .i64 vk, .int .u64 vb, .int .i64 pos, .int .i64 a] 27)).alloc (.cells #[.int .i64 0, .int .u64 0] 25)) (g := w.heap.size + 2) (by simp) 25 #[.int .i64 2, .int .u64 1]
  have hbW := bel3 w (.cells #[.int .i64 14, .int .i64 kind, .slice A 2 c, .int .i64 vk, .int .u64 vb, .int .i64 pos, .int .i64 a] 27) (.cells #[.int .i64 0, .int .u64 0] 25) (.cells #[.int .i64 2, .int .u64 1] 25)
  go_enter Try.func38, Try.ntmps38
  go_upto_region 4 with fail
  generalize (((w.alloc (.cells #[.int .i64 14, .int .i64 kind, .slice A 2 c, .int .i64 vk, .int .u64 vb, .int .i64 pos, .int .i64 a] 27)).alloc (.cells #[.int .i64 0, .int .u64 0] 25)).alloc (.cells #[.int .i64 2, .int .u64 1] 25)) = W at *
  have n0 := kn.cell 0
  have n2 := kn.cell 2
  have v0 := kv.cell 0
  have v1 := kv.cell 1
  obtain ⟨e0, e1, f0, f1⟩ := vcells kr
  obtain ⟨d0, d1, _, _⟩ := vcells (vput kr (.int .i64 2) (.int .u64 1))
  simp at n0 n2 v0 v1
  clear kn kr kv
  go_region
  all_goals go_wp2_with fail
  all_goals exact bodyPost_ret (v := .tuple #[.agg #[.int .i64 2, .int .u64 1], .bool true]) (by simp [results, Try.results38, go_sem, d0, d1]) rfl ⟨rfl, by repeat (first | assumption | exact hbW | refine Below.drew ?_ | refine Below.setCell ?_ (by first | (simp; done) | (simp; omega)) _)⟩

set_option maxRecDepth 100000 in
set_option maxHeartbeats 1000000 in
theorem logical_or2 (kind : Int) (A : Option Addr) (n : Nat) (hn : n ≠ 2) (c : Nat) (vk : Int) (vb : Nat) (pos a : Int) (w : World) : Calls Try.prog 38 #[.agg #[.int .i64 14, .int .i64 kind, .slice A n c, .int .i64 vk, .int .u64 vb, .int .i64 pos, .int .i64 a]] w fun e w' => e = .returned (.tuple #[.agg #[.int .i64 2, .int .u64 1], .bool false]) ∧ Below w.heap.size w w' := by
  have g2 : ((n : Int) == 2) = false := by rw [beq_eq_false_iff_ne]; omega
  have kn := ((Bk.new w 27 #[.int .i64 14, .int .i64 kind, .slice A n c, .int .i64 vk, .int .u64 vb, .int .i64 pos, .int .i64 a]).alloc (.cells #[.int .i64 0, .int .u64 0] 25)).alloc (.cells #[.int .i64 2, .int .u64 1] 25)
  have kr := (Bk.newAt (w := w.alloc (.cells #[.int .i64 14, .int .i64 kind, .slice A n c, .int .i64 vk, .int .u64 vb, .int .i64 pos, .int .i64 a] 27)) (g := w.heap.size + 1) (by simp) 25 #[.int .i64 0, .int .u64 0]).alloc (.cells #[.int .i64 2, .int .u64 1] 25)
  have kv := Bk.newAt (w := (w.alloc (.cells #[.int .i64 14, .int .i64 kind, .slice A n c, .int .i64 vk, .int .u64 vb, .int .i64 pos, .int .i64 a] 27)).alloc (.cells #[.int .i64 0, .int .u64 0] 25)) (g := w.heap.size + 2) (by simp) 25 #[.int .i64 2, .int .u64 1]
  have hbW := bel3 w (.cells #[.int .i64 14, .int .i64 kind, .slice A n c, .int .i64 vk, .int .u64 vb, .int .i64 pos, .int .i64 a] 27) (.cells #[.int .i64 0, .int .u64 0] 25) (.cells #[.int .i64 2, .int .u64 1] 25)
  go_enter Try.func38, Try.ntmps38
  go_upto_region 4 with fail
  generalize (((w.alloc (.cells #[.int .i64 14, .int .i64 kind, .slice A n c, .int .i64 vk, .int .u64 vb, .int .i64 pos, .int .i64 a] 27)).alloc (.cells #[.int .i64 0, .int .u64 0] 25)).alloc (.cells #[.int .i64 2, .int .u64 1] 25)) = W at *
  have n0 := kn.cell 0
  have n2 := kn.cell 2
  have v0 := kv.cell 0
  have v1 := kv.cell 1
  obtain ⟨e0, e1, f0, f1⟩ := vcells kr
  obtain ⟨d0, d1, _, _⟩ := vcells (vput kr (.int .i64 2) (.int .u64 1))
  simp at n0 n2 v0 v1
  clear kn kr kv
  go_region
  all_goals go_wp2_with fail
  all_goals exact bodyPost_ret (v := .tuple #[.agg #[.int .i64 2, .int .u64 1], .bool false]) (by simp [results, Try.results38, go_sem, d0, d1]) rfl ⟨rfl, by repeat (first | assumption | exact hbW | refine Below.drew ?_ | refine Below.setCell ?_ (by first | (simp; done) | (simp; omega)) _)⟩

set_option maxRecDepth 100000 in
set_option maxHeartbeats 1000000 in
theorem logical_no2 (op : Int) (h14 : op ≠ 14) (kind : Int) (A : Option Addr) (n : Nat) (hn : n ≠ 2) (c : Nat) (vk : Int) (vb : Nat) (pos a : Int) (w : World) : Calls Try.prog 38 #[.agg #[.int .i64 op, .int .i64 kind, .slice A n c, .int .i64 vk, .int .u64 vb, .int .i64 pos, .int .i64 a]] w fun e w' => e = .returned (.tuple #[.agg #[.int .i64 2, .int .u64 0], .bool false]) ∧ Below w.heap.size w w' := by
  have g2 : ((n : Int) == 2) = false := by rw [beq_eq_false_iff_ne]; omega
  have g14 : (op == 14) = false := by rw [beq_eq_false_iff_ne]; exact h14
  have kn := ((Bk.new w 27 #[.int .i64 op, .int .i64 kind, .slice A n c, .int .i64 vk, .int .u64 vb, .int .i64 pos, .int .i64 a]).alloc (.cells #[.int .i64 0, .int .u64 0] 25)).alloc (.cells #[.int .i64 2, .int .u64 0] 25)
  have kr := (Bk.newAt (w := w.alloc (.cells #[.int .i64 op, .int .i64 kind, .slice A n c, .int .i64 vk, .int .u64 vb, .int .i64 pos, .int .i64 a] 27)) (g := w.heap.size + 1) (by simp) 25 #[.int .i64 0, .int .u64 0]).alloc (.cells #[.int .i64 2, .int .u64 0] 25)
  have kv := Bk.newAt (w := (w.alloc (.cells #[.int .i64 op, .int .i64 kind, .slice A n c, .int .i64 vk, .int .u64 vb, .int .i64 pos, .int .i64 a] 27)).alloc (.cells #[.int .i64 0, .int .u64 0] 25)) (g := w.heap.size + 2) (by simp) 25 #[.int .i64 2, .int .u64 0]
  have hbW := bel3 w (.cells #[.int .i64 op, .int .i64 kind, .slice A n c, .int .i64 vk, .int .u64 vb, .int .i64 pos, .int .i64 a] 27) (.cells #[.int .i64 0, .int .u64 0] 25) (.cells #[.int .i64 2, .int .u64 0] 25)
  go_enter Try.func38, Try.ntmps38
  go_upto_region 4 with fail
  generalize (((w.alloc (.cells #[.int .i64 op, .int .i64 kind, .slice A n c, .int .i64 vk, .int .u64 vb, .int .i64 pos, .int .i64 a] 27)).alloc (.cells #[.int .i64 0, .int .u64 0] 25)).alloc (.cells #[.int .i64 2, .int .u64 0] 25)) = W at *
  have n0 := kn.cell 0
  have n2 := kn.cell 2
  have v0 := kv.cell 0
  have v1 := kv.cell 1
  obtain ⟨e0, e1, f0, f1⟩ := vcells kr
  obtain ⟨d0, d1, _, _⟩ := vcells (vput kr (.int .i64 2) (.int .u64 0))
  simp at n0 n2 v0 v1
  clear kn kr kv
  go_region
  all_goals go_wp2_with fail
  all_goals exact bodyPost_ret (v := .tuple #[.agg #[.int .i64 2, .int .u64 0], .bool false]) (by simp [results, Try.results38, go_sem, d0, d1]) rfl ⟨rfl, by repeat (first | assumption | exact hbW | refine Below.drew ?_ | refine Below.setCell ?_ (by first | (simp; done) | (simp; omega)) _)⟩

set_option maxRecDepth 100000 in
set_option maxHeartbeats 1000000 in
theorem logical_no (op : Int) (h13 : op ≠ 13) (h14 : op ≠ 14) (kind : Int) (A : Option Addr) (c : Nat) (vk : Int) (vb : Nat) (pos a : Int) (w : World) : Calls Try.prog 38 #[.agg #[.int .i64 op, .int .i64 kind, .slice A 2 c, .int .i64 vk, .int .u64 vb, .int .i64 pos, .int .i64 a]] w fun e w' => e = .returned (.tuple #[.agg #[.int .i64 2, .int .u64 0], .bool false]) ∧ Below w.heap.size w w' := by
  have g13 : (op == 13) = false := by rw [beq_eq_false_iff_ne]; exact h13
  have g14 : (op == 14) = false := by rw [beq_eq_false_iff_ne]; exact h14
  have kn := ((Bk.new w 27 #[.int .i64 op, .int .i64 kind, .slice A 2 c, .int .i64 vk, .int .u64 vb, .int .i64 pos, .int .i64 a]).alloc (.cells #[.int .i64 0, .int .u64 0] 25)).alloc (.cells #[.int .i64 2, .int .u64 0] 25)
  have kr := (Bk.newAt (w := w.alloc (.cells #[.int .i64 op, .int .i64 kind, .slice A 2 c, .int .i64 vk, .int .u64 vb, .int .i64 pos, .int .i64 a] 27)) (g := w.heap.size + 1) (by simp) 25 #[.int .i64 0, .int .u64 0]).alloc (.cells #[.int .i64 2, .int .u64 0] 25)
  have kv := Bk.newAt (w := (w.alloc (.cells #[.int .i64 op, .int .i64 kind, .slice A 2 c, .int .i64 vk, .int .u64 vb, .int .i64 pos, .int .i64 a] 27)).alloc (.cells #[.int .i64 0, .int .u64 0] 25)) (g := w.heap.size + 2) (by simp) 25 #[.int .i64 2, .int .u64 0]
  have hbW := bel3 w (.cells #[.int .i64 op, .int .i64 kind, .slice A 2 c, .int .i64 vk, .int .u64 vb, .int .i64 pos, .int .i64 a] 27) (.cells #[.int .i64 0, .int .u64 0] 25) (.cells #[.int .i64 2, .int .u64 0] 25)
  go_enter Try.func38, Try.ntmps38
  go_upto_region 4 with fail
  generalize (((w.alloc (.cells #[.int .i64 op, .int .i64 kind, .slice A 2 c, .int .i64 vk, .int .u64 vb, .int .i64 pos, .int .i64 a] 27)).alloc (.cells #[.int .i64 0, .int .u64 0] 25)).alloc (.cells #[.int .i64 2, .int .u64 0] 25)) = W at *
  have n0 := kn.cell 0
  have n2 := kn.cell 2
  have v0 := kv.cell 0
  have v1 := kv.cell 1
  obtain ⟨e0, e1, f0, f1⟩ := vcells kr
  obtain ⟨d0, d1, _, _⟩ := vcells (vput kr (.int .i64 2) (.int .u64 0))
  simp at n0 n2 v0 v1
  clear kn kr kv
  go_region
  all_goals go_wp2_with fail
  all_goals exact bodyPost_ret (v := .tuple #[.agg #[.int .i64 2, .int .u64 0], .bool false]) (by simp [results, Try.results38, go_sem, d0, d1]) rfl ⟨rfl, by repeat (first | assumption | exact hbW | refine Below.drew ?_ | refine Below.setCell ?_ (by first | (simp; done) | (simp; omega)) _)⟩
end Go.Proofs.Ytkfpmoilfillmaa
