/- The deferred closure of the program's Apply: what it does when the frame panics, and when it returns. No conditions. -/
import Derived.Test.YtadblgfppnpamaaValE
import Derived.Defers
import Derived.Recover
import Derived.Tactics2
import Derived.Laws.Pointers
namespace Go.Proofs.Ytadblgfppnpamaa
open Go.RowKit
set_option linter.unusedSimpArgs false
set_option linter.unusedVariables false

theorem catch_panicking (g : Nat) (k b : Int) (w : World) (hk : Bk w g 31 #[.int .i64 k, .int .u64 b]) :
    CallsD Try.prog 57 #[.pointer (some ⟨g, 0, none⟩)] (.panicking thrown) w fun e u' w' =>
      e = .returned (.tuple #[]) ∧ u' = .panicking [{ v := .iface 90 (.agg #[]), recovered := true }] ∧ Bk w' g 31 #[.int .i64 0, .int .u64 0] ∧ ∀ (B : Nat) (a : World), Below B a w → B ≤ g → B ≤ w.heap.size → Below B a w' := by
  obtain ⟨c0, c1, f0, f1⟩ := vcells hk
  refine callsD_of_wpS Try.func57 rfl fun c₀ cs hu => ?_
  unfold thrown at hu
  apply wpS_seq
  apply wpS_region
  simp [wpOpsS, go_sem, recoverD, hu, Try.ntmps57, Exit.thenS]
  apply wpS_seq
  apply wpS_region
  simp [wpOpsS, go_sem, recoverD, hu, Try.ntmps57, Exit.thenS]
  refine wpS_cond (t := true) (by simp [Act.eval, Array.replicate]) ?_
  simp only [if_true]
  refine wpS_of_wp (wp_mono (Q := fun e a' w' => e = .normal ∧ a'.defers = [] ∧ Bk w' g 31 #[.int .i64 0, .int .u64 0] ∧ ∀ (B : Nat) (a : World), Below B a w → B ≤ g → B ≤ w.heap.size → Below B a w') ?_ ?_)
  · have hta : ∀ w : World, (Instr.typeAssert (.iface 90 (.agg #[])) 20 90 true).run Try.prog w = .ok (.tuple #[.agg #[], .bool true]) w := by intro w; kernel_rfl
    clear hu
    have ka := hk.alloc (.cells #[] 90)
    obtain ⟨a0, a1, z0, z1⟩ := vcells ka
    clear c0 c1 f0 f1
    simp only [Array.replicate, List.replicate, List.append_toArray, List.setIfInBounds_toArray, List.set_cons_zero, List.set_cons_succ, List.cons_append, List.nil_append]
    go_wp2
    exact ⟨vput ka _ _, fun B a hb h1 h2 => ((hb.alloc h2 _).setCell h1 _).setCell h1 _⟩
  · rintro e a' w' ⟨rfl, hd, h1, h2⟩
    cases c₀
    simp_all [bodyPostS, results, Try.results57]

theorem catch_idle (g : Nat) (w : World) :
    CallsD Try.prog 57 #[.pointer (some ⟨g, 0, none⟩)] .returning w fun e u' w' => e = .returned (.tuple #[]) ∧ u' = .returning ∧ w' = w := by
  refine callsD_of_wpS Try.func57 rfl fun c₀ cs hu => ?_
  apply wpS_seq
  apply wpS_region
  simp [wpOpsS, go_sem, recoverD, hu, Try.ntmps57, Exit.thenS]
  apply wpS_seq
  apply wpS_region
  simp [wpOpsS, go_sem, recoverD, hu, Try.ntmps57, Exit.thenS]
  refine wpS_cond (t := false) (by simp [Act.eval, Array.replicate]) ?_
  simp only [Bool.false_eq_true, if_false]
  refine wpS_of_wp (wp_skip ?_)
  cases c₀
  simp_all [bodyPostS, results, Try.results57]
end Go.Proofs.Ytadblgfppnpamaa
