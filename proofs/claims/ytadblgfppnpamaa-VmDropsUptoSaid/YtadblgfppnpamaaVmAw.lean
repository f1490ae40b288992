/- Layer 18: the example of the chapter. No conditions. -/
import Derived.Test.YtadblgfppnpamaaVmI
import Derived.Test.YtadblgfppnpamaaVmD
namespace Go.Proofs.Ytadblgfppnpamaa
open Go.RowKit
set_option linter.unusedVariables false
set_option linter.unusedSimpArgs false

theorem num_any (n : Int) (w : World) : Calls Try.prog 19 #[.int .i64 n] w fun e w' => e = .returned (.agg #[.int .i64 1, .int .u64 (un n : Nat)]) ∧ Below w.heap.size w w' := by
  go_enter Try.func19, Try.ntmps19
  go_wp2_with fail
  exact bodyPost_ret (v := .agg #[.int .i64 1, .int .u64 (un n : Nat)]) (by simp [results, Try.results19, go_sem, un_wrap]) rfl ⟨rfl, by repeat (first | exact Below.refl _ _ | refine Below.setCell ?_ (by first | (simp; done) | (simp; omega)) _ | refine Below.alloc ?_ (by first | (simp; done) | (simp; omega)) _)⟩
def cd0 (a b c : Nat) : CodeV := ⟨3, 0, some ⟨a, 0, none⟩, 1, [⟨41, 1, 0, 0⟩], some ⟨b, 0, none⟩, 1, [⟨1, un 6⟩], some ⟨c, 0, none⟩, 4, [⟨51, 0, 0, 0⟩, ⟨50, 1, 0, 0⟩, ⟨4, 2, 0, 1⟩, ⟨52, 0, 2, 0⟩]⟩
theorem i64_of (n : Int) (h : decide (-9223372036854775808 ≤ n ∧ n < 9223372036854775808) = true) : I64 n := by unfold I64; exact of_decide_eq_true h
theorem good0 (a b c : Nat) : goodV (cd0 a b c) = true := by kernel_rfl
theorem run3 (a b c : Nat) : runV (cd0 a b c) [⟨1, un 2⟩] = ⟨1, un 3⟩ := by kernel_rfl
theorem run0 (a b c : Nat) : runV (cd0 a b c) [⟨1, un 0⟩] = none0 := by kernel_rfl
theorem eql_II (a b c d : Int) (w : World) : (binOp .eql 31 (.agg #[.int .i64 a, .int .u64 b]) (.agg #[.int .i64 c, .int .u64 d])).run Try.prog w = .ok (.bool ((a == c) && (b == d))) w := by
  have h1 : Try.prog.stoodInHeld 31 = false := by kernel_rfl
  by_cases h : a = c <;> by_cases h2 : b = d <;> simp [go_sem, h, h2, h1]

def awR (w w1 : World) : List Spec := [.is (.agg #[.int .i64 3, .int .i64 0, .slice (some ⟨w.heap.size, 0, none⟩) 1 1, .slice (some ⟨w1.heap.size, 0, none⟩) 1 1, .slice (some ⟨w1.heap.size + 1, 0, none⟩) 4 4]),
  .is (.bool true),
  .is (.bool true),
  .is (.agg #[.int .i64 3, .int .i64 0, .slice (some ⟨w.heap.size, 0, none⟩) 1 1, .slice (some ⟨w1.heap.size, 0, none⟩) 1 1, .slice (some ⟨w1.heap.size + 1, 0, none⟩) 4 4]),
  .is (.agg #[.int .i64 1, .int .u64 (un 2)]),
  .st (fun v w => ∃ g, v = .slice (some ⟨g, 0, none⟩) 1 1 ∧ Bk w g 31 #[.int .i64 1, .int .u64 (un 2)]) (fun _ _ _ hb ⟨g, h1, h2⟩ => ⟨g, h1, h2.old hb⟩),
  .is (.agg #[.int .i64 1, .int .u64 (un 3)]),
  .is (.agg #[.int .i64 1, .int .u64 (un 3)]),
  .is (.bool true),
  .is (.bool true),
  .is (.bool true),
  .is (.agg #[.int .i64 3, .int .i64 0, .slice (some ⟨w.heap.size, 0, none⟩) 1 1, .slice (some ⟨w1.heap.size, 0, none⟩) 1 1, .slice (some ⟨w1.heap.size + 1, 0, none⟩) 4 4]),
  .is (.agg #[.int .i64 1, .int .u64 (un 0)]),
  .st (fun v w => ∃ g, v = .slice (some ⟨g, 0, none⟩) 1 1 ∧ Bk w g 31 #[.int .i64 1, .int .u64 (un 0)]) (fun _ _ _ hb ⟨g, h1, h2⟩ => ⟨g, h1, h2.old hb⟩),
  .is (.agg #[.int .i64 0, .int .u64 0]),
  .is (.agg #[.int .i64 0, .int .u64 0]),
  .is (.bool true),
  .is (.bool true),
  .is (.bool true)]

set_option maxRecDepth 100000 in
set_option maxHeartbeats 2000000 in
theorem awake_any (w : World) : Calls Try.prog 7 #[] w fun e w' => e = .returned (.bool true) ∧ Below w.heap.size w w' := by
  have he3 : ∀ w : World, (binOp .eql 31 (.agg #[.int .i64 1, .int .u64 (un 3 : Nat)]) (.agg #[.int .i64 1, .int .u64 (un 3 : Nat)])).run Try.prog w = .ok (.bool true) w := fun w => by rw [eql_II]; simp
  have he0 : ∀ w : World, (binOp .eql 31 (.agg #[.int .i64 0, .int .u64 0]) (.agg #[.int .i64 0, .int .u64 0])).run Try.prog w = .ok (.bool true) w := fun w => by rw [eql_II]; simp
  go_enter Try.func7, Try.ntmps7
  go_wp2_with fail
  refine (num_any 6 _).mono ?_
  rintro e w1 ⟨rfl, hb1⟩
  have hin := (Bk.new w 39 #[.int .i64 41, .int .i64 1, .int .i64 0, .int .i64 0]).old hb1
  have hbe : Below w.heap.size w w1 := ((Below.refl _ _).alloc (Nat.le_refl _) _).trans (hb1.mono (by simp))
  go_wp2_with fail
  have hz := hbe.size
  have hlt := hin.lt
  have kc := Bk.newAt (w := (w1.alloc (.cells #[.int .i64 1, .int .u64 (un 6 : Nat)] 31)).alloc (.cells #[.int .i64 51, .int .i64 0, .int .i64 0, .int .i64 0, .int .i64 50, .int .i64 1, .int .i64 0, .int .i64 0, .int .i64 4, .int .i64 2, .int .i64 0, .int .i64 1, .int .i64 52, .int .i64 0, .int .i64 2, .int .i64 0] 43)) (g := w1.heap.size + 1 + 1) (by simp) 26 #[.int .i64 3, .int .i64 0, .slice (some ⟨w.heap.size, 0, none⟩) 1 1, .slice (some ⟨w1.heap.size, 0, none⟩) 1 1, .slice (some ⟨w1.heap.size + 1, 0, none⟩) 4 4]
  have hbf : Below w.heap.size w (((w1.alloc (.cells #[.int .i64 1, .int .u64 (un 6 : Nat)] 31)).alloc (.cells #[.int .i64 51, .int .i64 0, .int .i64 0, .int .i64 0, .int .i64 50, .int .i64 1, .int .i64 0, .int .i64 0, .int .i64 4, .int .i64 2, .int .i64 0, .int .i64 1, .int .i64 52, .int .i64 0, .int .i64 2, .int .i64 0] 43)).alloc (.cells #[.int .i64 3, .int .i64 0, .slice (some ⟨w.heap.size, 0, none⟩) 1 1, .slice (some ⟨w1.heap.size, 0, none⟩) 1 1, .slice (some ⟨w1.heap.size + 1, 0, none⟩) 4 4] 26)) :=
    ((hbe.alloc hz _).alloc (by simp; omega) _).alloc (by simp; omega) _
  have hok : (cd0 w.heap.size w1.heap.size (w1.heap.size + 1)).ok (((w1.alloc (.cells #[.int .i64 1, .int .u64 (un 6 : Nat)] 31)).alloc (.cells #[.int .i64 51, .int .i64 0, .int .i64 0, .int .i64 0, .int .i64 50, .int .i64 1, .int .i64 0, .int .i64 0, .int .i64 4, .int .i64 2, .int .i64 0, .int .i64 1, .int .i64 52, .int .i64 0, .int .i64 2, .int .i64 0] 43)).alloc (.cells #[.int .i64 3, .int .i64 0, .slice (some ⟨w.heap.size, 0, none⟩) 1 1, .slice (some ⟨w1.heap.size, 0, none⟩) 1 1, .slice (some ⟨w1.heap.size + 1, 0, none⟩) 4 4] 26)) (w1.heap.size + 1 + 1 + 1) := by
    refine ⟨?_, ?_, ?_, show 1 ≤ 1048576 by decide, show 1 ≤ 1048576 by decide, show 4 ≤ 1048576 by decide, ?_, ?_, ?_, i64_of 3 rfl, i64_of 0 rfl⟩
    · exact Rd.bk (((hin.alloc _).alloc _).alloc _) (by omega)
    · exact Rd.bk (((Bk.new w1 _ _).alloc _).alloc _) (by omega)
    · exact Rd.bk ((Bk.newAt (by simp) _ _).alloc _) (by omega)
    · intro x hx; obtain rfl := List.mem_singleton.1 hx; exact ⟨i64_of _ rfl, i64_of _ rfl, i64_of _ rfl, i64_of _ rfl⟩
    · intro x hx; obtain rfl := List.mem_singleton.1 hx; exact un_lt 6
    · intro x hx
      simp only [cd0, List.mem_cons, List.not_mem_nil, or_false] at hx
      rcases hx with rfl | rfl | rfl | rfl <;> exact ⟨i64_of _ rfl, i64_of _ rfl, i64_of _ rfl, i64_of _ rfl⟩
  have hok2 := hok.more (B' := (((w1.alloc (.cells #[.int .i64 1, .int .u64 (un 6 : Nat)] 31)).alloc (.cells #[.int .i64 51, .int .i64 0, .int .i64 0, .int .i64 0, .int .i64 50, .int .i64 1, .int .i64 0, .int .i64 0, .int .i64 4, .int .i64 2, .int .i64 0, .int .i64 1, .int .i64 52, .int .i64 0, .int .i64 2, .int .i64 0] 43)).alloc (.cells #[.int .i64 3, .int .i64 0, .slice (some ⟨w.heap.size, 0, none⟩) 1 1, .slice (some ⟨w1.heap.size, 0, none⟩) 1 1, .slice (some ⟨w1.heap.size + 1, 0, none⟩) 4 4] 26)).heap.size) (by simp)
  have HCD := Lib.hid hok2
  have HG := Lib.hid (good0 w.heap.size w1.heap.size (w1.heap.size + 1))
  have H3 := Lib.hid (run3 w.heap.size w1.heap.size (w1.heap.size + 1))
  have H0 := Lib.hid (run0 w.heap.size w1.heap.size (w1.heap.size + 1))
  have HB := Lib.hid hbf
  have k0 := kc.cell 0
  have k1 := kc.cell 1
  have k2 := kc.cell 2
  have k3 := kc.cell 3
  have k4 := kc.cell 4
  clear hok hok2 hbf hbe hb1 hin kc hz hlt
  refine wp_region_b (by kernel_rfl) (fun qk => (awR w w1).getD qk .any) (by kernel_rfl) ?_ ?_
  · refine BOk.cons rfl [] [1] rfl rfl (by kernel_rfl) (by kernel_rfl) (fun qK qa wr hB qO qF hK => ?_) ?_
    · have e1 : qa.tmps[1]? = some (.pointer (some ⟨w1.heap.size + 1 + 1, 0, none⟩)) := qO.1.trans rfl
      clear qO qF
      have hk0 := (bcell hB _ _ (World.block_lt_of_cell? _ _ k0)).trans k0
      have hk1 := (bcell hB _ _ (World.block_lt_of_cell? _ _ k1)).trans k1
      have hk2 := (bcell hB _ _ (World.block_lt_of_cell? _ _ k2)).trans k2
      have hk3 := (bcell hB _ _ (World.block_lt_of_cell? _ _ k3)).trans k3
      have hk4 := (bcell hB _ _ (World.block_lt_of_cell? _ _ k4)).trans k4
      go_simp
      exact hK _ _ (Below.refl _ _) rfl
    refine BOk.cons rfl [0] [] rfl rfl (by kernel_rfl) (by kernel_rfl) (fun qK qa wr hB qO qF hK => ?_) ?_
    · have e12 : qa.tmps[12]? = some (.agg #[.int .i64 3, .int .i64 0, .slice (some ⟨w.heap.size, 0, none⟩) 1 1, .slice (some ⟨w1.heap.size, 0, none⟩) 1 1, .slice (some ⟨w1.heap.size + 1, 0, none⟩) 4 4]) := fis qF.1 rfl rfl
      clear qO qF
      go_simp
      go_at_call 12
      refine (good_any (cd0 w.heap.size w1.heap.size (w1.heap.size + 1)) _ (HCD.out.old hB) (show 4 ≤ 3000 by decide)).mono ?_
      rintro e w2 ⟨rfl, hb2⟩
      rw [HG.out]
      exact hK _ _ hb2 rfl
    refine BOk.cons rfl [1] [] rfl rfl (by kernel_rfl) (by kernel_rfl) (fun qK qa wr hB qO qF hK => ?_) ?_
    · have e13 : qa.tmps[13]? = some (.bool true) := fis qF.1 rfl rfl
      clear qO qF
      go_simp
      exact hK _ _ (Below.refl _ _) (by first | rfl | (show (_ : Value) = _; simp_all; done))
    refine BOk.yes rfl [] [1] rfl 2 true rfl rfl rfl (by kernel_rfl) (by kernel_rfl) (by kernel_rfl) (fun qK qa wr hB qO qF hK => ?_) ?_
    · have e1 : qa.tmps[1]? = some (.pointer (some ⟨w1.heap.size + 1 + 1, 0, none⟩)) := qO.1.trans rfl
      clear qO qF
      have hk0 := (bcell hB _ _ (World.block_lt_of_cell? _ _ k0)).trans k0
      have hk1 := (bcell hB _ _ (World.block_lt_of_cell? _ _ k1)).trans k1
      have hk2 := (bcell hB _ _ (World.block_lt_of_cell? _ _ k2)).trans k2
      have hk3 := (bcell hB _ _ (World.block_lt_of_cell? _ _ k3)).trans k3
      have hk4 := (bcell hB _ _ (World.block_lt_of_cell? _ _ k4)).trans k4
      go_simp
      exact hK _ _ (Below.refl _ _) rfl
    refine BOk.yes rfl [] [] rfl 2 true rfl rfl rfl (by kernel_rfl) (by kernel_rfl) (by kernel_rfl) (fun qK qa wr hB qO qF hK => ?_) ?_
    · clear qO qF
      go_simp
      go_at_call 19
      refine (num_any 2 _).mono ?_
      rintro e w2 ⟨rfl, hb2⟩
      exact hK _ _ hb2 rfl
    refine BOk.yes rfl [4] [] rfl 2 true rfl rfl rfl (by kernel_rfl) (by kernel_rfl) (by kernel_rfl) (fun qK qa wr hB qO qF hK => ?_) ?_
    · have e16 : qa.tmps[16]? = some (.agg #[.int .i64 1, .int .u64 (un 2)]) := fis qF.1 rfl rfl
      clear qO qF
      go_simp
      exact hK _ _ ((Below.refl _ _).alloc (Nat.le_refl _) _) ⟨_, rfl, Bk.new _ _ _⟩
    refine BOk.yes rfl [3, 5] [] rfl 2 true rfl rfl rfl (by kernel_rfl) (by kernel_rfl) (by kernel_rfl) (fun qK qa wr hB qO qF hK => ?_) ?_
    · have e15 : qa.tmps[15]? = some (.agg #[.int .i64 3, .int .i64 0, .slice (some ⟨w.heap.size, 0, none⟩) 1 1, .slice (some ⟨w1.heap.size, 0, none⟩) 1 1, .slice (some ⟨w1.heap.size + 1, 0, none⟩) 4 4]) := fis qF.1 rfl rfl
      obtain ⟨u17, e17, r5⟩ := qF.2.1
      obtain ⟨g17, h17, k17⟩ := (show ∃ g, u17 = .slice (some ⟨g, 0, none⟩) 1 1 ∧ Bk wr g 31 #[.int .i64 1, .int .u64 (un 2)] from r5)
      subst h17
      have e17 : qa.tmps[17]? = some (.slice (some ⟨g17, 0, none⟩) 1 1) := e17
      clear qO qF
      go_simp
      go_at_call 9
      refine (run_any (cd0 w.heap.size w1.heap.size (w1.heap.size + 1)) (some ⟨g17, 0, none⟩) 1 [⟨1, un 2⟩] _ (HCD.out.old hB) (bk_rd k17) (fun x hx => by obtain rfl := List.mem_singleton.1 hx; exact un_lt 2) (by simp)).mono ?_
      rintro e w2 ⟨rfl, hb2⟩
      rw [H3.out]
      exact hK _ _ hb2 rfl
    refine BOk.yes rfl [] [] rfl 2 true rfl rfl rfl (by kernel_rfl) (by kernel_rfl) (by kernel_rfl) (fun qK qa wr hB qO qF hK => ?_) ?_
    · clear qO qF
      go_simp
      go_at_call 19
      refine (num_any 3 _).mono ?_
      rintro e w2 ⟨rfl, hb2⟩
      exact hK _ _ hb2 rfl
    refine BOk.yes rfl [6, 7] [] rfl 2 true rfl rfl rfl (by kernel_rfl) (by kernel_rfl) (by kernel_rfl) (fun qK qa wr hB qO qF hK => ?_) ?_
    · have e18 : qa.tmps[18]? = some (.agg #[.int .i64 1, .int .u64 (un 3)]) := fis qF.1 rfl rfl
      have e19 : qa.tmps[19]? = some (.agg #[.int .i64 1, .int .u64 (un 3)]) := fis qF.2.1 rfl rfl
      clear qO qF
      go_simp
      refine hK _ _ (Below.refl _ _) ?_
      show (_ : Value) = _
      first | rfl | (simp; done) | (simp; omega)
    refine BOk.cons rfl [2, 8] [] rfl rfl (by kernel_rfl) (by kernel_rfl) (fun qK qa wr hB qO qF hK => ?_) ?_
    · have e14 : qa.tmps[14]? = some (.bool true) := fis qF.1 rfl rfl
      have e20 : qa.tmps[20]? = some (.bool true) := fis qF.2.1 rfl rfl
      clear qO qF
      go_simp
      refine hK _ _ (Below.refl _ _) ?_
      show (_ : Value) = _
      first | rfl | (simp; done) | (simp; omega)
    refine BOk.cons rfl [9] [] rfl rfl (by kernel_rfl) (by kernel_rfl) (fun qK qa wr hB qO qF hK => ?_) ?_
    · have e21 : qa.tmps[21]? = some (.bool true) := fis qF.1 rfl rfl
      clear qO qF
      go_simp
      exact hK _ _ (Below.refl _ _) (by first | rfl | (show (_ : Value) = _; simp_all; done))
    refine BOk.yes rfl [] [1] rfl 10 true rfl rfl rfl (by kernel_rfl) (by kernel_rfl) (by kernel_rfl) (fun qK qa wr hB qO qF hK => ?_) ?_
    · have e1 : qa.tmps[1]? = some (.pointer (some ⟨w1.heap.size + 1 + 1, 0, none⟩)) := qO.1.trans rfl
      clear qO qF
      have hk0 := (bcell hB _ _ (World.block_lt_of_cell? _ _ k0)).trans k0
      have hk1 := (bcell hB _ _ (World.block_lt_of_cell? _ _ k1)).trans k1
      have hk2 := (bcell hB _ _ (World.block_lt_of_cell? _ _ k2)).trans k2
      have hk3 := (bcell hB _ _ (World.block_lt_of_cell? _ _ k3)).trans k3
      have hk4 := (bcell hB _ _ (World.block_lt_of_cell? _ _ k4)).trans k4
      go_simp
      exact hK _ _ (Below.refl _ _) rfl
    refine BOk.yes rfl [] [] rfl 10 true rfl rfl rfl (by kernel_rfl) (by kernel_rfl) (by kernel_rfl) (fun qK qa wr hB qO qF hK => ?_) ?_
    · clear qO qF
      go_simp
      go_at_call 19
      refine (num_any 0 _).mono ?_
      rintro e w2 ⟨rfl, hb2⟩
      exact hK _ _ hb2 rfl
    refine BOk.yes rfl [12] [] rfl 10 true rfl rfl rfl (by kernel_rfl) (by kernel_rfl) (by kernel_rfl) (fun qK qa wr hB qO qF hK => ?_) ?_
    · have e24 : qa.tmps[24]? = some (.agg #[.int .i64 1, .int .u64 (un 0)]) := fis qF.1 rfl rfl
      clear qO qF
      go_simp
      exact hK _ _ ((Below.refl _ _).alloc (Nat.le_refl _) _) ⟨_, rfl, Bk.new _ _ _⟩
    refine BOk.yes rfl [11, 13] [] rfl 10 true rfl rfl rfl (by kernel_rfl) (by kernel_rfl) (by kernel_rfl) (fun qK qa wr hB qO qF hK => ?_) ?_
    · have e23 : qa.tmps[23]? = some (.agg #[.int .i64 3, .int .i64 0, .slice (some ⟨w.heap.size, 0, none⟩) 1 1, .slice (some ⟨w1.heap.size, 0, none⟩) 1 1, .slice (some ⟨w1.heap.size + 1, 0, none⟩) 4 4]) := fis qF.1 rfl rfl
      obtain ⟨u25, e25, r13⟩ := qF.2.1
      obtain ⟨g25, h25, k25⟩ := (show ∃ g, u25 = .slice (some ⟨g, 0, none⟩) 1 1 ∧ Bk wr g 31 #[.int .i64 1, .int .u64 (un 0)] from r13)
      subst h25
      have e25 : qa.tmps[25]? = some (.slice (some ⟨g25, 0, none⟩) 1 1) := e25
      clear qO qF
      go_simp
      go_at_call 9
      refine (run_any (cd0 w.heap.size w1.heap.size (w1.heap.size + 1)) (some ⟨g25, 0, none⟩) 1 [⟨1, un 0⟩] _ (HCD.out.old hB) (bk_rd k25) (fun x hx => by obtain rfl := List.mem_singleton.1 hx; exact un_lt 0) (by simp)).mono ?_
      rintro e w2 ⟨rfl, hb2⟩
      rw [H0.out]
      exact hK _ _ hb2 rfl
    refine BOk.yes rfl [] [] rfl 10 true rfl rfl rfl (by kernel_rfl) (by kernel_rfl) (by kernel_rfl) (fun qK qa wr hB qO qF hK => ?_) ?_
    · clear qO qF
      go_simp
      exact hK _ _ (Below.refl _ _) rfl
    refine BOk.yes rfl [14, 15] [] rfl 10 true rfl rfl rfl (by kernel_rfl) (by kernel_rfl) (by kernel_rfl) (fun qK qa wr hB qO qF hK => ?_) ?_
    · have e26 : qa.tmps[26]? = some (.agg #[.int .i64 0, .int .u64 0]) := fis qF.1 rfl rfl
      have e27 : qa.tmps[27]? = some (.agg #[.int .i64 0, .int .u64 0]) := fis qF.2.1 rfl rfl
      clear qO qF
      go_simp
      refine hK _ _ (Below.refl _ _) ?_
      show (_ : Value) = _
      first | rfl | (simp; done) | (simp; omega)
    refine BOk.cons rfl [10, 16] [] rfl rfl (by kernel_rfl) (by kernel_rfl) (fun qK qa wr hB qO qF hK => ?_) ?_
    · have e22 : qa.tmps[22]? = some (.bool true) := fis qF.1 rfl rfl
      have e28 : qa.tmps[28]? = some (.bool true) := fis qF.2.1 rfl rfl
      clear qO qF
      go_simp
      refine hK _ _ (Below.refl _ _) ?_
      show (_ : Value) = _
      first | rfl | (simp; done) | (simp; omega)
    refine BOk.cons rfl [17] [] rfl rfl (by kernel_rfl) (by kernel_rfl) (fun qK qa wr hB qO qF hK => ?_) ?_
    · have e29 : qa.tmps[29]? = some (.bool true) := fis qF.1 rfl rfl
      clear qO qF
      go_simp
      exact hK _ _ (Below.refl _ _) (by first | rfl | (show (_ : Value) = _; simp_all; done))
    exact BOk.nil
  intro vals wr hl hB hR
  match vals, hl with
  | [z12, z13, z14, z15, z16, z17, z18, z19, z20, z21, z22, z23, z24, z25, z26, z27, z28, z29, z0], _ =>
  have r18 : z0 = .bool true := hR 18 _ rfl
  subst r18
  clear hR
  simp only [List.cons_append, List.nil_append, putAll, Act.put, List.setIfInBounds_toArray, List.set_cons_zero, List.set_cons_succ]
  go_wp2_with fail
  go_ret
  exact ⟨rfl, HB.out.trans (hB.mono HB.out.size)⟩
end Go.Proofs.Ytadblgfppnpamaa
