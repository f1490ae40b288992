/- ValueBack holds. No conditions. -/
import Derived.Test.YtlejjchaooeabaaValN
namespace Go.Proofs.Ytlejjchaooeabaa.valueBack
open Go.ChangeShapes Go.WideShapes Go.ChangeAt Go.RowKit
open Go.ChangeMaps (open_string shut_string)
set_option linter.unusedSimpArgs false
set_option linter.unusedVariables false

theorem sum_yes {a b : Int} (ha : I64 a) (hb : I64 b) (h : (fitI (a + b)).isSome = true) : applyV 1 [intV a, intV b] = intV (a + b) ∧ applyV 2 [intV (a + b), intV b] = intV a := by
  obtain ⟨h1, h2⟩ := fit_I64 h
  constructor
  · rw [int_two 1 ha hb (by omega)]; simp [numV, h2]
  · rw [int_two 2 h1 hb (by omega)]; simp [numV, I64_fit ha]
theorem sum_no {a b : Int} (ha : I64 a) (hb : I64 b) (h : (fitI (a + b)).isSome = false) : applyV 1 [intV a, intV b] = none0 := by
  rw [int_two 1 ha hb (by omega)]
  have : fitI (a + b) = none := by simpa using h
  simp [numV, this]
theorem mul_no {a b : Int} (ha : I64 a) (hb : I64 b) (h : (fitI (a * b)).isSome = false) : applyV 3 [intV a, intV b] = none0 := by
  rw [int_two 3 ha hb (by omega)]
  have : fitI (a * b) = none := by simpa using h
  simp [numV, this]
theorem mul_yes {a b : Int} (ha : I64 a) (hb : I64 b) (h : (fitI (a * b)).isSome = true) : applyV 3 [intV a, intV b] = intV (a * b) := by
  obtain ⟨h1, h2⟩ := fit_I64 h
  rw [int_two 3 ha hb (by omega)]; simp [numV, h2]
theorem mul_back {a b : Int} (ha : I64 a) (hb : I64 b) (h : (fitI (a * b)).isSome = true) (h0 : b ≠ 0) : applyV 4 [intV (a * b), intV b] = intV a ∧ applyV 5 [intV (a * b), intV b] = intV 0 := by
  obtain ⟨h1, h2⟩ := fit_I64 h
  constructor
  · rw [int_two 4 h1 hb (by omega)]
    by_cases hm : b = -1
    · subst hm
      have : fitI (0 - a * -1) = some a := by rw [show 0 - a * -1 = a by omega]; exact I64_fit ha
      simp [numV, h0]
      simp at this
      rw [this]; rfl
    · have : (a * b).tdiv b = a := Int.mul_tdiv_cancel a h0
      simp [numV, h0, hm, this]
  · rw [int_two 5 h1 hb (by omega)]
    by_cases hm : b = -1
    · subst hm; simp [numV]
    · simp [numV, h0, hm]
def backR4_1 (a b : Int) (g5 g6 : Nat) : List Spec := [.is (.pointer (some ⟨g5, 0, none⟩)),
  .is (.int .i64 1),
  .is (.bool true),
  .is (.bool true),
  .is (.agg #[.int .i64 1, .int .u64 (un (a + b))]),
  .is (.int .i64 b),
  .is (.agg #[.int .i64 1, .int .u64 (un b)]),
  .st (fun v w => ∃ g, v = .slice (some ⟨g, 0, none⟩) 2 2 ∧ Bk w g 24 #[.int .i64 1, .int .u64 (un (a + b)), .int .i64 1, .int .u64 (un b)]) (fun _ _ _ hb ⟨g, h1, h2⟩ => ⟨g, h1, h2.old hb⟩),
  .is (.agg #[.int .i64 1, .int .u64 (un a)]),
  .is (.int .i64 a),
  .is (.agg #[.int .i64 1, .int .u64 (un a)]),
  .is (.bool false),
  .is (.bool false),
  .is (.bool false),
  .is (.pointer (some ⟨g5, 0, none⟩)),
  .is (.int .i64 1),
  .is (.bool false),
  .is (.bool false),
  .is (undef),
  .is (undef),
  .is (undef),
  .is (undef),
  .is (undef),
  .is (undef),
  .is (undef),
  .is (.bool false),
  .is (.bool false)]
def backR6_1 (a b : Int) (g5 g6 : Nat) : List Spec := [.is (.pointer (some ⟨g6, 0, none⟩)),
  .is (.int .i64 0),
  .is (.bool true),
  .is (.bool true),
  .is (undef),
  .is (undef),
  .is (.bool true),
  .is (.bool true),
  .is (undef),
  .is (undef),
  .is (undef),
  .is (undef),
  .is (undef),
  .is (undef),
  .is (undef),
  .is (undef),
  .is (undef),
  .is (undef),
  .is (undef),
  .is (undef),
  .is (undef),
  .is (undef),
  .is (undef),
  .is (undef),
  .is (undef),
  .is (.bool true),
  .is (.bool true)]
set_option maxHeartbeats 4000000 in
theorem walk_1 (a b : Int) (ha : I64 a) (hb : I64 b) (hs : (fitI (a + b)).isSome = true) (hp : (fitI (a * b)).isSome = false) (w : World) :
    Calls Try.prog 9 #[.int .i64 a, .int .i64 b] w fun e w' => e = .returned (.bool true) ∧ Below w.heap.size w w' := by
  obtain ⟨e1, e2⟩ := sum_yes ha hb hs
  have e3 := mul_no ha hb hp
  clear hs hp
  have E1 := Lib.hid e1; have E2 := Lib.hid e2; have E3 := Lib.hid e3
  clear e1 e2 e3
  go_enter Try.func9, Try.ntmps9
  go_wp2_with fail
  refine (awake_any _).mono ?_
  rintro e w1 ⟨rfl, hb1⟩
  go_wp2_with fail
  refine (num_any a _).mono ?_
  rintro e w2 ⟨rfl, hb2⟩
  have hbel := hb1.trans (hb2.mono hb1.size)
  clear hb1 hb2
  go_wp2_with fail
  refine (num_any b _).mono ?_
  rintro e w3 ⟨rfl, hb3⟩
  have hbel := hbel.trans (hb3.mono hbel.size)
  clear hb3
  simp only [intV, V.v]
  go_wp2_with fail
  refine (do2 1 (intV a) (intV b) (intV_fits a) (intV_fits b) w3).mono ?_
  rintro e w4 ⟨rfl, hb4⟩
  have hbel : Below w.heap.size w w4 := hbel.trans (hb4.mono hbel.size)
  clear hb4
  rw [E1.out]
  go_wp2_with fail
  refine (num_any a _).mono ?_
  rintro e w5 ⟨rfl, hb5⟩
  have hbel := hbel.trans (hb5.mono hbel.size)
  clear hb5
  go_wp2_with fail
  refine (num_any b _).mono ?_
  rintro e w6 ⟨rfl, hb6⟩
  have hbel := hbel.trans (hb6.mono hbel.size)
  clear hb6
  simp only [intV, V.v]
  go_wp2_with fail
  refine (do2 3 (intV a) (intV b) (intV_fits a) (intV_fits b) w6).mono ?_
  rintro e w7 ⟨rfl, hb7⟩
  have hbel : Below w.heap.size w w7 := hbel.trans (hb7.mono hbel.size)
  clear hb7
  rw [E3.out]
  simp only [intV, none0]
  have hz := hbel.size
  go_wp2_with fail
  refine wp_abs (fun W => Below w.heap.size w W ∧ Bk W w7.heap.size 24 #[.int .i64 1, .int .u64 (un (a + b))] ∧ Bk W (w7.heap.size + 1) 24 #[.int .i64 0, .int .u64 0]) ?_ ?_
  · exact ⟨(hbel.alloc hz _).alloc (by simp; omega) _, (Bk.newAt rfl _ _).alloc _, Bk.newAt (by first | rfl | simp) _ _⟩
  rintro W ⟨hbW, k5, k6⟩
  generalize w7.heap.size + 1 = g6 at *
  generalize w7.heap.size = g5 at *
  clear hbel hz
  have ⟨c50, c51, _, _⟩ := vcells k5
  have ⟨c60, c61, _, _⟩ := vcells k6
  have e2 := E2.out
  refine wp_region_b (by kernel_rfl) (fun k => (backR4_1 a b g5 g6).getD k .any) (by kernel_rfl) ?_ ?_
  · refine BOk.cons rfl [] [5] rfl rfl (by kernel_rfl) (by kernel_rfl) (fun qK qa wr hB qO qF hK => ?_) ?_
    · have e5 : qa.tmps[5]? = some (.pointer (some ⟨g5, 0, none⟩)) := qO.1.trans rfl
      clear qO qF
      go_simp
      exact hK _ _ (Below.refl _ _) rfl
    refine BOk.cons rfl [0] [] rfl rfl (by kernel_rfl) (by kernel_rfl) (fun qK qa wr hB qO qF hK => ?_) ?_
    · obtain ⟨u21, e21, r0⟩ := qF.1
      have e21 : qa.tmps[21]? = some (.pointer (some ⟨g5, 0, none⟩)) := (show u21 = .pointer (some ⟨g5, 0, none⟩) from r0) ▸ e21
      clear r0
      clear qO qF
      have hc50 := (bcell hB _ _ (World.block_lt_of_cell? _ _ c50)).trans c50
      go_simp
      exact hK _ _ (Below.refl _ _) rfl
    refine BOk.cons rfl [1] [] rfl rfl (by kernel_rfl) (by kernel_rfl) (fun qK qa wr hB qO qF hK => ?_) ?_
    · obtain ⟨u22, e22, r1⟩ := qF.1
      have e22 : qa.tmps[22]? = some (.int .i64 1) := (show u22 = .int .i64 1 from r1) ▸ e22
      clear r1
      clear qO qF
      go_simp
      exact hK _ _ (Below.refl _ _) (show (_ : Value) = _ from by first | rfl | simp)
    refine BOk.cons rfl [2] [] rfl rfl (by kernel_rfl) (by kernel_rfl) (fun qK qa wr hB qO qF hK => ?_) ?_
    · obtain ⟨u23, e23, r2⟩ := qF.1
      have e23 : qa.tmps[23]? = some (.bool true) := (show u23 = .bool true from r2) ▸ e23
      clear r2
      clear qO qF
      go_simp
      exact hK _ _ (Below.refl _ _) rfl
    refine BOk.yes rfl [] [5] rfl 3 true rfl rfl rfl (by kernel_rfl) (by kernel_rfl) (by kernel_rfl) (fun qK qa wr hB qO qF hK => ?_) ?_
    · have e5 : qa.tmps[5]? = some (.pointer (some ⟨g5, 0, none⟩)) := qO.1.trans rfl
      clear qO qF
      have hc50 := (bcell hB _ _ (World.block_lt_of_cell? _ _ c50)).trans c50
      have hc51 := (bcell hB _ _ (World.block_lt_of_cell? _ _ c51)).trans c51
      go_simp
      exact hK _ _ (Below.refl _ _) rfl
    refine BOk.yes rfl [] [1] rfl 3 true rfl rfl rfl (by kernel_rfl) (by kernel_rfl) (by kernel_rfl) (fun qK qa wr hB qO qF hK => ?_) ?_
    · have e1 : qa.tmps[1]? = some (.int .i64 b) := qO.1.trans rfl
      clear qO qF
      go_simp
      exact hK _ _ (Below.refl _ _) rfl
    refine BOk.yes rfl [5] [] rfl 3 true rfl rfl rfl (by kernel_rfl) (by kernel_rfl) (by kernel_rfl) (fun qK qa wr hB qO qF hK => ?_) ?_
    · obtain ⟨u26, e26, r5⟩ := qF.1
      have e26 : qa.tmps[26]? = some (.int .i64 b) := (show u26 = .int .i64 b from r5) ▸ e26
      clear r5
      clear qO qF
      go_simp
      go_at_call 24
      refine (num_any b _).mono ?_
      rintro e w2 ⟨rfl, hb2⟩
      exact hK _ _ hb2 rfl
    refine BOk.yes rfl [4, 6] [] rfl 3 true rfl rfl rfl (by kernel_rfl) (by kernel_rfl) (by kernel_rfl) (fun qK qa wr hB qO qF hK => ?_) ?_
    · obtain ⟨u25, e25, r4⟩ := qF.1
      have e25 : qa.tmps[25]? = some (.agg #[.int .i64 1, .int .u64 (un (a + b))]) := (show u25 = .agg #[.int .i64 1, .int .u64 (un (a + b))] from r4) ▸ e25
      clear r4
      obtain ⟨u27, e27, r6⟩ := qF.2.1
      have e27 : qa.tmps[27]? = some (.agg #[.int .i64 1, .int .u64 (un b)]) := (show u27 = .agg #[.int .i64 1, .int .u64 (un b)] from r6) ▸ e27
      clear r6
      clear qO qF
      go_simp
      exact hK _ _ ((Below.refl _ _).alloc (Nat.le_refl _) _) ⟨_, rfl, Bk.new _ _ _⟩
    refine BOk.yes rfl [7] [] rfl 3 true rfl rfl rfl (by kernel_rfl) (by kernel_rfl) (by kernel_rfl) (fun qK qa wr hB qO qF hK => ?_) ?_
    · obtain ⟨u28, e28, r7⟩ := qF.1
      obtain ⟨g28, h28, k28⟩ := (show ∃ g, u28 = .slice (some ⟨g, 0, none⟩) 2 2 ∧ Bk wr g 24 #[.int .i64 1, .int .u64 (un (a + b)), .int .i64 1, .int .u64 (un b)] from r7)
      subst h28
      have e28 : qa.tmps[28]? = some (.slice (some ⟨g28, 0, none⟩) 2 2) := e28
      clear qO qF
      go_simp
      go_at_call 23
      refine (do_bk 2 [(intV (a + b)), (intV b)] _ _ k28 rfl (by intro q hq; simp only [List.mem_cons, List.not_mem_nil, or_false] at hq; rcases hq with rfl | rfl; exact intV_fits _; exact intV_fits b) (by simp)).mono ?_
      rintro e w2 ⟨rfl, hb2⟩
      rw [e2]
      exact hK _ _ hb2 rfl
    refine BOk.yes rfl [] [0] rfl 3 true rfl rfl rfl (by kernel_rfl) (by kernel_rfl) (by kernel_rfl) (fun qK qa wr hB qO qF hK => ?_) ?_
    · have e0 : qa.tmps[0]? = some (.int .i64 a) := qO.1.trans rfl
      clear qO qF
      go_simp
      exact hK _ _ (Below.refl _ _) rfl
    refine BOk.yes rfl [9] [] rfl 3 true rfl rfl rfl (by kernel_rfl) (by kernel_rfl) (by kernel_rfl) (fun qK qa wr hB qO qF hK => ?_) ?_
    · obtain ⟨u30, e30, r9⟩ := qF.1
      have e30 : qa.tmps[30]? = some (.int .i64 a) := (show u30 = .int .i64 a from r9) ▸ e30
      clear r9
      clear qO qF
      go_simp
      go_at_call 24
      refine (num_any a _).mono ?_
      rintro e w2 ⟨rfl, hb2⟩
      exact hK _ _ hb2 rfl
    refine BOk.yes rfl [8, 10] [] rfl 3 true rfl rfl rfl (by kernel_rfl) (by kernel_rfl) (by kernel_rfl) (fun qK qa wr hB qO qF hK => ?_) ?_
    · obtain ⟨u29, e29, r8⟩ := qF.1
      have e29 : qa.tmps[29]? = some (.agg #[.int .i64 1, .int .u64 (un a)]) := (show u29 = .agg #[.int .i64 1, .int .u64 (un a)] from r8) ▸ e29
      clear r8
      obtain ⟨u31, e31, r10⟩ := qF.2.1
      have e31 : qa.tmps[31]? = some (.agg #[.int .i64 1, .int .u64 (un a)]) := (show u31 = .agg #[.int .i64 1, .int .u64 (un a)] from r10) ▸ e31
      clear r10
      clear qO qF
      go_simp
      exact hK _ _ (Below.refl _ _) (show (_ : Value) = _ from by first | rfl | simp)
    refine BOk.cons rfl [3, 11] [] rfl rfl (by kernel_rfl) (by kernel_rfl) (fun qK qa wr hB qO qF hK => ?_) ?_
    · obtain ⟨u24, e24, r3⟩ := qF.1
      have e24 : qa.tmps[24]? = some (.bool true) := (show u24 = .bool true from r3) ▸ e24
      clear r3
      obtain ⟨u32, e32, r11⟩ := qF.2.1
      have e32 : qa.tmps[32]? = some (.bool false) := (show u32 = .bool false from r11) ▸ e32
      clear r11
      clear qO qF
      go_simp
      exact hK _ _ (Below.refl _ _) (show (_ : Value) = _ from by first | rfl | simp)
    refine BOk.cons rfl [12] [] rfl rfl (by kernel_rfl) (by kernel_rfl) (fun qK qa wr hB qO qF hK => ?_) ?_
    · obtain ⟨u33, e33, r12⟩ := qF.1
      have e33 : qa.tmps[33]? = some (.bool false) := (show u33 = .bool false from r12) ▸ e33
      clear r12
      clear qO qF
      go_simp
      exact hK _ _ (Below.refl _ _) rfl
    refine BOk.yes rfl [] [5] rfl 13 false rfl rfl rfl (by kernel_rfl) (by kernel_rfl) (by kernel_rfl) (fun qK qa wr hB qO qF hK => ?_) ?_
    · have e5 : qa.tmps[5]? = some (.pointer (some ⟨g5, 0, none⟩)) := qO.1.trans rfl
      clear qO qF
      go_simp
      exact hK _ _ (Below.refl _ _) rfl
    refine BOk.yes rfl [14] [] rfl 13 false rfl rfl rfl (by kernel_rfl) (by kernel_rfl) (by kernel_rfl) (fun qK qa wr hB qO qF hK => ?_) ?_
    · obtain ⟨u35, e35, r14⟩ := qF.1
      have e35 : qa.tmps[35]? = some (.pointer (some ⟨g5, 0, none⟩)) := (show u35 = .pointer (some ⟨g5, 0, none⟩) from r14) ▸ e35
      clear r14
      clear qO qF
      have hc50 := (bcell hB _ _ (World.block_lt_of_cell? _ _ c50)).trans c50
      go_simp
      exact hK _ _ (Below.refl _ _) rfl
    refine BOk.yes rfl [15] [] rfl 13 false rfl rfl rfl (by kernel_rfl) (by kernel_rfl) (by kernel_rfl) (fun qK qa wr hB qO qF hK => ?_) ?_
    · obtain ⟨u36, e36, r15⟩ := qF.1
      have e36 : qa.tmps[36]? = some (.int .i64 1) := (show u36 = .int .i64 1 from r15) ▸ e36
      clear r15
      clear qO qF
      go_simp
      exact hK _ _ (Below.refl _ _) (show (_ : Value) = _ from by first | rfl | simp)
    refine BOk.yes rfl [16] [] rfl 13 false rfl rfl rfl (by kernel_rfl) (by kernel_rfl) (by kernel_rfl) (fun qK qa wr hB qO qF hK => ?_) ?_
    · obtain ⟨u37, e37, r16⟩ := qF.1
      have e37 : qa.tmps[37]? = some (.bool false) := (show u37 = .bool false from r16) ▸ e37
      clear r16
      clear qO qF
      go_simp
      exact hK _ _ (Below.refl _ _) rfl
    refine BOk.no rfl rfl 17 true rfl rfl rfl (by kernel_rfl) (fun _ => rfl) ?_
    refine BOk.no rfl rfl 17 true rfl rfl rfl (by kernel_rfl) (fun _ => rfl) ?_
    refine BOk.no rfl rfl 17 true rfl rfl rfl (by kernel_rfl) (fun _ => rfl) ?_
    refine BOk.no rfl rfl 17 true rfl rfl rfl (by kernel_rfl) (fun _ => rfl) ?_
    refine BOk.no rfl rfl 17 true rfl rfl rfl (by kernel_rfl) (fun _ => rfl) ?_
    refine BOk.no rfl rfl 17 true rfl rfl rfl (by kernel_rfl) (fun _ => rfl) ?_
    refine BOk.no rfl rfl 17 true rfl rfl rfl (by kernel_rfl) (fun _ => rfl) ?_
    refine BOk.yes rfl [17] [] rfl 13 false rfl rfl rfl (by kernel_rfl) (by kernel_rfl) (by kernel_rfl) (fun qK qa wr hB qO qF hK => ?_) ?_
    · obtain ⟨u38, e38, r17⟩ := qF.1
      have e38 : qa.tmps[38]? = some (.bool false) := (show u38 = .bool false from r17) ▸ e38
      clear r17
      clear qO qF
      go_simp
      exact hK _ _ (Below.refl _ _) (show (_ : Value) = _ from by first | rfl | simp)
    refine BOk.cons rfl [13, 25] [] rfl rfl (by kernel_rfl) (by kernel_rfl) (fun qK qa wr hB qO qF hK => ?_) ?_
    · obtain ⟨u34, e34, r13⟩ := qF.1
      have e34 : qa.tmps[34]? = some (.bool false) := (show u34 = .bool false from r13) ▸ e34
      clear r13
      obtain ⟨u46, e46, r25⟩ := qF.2.1
      have e46 : qa.tmps[46]? = some (.bool false) := (show u46 = .bool false from r25) ▸ e46
      clear r25
      clear qO qF
      go_simp
      exact hK _ _ (Below.refl _ _) (show (_ : Value) = _ from by first | rfl | simp)
    exact BOk.nil
  intro vals wr hl hB hR
  match vals, hl with
  | [x21, x22, x23, x24, x25, x26, x27, x28, x29, x30, x31, x32, x33, x34, x35, x36, x37, x38, x39, x40, x41, x42, x43, x44, x45, x46, x47], _ =>
  have r26 : x47 = .bool false := hR 26 _ rfl
  subst r26
  clear hR
  simp only [putAll, Act.put, List.setIfInBounds_toArray, List.set_cons_zero, List.set_cons_succ]
  have k5 := k5.old hB
  have k6 := k6.old hB
  have hbW := hbW.trans (hB.mono hbW.size)
  clear hB c50 c51 c60 c61 e2
  go_wp2_with fail
  have ⟨c50, c51, _, _⟩ := vcells k5
  have ⟨c60, c61, _, _⟩ := vcells k6
  refine wp_region_b (by kernel_rfl) (fun k => (backR6_1 a b g5 g6).getD k .any) (by kernel_rfl) ?_ ?_
  · refine BOk.cons rfl [] [6] rfl rfl (by kernel_rfl) (by kernel_rfl) (fun qK qa wr hB qO qF hK => ?_) ?_
    · have e6 : qa.tmps[6]? = some (.pointer (some ⟨g6, 0, none⟩)) := qO.1.trans rfl
      clear qO qF
      go_simp
      exact hK _ _ (Below.refl _ _) rfl
    refine BOk.cons rfl [0] [] rfl rfl (by kernel_rfl) (by kernel_rfl) (fun qK qa wr hB qO qF hK => ?_) ?_
    · obtain ⟨u48, e48, r0⟩ := qF.1
      have e48 : qa.tmps[48]? = some (.pointer (some ⟨g6, 0, none⟩)) := (show u48 = .pointer (some ⟨g6, 0, none⟩) from r0) ▸ e48
      clear r0
      clear qO qF
      have hc60 := (bcell hB _ _ (World.block_lt_of_cell? _ _ c60)).trans c60
      go_simp
      exact hK _ _ (Below.refl _ _) rfl
    refine BOk.cons rfl [1] [] rfl rfl (by kernel_rfl) (by kernel_rfl) (fun qK qa wr hB qO qF hK => ?_) ?_
    · obtain ⟨u49, e49, r1⟩ := qF.1
      have e49 : qa.tmps[49]? = some (.int .i64 0) := (show u49 = .int .i64 0 from r1) ▸ e49
      clear r1
      clear qO qF
      go_simp
      exact hK _ _ (Below.refl _ _) (show (_ : Value) = _ from by first | rfl | simp)
    refine BOk.cons rfl [2] [] rfl rfl (by kernel_rfl) (by kernel_rfl) (fun qK qa wr hB qO qF hK => ?_) ?_
    · obtain ⟨u50, e50, r2⟩ := qF.1
      have e50 : qa.tmps[50]? = some (.bool true) := (show u50 = .bool true from r2) ▸ e50
      clear r2
      clear qO qF
      go_simp
      exact hK _ _ (Below.refl _ _) rfl
    refine BOk.no rfl rfl 3 false rfl rfl rfl (by kernel_rfl) (fun _ => rfl) ?_
    refine BOk.no rfl rfl 3 false rfl rfl rfl (by kernel_rfl) (fun _ => rfl) ?_
    refine BOk.cons rfl [3] [] rfl rfl (by kernel_rfl) (by kernel_rfl) (fun qK qa wr hB qO qF hK => ?_) ?_
    · obtain ⟨u51, e51, r3⟩ := qF.1
      have e51 : qa.tmps[51]? = some (.bool true) := (show u51 = .bool true from r3) ▸ e51
      clear r3
      clear qO qF
      go_simp
      exact hK _ _ (Below.refl _ _) (show (_ : Value) = _ from by first | rfl | simp)
    refine BOk.cons rfl [6] [] rfl rfl (by kernel_rfl) (by kernel_rfl) (fun qK qa wr hB qO qF hK => ?_) ?_
    · obtain ⟨u54, e54, r6⟩ := qF.1
      have e54 : qa.tmps[54]? = some (.bool true) := (show u54 = .bool true from r6) ▸ e54
      clear r6
      clear qO qF
      go_simp
      exact hK _ _ (Below.refl _ _) rfl
    refine BOk.no rfl rfl 7 false rfl rfl rfl (by kernel_rfl) (fun _ => rfl) ?_
    refine BOk.no rfl rfl 7 false rfl rfl rfl (by kernel_rfl) (fun _ => rfl) ?_
    refine BOk.no rfl rfl 7 false rfl rfl rfl (by kernel_rfl) (fun _ => rfl) ?_
    refine BOk.no rfl rfl 7 false rfl rfl rfl (by kernel_rfl) (fun _ => rfl) ?_
    refine BOk.no rfl rfl 7 false rfl rfl rfl (by kernel_rfl) (fun _ => rfl) ?_
    refine BOk.no rfl rfl 7 false rfl rfl rfl (by kernel_rfl) (fun _ => rfl) ?_
    refine BOk.no rfl rfl 7 false rfl rfl rfl (by kernel_rfl) (fun _ => rfl) ?_
    refine BOk.no rfl rfl 7 false rfl rfl rfl (by kernel_rfl) (fun _ => rfl) ?_
    refine BOk.no rfl rfl 7 false rfl rfl rfl (by kernel_rfl) (fun _ => rfl) ?_
    refine BOk.gone rfl rfl 16 true rfl rfl rfl (by kernel_rfl) (fun _ => rfl) ?_
    refine BOk.gone rfl rfl 16 true rfl rfl rfl (by kernel_rfl) (fun _ => rfl) ?_
    refine BOk.gone rfl rfl 16 true rfl rfl rfl (by kernel_rfl) (fun _ => rfl) ?_
    refine BOk.gone rfl rfl 16 true rfl rfl rfl (by kernel_rfl) (fun _ => rfl) ?_
    refine BOk.gone rfl rfl 16 true rfl rfl rfl (by kernel_rfl) (fun _ => rfl) ?_
    refine BOk.gone rfl rfl 16 true rfl rfl rfl (by kernel_rfl) (fun _ => rfl) ?_
    refine BOk.gone rfl rfl 16 true rfl rfl rfl (by kernel_rfl) (fun _ => rfl) ?_
    refine BOk.no rfl rfl 7 false rfl rfl rfl (by kernel_rfl) (fun _ => rfl) ?_
    refine BOk.cons rfl [7] [] rfl rfl (by kernel_rfl) (by kernel_rfl) (fun qK qa wr hB qO qF hK => ?_) ?_
    · obtain ⟨u55, e55, r7⟩ := qF.1
      have e55 : qa.tmps[55]? = some (.bool true) := (show u55 = .bool true from r7) ▸ e55
      clear r7
      clear qO qF
      go_simp
      exact hK _ _ (Below.refl _ _) (show (_ : Value) = _ from by first | rfl | simp)
    refine BOk.cons rfl [25] [] rfl rfl (by kernel_rfl) (by kernel_rfl) (fun qK qa wr hB qO qF hK => ?_) ?_
    · obtain ⟨u73, e73, r25⟩ := qF.1
      have e73 : qa.tmps[73]? = some (.bool true) := (show u73 = .bool true from r25) ▸ e73
      clear r25
      clear qO qF
      go_simp
      exact hK _ _ (Below.refl _ _) rfl
    exact BOk.nil
  intro vals wr hl hB hR
  match vals, hl with
  | [y48, y49, y50, y51, y52, y53, y54, y55, y56, y57, y58, y59, y60, y61, y62, y63, y64, y65, y66, y67, y68, y69, y70, y71, y72, y73, y4], _ =>
  have r26 : y4 = .bool true := hR 26 _ rfl
  subst r26
  clear hR
  simp only [putAll, Act.put, List.setIfInBounds_toArray, List.set_cons_zero, List.set_cons_succ]
  go_wp2_with fail
  go_ret
  exact ⟨rfl, hbW.trans (hB.mono hbW.size)⟩

def backR4_2 (a : Int) (g5 g6 : Nat) : List Spec := [.is (.pointer (some ⟨g5, 0, none⟩)),
  .is (.int .i64 1),
  .is (.bool true),
  .is (.bool true),
  .is (.agg #[.int .i64 1, .int .u64 (un a)]),
  .is (.int .i64 0),
  .is (.agg #[.int .i64 1, .int .u64 (un 0)]),
  .st (fun v w => ∃ g, v = .slice (some ⟨g, 0, none⟩) 2 2 ∧ Bk w g 24 #[.int .i64 1, .int .u64 (un a), .int .i64 1, .int .u64 (un 0)]) (fun _ _ _ hb ⟨g, h1, h2⟩ => ⟨g, h1, h2.old hb⟩),
  .is (.agg #[.int .i64 1, .int .u64 (un a)]),
  .is (.int .i64 a),
  .is (.agg #[.int .i64 1, .int .u64 (un a)]),
  .is (.bool false),
  .is (.bool false),
  .is (.bool false),
  .is (.pointer (some ⟨g5, 0, none⟩)),
  .is (.int .i64 1),
  .is (.bool false),
  .is (.bool false),
  .is (undef),
  .is (undef),
  .is (undef),
  .is (undef),
  .is (undef),
  .is (undef),
  .is (undef),
  .is (.bool false),
  .is (.bool false)]
def backR6_2 (a : Int) (g5 g6 : Nat) : List Spec := [.is (.pointer (some ⟨g6, 0, none⟩)),
  .is (.int .i64 1),
  .is (.bool false),
  .is (.bool false),
  .is (.int .i64 0),
  .is (.bool true),
  .is (.bool true),
  .is (.bool true),
  .is (undef),
  .is (undef),
  .is (undef),
  .is (undef),
  .is (undef),
  .is (undef),
  .is (undef),
  .is (undef),
  .is (undef),
  .is (undef),
  .is (undef),
  .is (undef),
  .is (undef),
  .is (undef),
  .is (undef),
  .is (undef),
  .is (undef),
  .is (.bool true),
  .is (.bool true)]
set_option maxHeartbeats 4000000 in
theorem walk_2 (a : Int) (ha : I64 a) (hs : (fitI (a + 0)).isSome = true) (w : World) :
    Calls Try.prog 9 #[.int .i64 a, .int .i64 0] w fun e w' => e = .returned (.bool true) ∧ Below w.heap.size w w' := by
  obtain ⟨e1, e2⟩ := sum_yes ha (by unfold I64; omega : I64 0) hs
  rw [Int.add_zero] at e1 e2
  have e3 := mul_yes (b := 0) ha (by unfold I64; omega) (by rw [Int.mul_zero]; rfl)
  rw [Int.mul_zero] at e3
  clear hs
  have E1 := Lib.hid e1; have E2 := Lib.hid e2; have E3 := Lib.hid e3
  clear e1 e2 e3
  go_enter Try.func9, Try.ntmps9
  go_wp2_with fail
  refine (awake_any _).mono ?_
  rintro e w1 ⟨rfl, hb1⟩
  go_wp2_with fail
  refine (num_any a _).mono ?_
  rintro e w2 ⟨rfl, hb2⟩
  have hbel := hb1.trans (hb2.mono hb1.size)
  clear hb1 hb2
  go_wp2_with fail
  refine (num_any 0 _).mono ?_
  rintro e w3 ⟨rfl, hb3⟩
  have hbel := hbel.trans (hb3.mono hbel.size)
  clear hb3
  simp only [intV, V.v]
  go_wp2_with fail
  refine (do2 1 (intV a) (intV 0) (intV_fits a) (intV_fits 0) w3).mono ?_
  rintro e w4 ⟨rfl, hb4⟩
  have hbel : Below w.heap.size w w4 := hbel.trans (hb4.mono hbel.size)
  clear hb4
  rw [E1.out]
  go_wp2_with fail
  refine (num_any a _).mono ?_
  rintro e w5 ⟨rfl, hb5⟩
  have hbel := hbel.trans (hb5.mono hbel.size)
  clear hb5
  go_wp2_with fail
  refine (num_any 0 _).mono ?_
  rintro e w6 ⟨rfl, hb6⟩
  have hbel := hbel.trans (hb6.mono hbel.size)
  clear hb6
  simp only [intV, V.v]
  go_wp2_with fail
  refine (do2 3 (intV a) (intV 0) (intV_fits a) (intV_fits 0) w6).mono ?_
  rintro e w7 ⟨rfl, hb7⟩
  have hbel : Below w.heap.size w w7 := hbel.trans (hb7.mono hbel.size)
  clear hb7
  rw [E3.out]
  simp only [intV, none0]
  have hz := hbel.size
  go_wp2_with fail
  refine wp_abs (fun W => Below w.heap.size w W ∧ Bk W w7.heap.size 24 #[.int .i64 1, .int .u64 (un a)] ∧ Bk W (w7.heap.size + 1) 24 #[.int .i64 1, .int .u64 (un 0)]) ?_ ?_
  · exact ⟨(hbel.alloc hz _).alloc (by simp; omega) _, (Bk.newAt rfl _ _).alloc _, Bk.newAt (by first | rfl | simp) _ _⟩
  rintro W ⟨hbW, k5, k6⟩
  generalize w7.heap.size + 1 = g6 at *
  generalize w7.heap.size = g5 at *
  clear hbel hz
  have ⟨c50, c51, _, _⟩ := vcells k5
  have ⟨c60, c61, _, _⟩ := vcells k6
  have e2 := E2.out
  refine wp_region_b (by kernel_rfl) (fun k => (backR4_2 a g5 g6).getD k .any) (by kernel_rfl) ?_ ?_
  · refine BOk.cons rfl [] [5] rfl rfl (by kernel_rfl) (by kernel_rfl) (fun qK qa wr hB qO qF hK => ?_) ?_
    · have e5 : qa.tmps[5]? = some (.pointer (some ⟨g5, 0, none⟩)) := qO.1.trans rfl
      clear qO qF
      go_simp
      exact hK _ _ (Below.refl _ _) rfl
    refine BOk.cons rfl [0] [] rfl rfl (by kernel_rfl) (by kernel_rfl) (fun qK qa wr hB qO qF hK => ?_) ?_
    · obtain ⟨u21, e21, r0⟩ := qF.1
      have e21 : qa.tmps[21]? = some (.pointer (some ⟨g5, 0, none⟩)) := (show u21 = .pointer (some ⟨g5, 0, none⟩) from r0) ▸ e21
      clear r0
      clear qO qF
      have hc50 := (bcell hB _ _ (World.block_lt_of_cell? _ _ c50)).trans c50
      go_simp
      exact hK _ _ (Below.refl _ _) rfl
    refine BOk.cons rfl [1] [] rfl rfl (by kernel_rfl) (by kernel_rfl) (fun qK qa wr hB qO qF hK => ?_) ?_
    · obtain ⟨u22, e22, r1⟩ := qF.1
      have e22 : qa.tmps[22]? = some (.int .i64 1) := (show u22 = .int .i64 1 from r1) ▸ e22
      clear r1
      clear qO qF
      go_simp
      exact hK _ _ (Below.refl _ _) (show (_ : Value) = _ from by first | rfl | simp)
    refine BOk.cons rfl [2] [] rfl rfl (by kernel_rfl) (by kernel_rfl) (fun qK qa wr hB qO qF hK => ?_) ?_
    · obtain ⟨u23, e23, r2⟩ := qF.1
      have e23 : qa.tmps[23]? = some (.bool true) := (show u23 = .bool true from r2) ▸ e23
      clear r2
      clear qO qF
      go_simp
      exact hK _ _ (Below.refl _ _) rfl
    refine BOk.yes rfl [] [5] rfl 3 true rfl rfl rfl (by kernel_rfl) (by kernel_rfl) (by kernel_rfl) (fun qK qa wr hB qO qF hK => ?_) ?_
    · have e5 : qa.tmps[5]? = some (.pointer (some ⟨g5, 0, none⟩)) := qO.1.trans rfl
      clear qO qF
      have hc50 := (bcell hB _ _ (World.block_lt_of_cell? _ _ c50)).trans c50
      have hc51 := (bcell hB _ _ (World.block_lt_of_cell? _ _ c51)).trans c51
      go_simp
      exact hK _ _ (Below.refl _ _) rfl
    refine BOk.yes rfl [] [1] rfl 3 true rfl rfl rfl (by kernel_rfl) (by kernel_rfl) (by kernel_rfl) (fun qK qa wr hB qO qF hK => ?_) ?_
    · have e1 : qa.tmps[1]? = some (.int .i64 0) := qO.1.trans rfl
      clear qO qF
      go_simp
      exact hK _ _ (Below.refl _ _) rfl
    refine BOk.yes rfl [5] [] rfl 3 true rfl rfl rfl (by kernel_rfl) (by kernel_rfl) (by kernel_rfl) (fun qK qa wr hB qO qF hK => ?_) ?_
    · obtain ⟨u26, e26, r5⟩ := qF.1
      have e26 : qa.tmps[26]? = some (.int .i64 0) := (show u26 = .int .i64 0 from r5) ▸ e26
      clear r5
      clear qO qF
      go_simp
      go_at_call 24
      refine (num_any 0 _).mono ?_
      rintro e w2 ⟨rfl, hb2⟩
      exact hK _ _ hb2 rfl
    refine BOk.yes rfl [4, 6] [] rfl 3 true rfl rfl rfl (by kernel_rfl) (by kernel_rfl) (by kernel_rfl) (fun qK qa wr hB qO qF hK => ?_) ?_
    · obtain ⟨u25, e25, r4⟩ := qF.1
      have e25 : qa.tmps[25]? = some (.agg #[.int .i64 1, .int .u64 (un a)]) := (show u25 = .agg #[.int .i64 1, .int .u64 (un a)] from r4) ▸ e25
      clear r4
      obtain ⟨u27, e27, r6⟩ := qF.2.1
      have e27 : qa.tmps[27]? = some (.agg #[.int .i64 1, .int .u64 (un 0)]) := (show u27 = .agg #[.int .i64 1, .int .u64 (un 0)] from r6) ▸ e27
      clear r6
      clear qO qF
      go_simp
      exact hK _ _ ((Below.refl _ _).alloc (Nat.le_refl _) _) ⟨_, rfl, Bk.new _ _ _⟩
    refine BOk.yes rfl [7] [] rfl 3 true rfl rfl rfl (by kernel_rfl) (by kernel_rfl) (by kernel_rfl) (fun qK qa wr hB qO qF hK => ?_) ?_
    · obtain ⟨u28, e28, r7⟩ := qF.1
      obtain ⟨g28, h28, k28⟩ := (show ∃ g, u28 = .slice (some ⟨g, 0, none⟩) 2 2 ∧ Bk wr g 24 #[.int .i64 1, .int .u64 (un a), .int .i64 1, .int .u64 (un 0)] from r7)
      subst h28
      have e28 : qa.tmps[28]? = some (.slice (some ⟨g28, 0, none⟩) 2 2) := e28
      clear qO qF
      go_simp
      go_at_call 23
      refine (do_bk 2 [(intV a), (intV 0)] _ _ k28 rfl (by intro q hq; simp only [List.mem_cons, List.not_mem_nil, or_false] at hq; rcases hq with rfl | rfl; exact intV_fits a; exact intV_fits 0) (by simp)).mono ?_
      rintro e w2 ⟨rfl, hb2⟩
      rw [e2]
      exact hK _ _ hb2 rfl
    refine BOk.yes rfl [] [0] rfl 3 true rfl rfl rfl (by kernel_rfl) (by kernel_rfl) (by kernel_rfl) (fun qK qa wr hB qO qF hK => ?_) ?_
    · have e0 : qa.tmps[0]? = some (.int .i64 a) := qO.1.trans rfl
      clear qO qF
      go_simp
      exact hK _ _ (Below.refl _ _) rfl
    refine BOk.yes rfl [9] [] rfl 3 true rfl rfl rfl (by kernel_rfl) (by kernel_rfl) (by kernel_rfl) (fun qK qa wr hB qO qF hK => ?_) ?_
    · obtain ⟨u30, e30, r9⟩ := qF.1
      have e30 : qa.tmps[30]? = some (.int .i64 a) := (show u30 = .int .i64 a from r9) ▸ e30
      clear r9
      clear qO qF
      go_simp
      go_at_call 24
      refine (num_any a _).mono ?_
      rintro e w2 ⟨rfl, hb2⟩
      exact hK _ _ hb2 rfl
    refine BOk.yes rfl [8, 10] [] rfl 3 true rfl rfl rfl (by kernel_rfl) (by kernel_rfl) (by kernel_rfl) (fun qK qa wr hB qO qF hK => ?_) ?_
    · obtain ⟨u29, e29, r8⟩ := qF.1
      have e29 : qa.tmps[29]? = some (.agg #[.int .i64 1, .int .u64 (un a)]) := (show u29 = .agg #[.int .i64 1, .int .u64 (un a)] from r8) ▸ e29
      clear r8
      obtain ⟨u31, e31, r10⟩ := qF.2.1
      have e31 : qa.tmps[31]? = some (.agg #[.int .i64 1, .int .u64 (un a)]) := (show u31 = .agg #[.int .i64 1, .int .u64 (un a)] from r10) ▸ e31
      clear r10
      clear qO qF
      go_simp
      exact hK _ _ (Below.refl _ _) (show (_ : Value) = _ from by first | rfl | simp)
    refine BOk.cons rfl [3, 11] [] rfl rfl (by kernel_rfl) (by kernel_rfl) (fun qK qa wr hB qO qF hK => ?_) ?_
    · obtain ⟨u24, e24, r3⟩ := qF.1
      have e24 : qa.tmps[24]? = some (.bool true) := (show u24 = .bool true from r3) ▸ e24
      clear r3
      obtain ⟨u32, e32, r11⟩ := qF.2.1
      have e32 : qa.tmps[32]? = some (.bool false) := (show u32 = .bool false from r11) ▸ e32
      clear r11
      clear qO qF
      go_simp
      exact hK _ _ (Below.refl _ _) (show (_ : Value) = _ from by first | rfl | simp)
    refine BOk.cons rfl [12] [] rfl rfl (by kernel_rfl) (by kernel_rfl) (fun qK qa wr hB qO qF hK => ?_) ?_
    · obtain ⟨u33, e33, r12⟩ := qF.1
      have e33 : qa.tmps[33]? = some (.bool false) := (show u33 = .bool false from r12) ▸ e33
      clear r12
      clear qO qF
      go_simp
      exact hK _ _ (Below.refl _ _) rfl
    refine BOk.yes rfl [] [5] rfl 13 false rfl rfl rfl (by kernel_rfl) (by kernel_rfl) (by kernel_rfl) (fun qK qa wr hB qO qF hK => ?_) ?_
    · have e5 : qa.tmps[5]? = some (.pointer (some ⟨g5, 0, none⟩)) := qO.1.trans rfl
      clear qO qF
      go_simp
      exact hK _ _ (Below.refl _ _) rfl
    refine BOk.yes rfl [14] [] rfl 13 false rfl rfl rfl (by kernel_rfl) (by kernel_rfl) (by kernel_rfl) (fun qK qa wr hB qO qF hK => ?_) ?_
    · obtain ⟨u35, e35, r14⟩ := qF.1
      have e35 : qa.tmps[35]? = some (.pointer (some ⟨g5, 0, none⟩)) := (show u35 = .pointer (some ⟨g5, 0, none⟩) from r14) ▸ e35
      clear r14
      clear qO qF
      have hc50 := (bcell hB _ _ (World.block_lt_of_cell? _ _ c50)).trans c50
      go_simp
      exact hK _ _ (Below.refl _ _) rfl
    refine BOk.yes rfl [15] [] rfl 13 false rfl rfl rfl (by kernel_rfl) (by kernel_rfl) (by kernel_rfl) (fun qK qa wr hB qO qF hK => ?_) ?_
    · obtain ⟨u36, e36, r15⟩ := qF.1
      have e36 : qa.tmps[36]? = some (.int .i64 1) := (show u36 = .int .i64 1 from r15) ▸ e36
      clear r15
      clear qO qF
      go_simp
      exact hK _ _ (Below.refl _ _) (show (_ : Value) = _ from by first | rfl | simp)
    refine BOk.yes rfl [16] [] rfl 13 false rfl rfl rfl (by kernel_rfl) (by kernel_rfl) (by kernel_rfl) (fun qK qa wr hB qO qF hK => ?_) ?_
    · obtain ⟨u37, e37, r16⟩ := qF.1
      have e37 : qa.tmps[37]? = some (.bool false) := (show u37 = .bool false from r16) ▸ e37
      clear r16
      clear qO qF
      go_simp
      exact hK _ _ (Below.refl _ _) rfl
    refine BOk.no rfl rfl 17 true rfl rfl rfl (by kernel_rfl) (fun _ => rfl) ?_
    refine BOk.no rfl rfl 17 true rfl rfl rfl (by kernel_rfl) (fun _ => rfl) ?_
    refine BOk.no rfl rfl 17 true rfl rfl rfl (by kernel_rfl) (fun _ => rfl) ?_
    refine BOk.no rfl rfl 17 true rfl rfl rfl (by kernel_rfl) (fun _ => rfl) ?_
    refine BOk.no rfl rfl 17 true rfl rfl rfl (by kernel_rfl) (fun _ => rfl) ?_
    refine BOk.no rfl rfl 17 true rfl rfl rfl (by kernel_rfl) (fun _ => rfl) ?_
    refine BOk.no rfl rfl 17 true rfl rfl rfl (by kernel_rfl) (fun _ => rfl) ?_
    refine BOk.yes rfl [17] [] rfl 13 false rfl rfl rfl (by kernel_rfl) (by kernel_rfl) (by kernel_rfl) (fun qK qa wr hB qO qF hK => ?_) ?_
    · obtain ⟨u38, e38, r17⟩ := qF.1
      have e38 : qa.tmps[38]? = some (.bool false) := (show u38 = .bool false from r17) ▸ e38
      clear r17
      clear qO qF
      go_simp
      exact hK _ _ (Below.refl _ _) (show (_ : Value) = _ from by first | rfl | simp)
    refine BOk.cons rfl [13, 25] [] rfl rfl (by kernel_rfl) (by kernel_rfl) (fun qK qa wr hB qO qF hK => ?_) ?_
    · obtain ⟨u34, e34, r13⟩ := qF.1
      have e34 : qa.tmps[34]? = some (.bool false) := (show u34 = .bool false from r13) ▸ e34
      clear r13
      obtain ⟨u46, e46, r25⟩ := qF.2.1
      have e46 : qa.tmps[46]? = some (.bool false) := (show u46 = .bool false from r25) ▸ e46
      clear r25
      clear qO qF
      go_simp
      exact hK _ _ (Below.refl _ _) (show (_ : Value) = _ from by first | rfl | simp)
    exact BOk.nil
  intro vals wr hl hB hR
  match vals, hl with
  | [x21, x22, x23, x24, x25, x26, x27, x28, x29, x30, x31, x32, x33, x34, x35, x36, x37, x38, x39, x40, x41, x42, x43, x44, x45, x46, x47], _ =>
  have r26 : x47 = .bool false := hR 26 _ rfl
  subst r26
  clear hR
  simp only [putAll, Act.put, List.setIfInBounds_toArray, List.set_cons_zero, List.set_cons_succ]
  have k5 := k5.old hB
  have k6 := k6.old hB
  have hbW := hbW.trans (hB.mono hbW.size)
  clear hB c50 c51 c60 c61 e2
  go_wp2_with fail
  have ⟨c50, c51, _, _⟩ := vcells k5
  have ⟨c60, c61, _, _⟩ := vcells k6
  refine wp_region_b (by kernel_rfl) (fun k => (backR6_2 a g5 g6).getD k .any) (by kernel_rfl) ?_ ?_
  · refine BOk.cons rfl [] [6] rfl rfl (by kernel_rfl) (by kernel_rfl) (fun qK qa wr hB qO qF hK => ?_) ?_
    · have e6 : qa.tmps[6]? = some (.pointer (some ⟨g6, 0, none⟩)) := qO.1.trans rfl
      clear qO qF
      go_simp
      exact hK _ _ (Below.refl _ _) rfl
    refine BOk.cons rfl [0] [] rfl rfl (by kernel_rfl) (by kernel_rfl) (fun qK qa wr hB qO qF hK => ?_) ?_
    · obtain ⟨u48, e48, r0⟩ := qF.1
      have e48 : qa.tmps[48]? = some (.pointer (some ⟨g6, 0, none⟩)) := (show u48 = .pointer (some ⟨g6, 0, none⟩) from r0) ▸ e48
      clear r0
      clear qO qF
      have hc60 := (bcell hB _ _ (World.block_lt_of_cell? _ _ c60)).trans c60
      go_simp
      exact hK _ _ (Below.refl _ _) rfl
    refine BOk.cons rfl [1] [] rfl rfl (by kernel_rfl) (by kernel_rfl) (fun qK qa wr hB qO qF hK => ?_) ?_
    · obtain ⟨u49, e49, r1⟩ := qF.1
      have e49 : qa.tmps[49]? = some (.int .i64 1) := (show u49 = .int .i64 1 from r1) ▸ e49
      clear r1
      clear qO qF
      go_simp
      exact hK _ _ (Below.refl _ _) (show (_ : Value) = _ from by first | rfl | simp)
    refine BOk.cons rfl [2] [] rfl rfl (by kernel_rfl) (by kernel_rfl) (fun qK qa wr hB qO qF hK => ?_) ?_
    · obtain ⟨u50, e50, r2⟩ := qF.1
      have e50 : qa.tmps[50]? = some (.bool false) := (show u50 = .bool false from r2) ▸ e50
      clear r2
      clear qO qF
      go_simp
      exact hK _ _ (Below.refl _ _) rfl
    refine BOk.yes rfl [] [1] rfl 3 false rfl rfl rfl (by kernel_rfl) (by kernel_rfl) (by kernel_rfl) (fun qK qa wr hB qO qF hK => ?_) ?_
    · have e1 : qa.tmps[1]? = some (.int .i64 0) := qO.1.trans rfl
      clear qO qF
      go_simp
      exact hK _ _ (Below.refl _ _) rfl
    refine BOk.yes rfl [4] [] rfl 3 false rfl rfl rfl (by kernel_rfl) (by kernel_rfl) (by kernel_rfl) (fun qK qa wr hB qO qF hK => ?_) ?_
    · obtain ⟨u52, e52, r4⟩ := qF.1
      have e52 : qa.tmps[52]? = some (.int .i64 0) := (show u52 = .int .i64 0 from r4) ▸ e52
      clear r4
      clear qO qF
      go_simp
      exact hK _ _ (Below.refl _ _) (show (_ : Value) = _ from by first | rfl | simp)
    refine BOk.cons rfl [3, 5] [] rfl rfl (by kernel_rfl) (by kernel_rfl) (fun qK qa wr hB qO qF hK => ?_) ?_
    · obtain ⟨u51, e51, r3⟩ := qF.1
      have e51 : qa.tmps[51]? = some (.bool false) := (show u51 = .bool false from r3) ▸ e51
      clear r3
      obtain ⟨u53, e53, r5⟩ := qF.2.1
      have e53 : qa.tmps[53]? = some (.bool true) := (show u53 = .bool true from r5) ▸ e53
      clear r5
      clear qO qF
      go_simp
      exact hK _ _ (Below.refl _ _) (show (_ : Value) = _ from by first | rfl | simp)
    refine BOk.cons rfl [6] [] rfl rfl (by kernel_rfl) (by kernel_rfl) (fun qK qa wr hB qO qF hK => ?_) ?_
    · obtain ⟨u54, e54, r6⟩ := qF.1
      have e54 : qa.tmps[54]? = some (.bool true) := (show u54 = .bool true from r6) ▸ e54
      clear r6
      clear qO qF
      go_simp
      exact hK _ _ (Below.refl _ _) rfl
    refine BOk.no rfl rfl 7 false rfl rfl rfl (by kernel_rfl) (fun _ => rfl) ?_
    refine BOk.no rfl rfl 7 false rfl rfl rfl (by kernel_rfl) (fun _ => rfl) ?_
    refine BOk.no rfl rfl 7 false rfl rfl rfl (by kernel_rfl) (fun _ => rfl) ?_
    refine BOk.no rfl rfl 7 false rfl rfl rfl (by kernel_rfl) (fun _ => rfl) ?_
    refine BOk.no rfl rfl 7 false rfl rfl rfl (by kernel_rfl) (fun _ => rfl) ?_
    refine BOk.no rfl rfl 7 false rfl rfl rfl (by kernel_rfl) (fun _ => rfl) ?_
    refine BOk.no rfl rfl 7 false rfl rfl rfl (by kernel_rfl) (fun _ => rfl) ?_
    refine BOk.no rfl rfl 7 false rfl rfl rfl (by kernel_rfl) (fun _ => rfl) ?_
    refine BOk.no rfl rfl 7 false rfl rfl rfl (by kernel_rfl) (fun _ => rfl) ?_
    refine BOk.gone rfl rfl 16 true rfl rfl rfl (by kernel_rfl) (fun _ => rfl) ?_
    refine BOk.gone rfl rfl 16 true rfl rfl rfl (by kernel_rfl) (fun _ => rfl) ?_
    refine BOk.gone rfl rfl 16 true rfl rfl rfl (by kernel_rfl) (fun _ => rfl) ?_
    refine BOk.gone rfl rfl 16 true rfl rfl rfl (by kernel_rfl) (fun _ => rfl) ?_
    refine BOk.gone rfl rfl 16 true rfl rfl rfl (by kernel_rfl) (fun _ => rfl) ?_
    refine BOk.gone rfl rfl 16 true rfl rfl rfl (by kernel_rfl) (fun _ => rfl) ?_
    refine BOk.gone rfl rfl 16 true rfl rfl rfl (by kernel_rfl) (fun _ => rfl) ?_
    refine BOk.no rfl rfl 7 false rfl rfl rfl (by kernel_rfl) (fun _ => rfl) ?_
    refine BOk.cons rfl [7] [] rfl rfl (by kernel_rfl) (by kernel_rfl) (fun qK qa wr hB qO qF hK => ?_) ?_
    · obtain ⟨u55, e55, r7⟩ := qF.1
      have e55 : qa.tmps[55]? = some (.bool true) := (show u55 = .bool true from r7) ▸ e55
      clear r7
      clear qO qF
      go_simp
      exact hK _ _ (Below.refl _ _) (show (_ : Value) = _ from by first | rfl | simp)
    refine BOk.cons rfl [25] [] rfl rfl (by kernel_rfl) (by kernel_rfl) (fun qK qa wr hB qO qF hK => ?_) ?_
    · obtain ⟨u73, e73, r25⟩ := qF.1
      have e73 : qa.tmps[73]? = some (.bool true) := (show u73 = .bool true from r25) ▸ e73
      clear r25
      clear qO qF
      go_simp
      exact hK _ _ (Below.refl _ _) rfl
    exact BOk.nil
  intro vals wr hl hB hR
  match vals, hl with
  | [y48, y49, y50, y51, y52, y53, y54, y55, y56, y57, y58, y59, y60, y61, y62, y63, y64, y65, y66, y67, y68, y69, y70, y71, y72, y73, y4], _ =>
  have r26 : y4 = .bool true := hR 26 _ rfl
  subst r26
  clear hR
  simp only [putAll, Act.put, List.setIfInBounds_toArray, List.set_cons_zero, List.set_cons_succ]
  go_wp2_with fail
  go_ret
  exact ⟨rfl, hbW.trans (hB.mono hbW.size)⟩

def backR4_3 (a b : Int) (g5 g6 : Nat) : List Spec := [.is (.pointer (some ⟨g5, 0, none⟩)),
  .is (.int .i64 1),
  .is (.bool true),
  .is (.bool true),
  .is (.agg #[.int .i64 1, .int .u64 (un (a + b))]),
  .is (.int .i64 b),
  .is (.agg #[.int .i64 1, .int .u64 (un b)]),
  .st (fun v w => ∃ g, v = .slice (some ⟨g, 0, none⟩) 2 2 ∧ Bk w g 24 #[.int .i64 1, .int .u64 (un (a + b)), .int .i64 1, .int .u64 (un b)]) (fun _ _ _ hb ⟨g, h1, h2⟩ => ⟨g, h1, h2.old hb⟩),
  .is (.agg #[.int .i64 1, .int .u64 (un a)]),
  .is (.int .i64 a),
  .is (.agg #[.int .i64 1, .int .u64 (un a)]),
  .is (.bool false),
  .is (.bool false),
  .is (.bool false),
  .is (.pointer (some ⟨g5, 0, none⟩)),
  .is (.int .i64 1),
  .is (.bool false),
  .is (.bool false),
  .is (undef),
  .is (undef),
  .is (undef),
  .is (undef),
  .is (undef),
  .is (undef),
  .is (undef),
  .is (.bool false),
  .is (.bool false)]
def backR6_3 (a b : Int) (g5 g6 : Nat) : List Spec := [.is (.pointer (some ⟨g6, 0, none⟩)),
  .is (.int .i64 1),
  .is (.bool false),
  .is (.bool false),
  .is (.int .i64 b),
  .is (.bool false),
  .is (.bool false),
  .is (.bool false),
  .is (.agg #[.int .i64 1, .int .u64 (un (a * b))]),
  .is (.int .i64 b),
  .is (.agg #[.int .i64 1, .int .u64 (un b)]),
  .st (fun v w => ∃ g, v = .slice (some ⟨g, 0, none⟩) 2 2 ∧ Bk w g 24 #[.int .i64 1, .int .u64 (un (a * b)), .int .i64 1, .int .u64 (un b)]) (fun _ _ _ hb ⟨g, h1, h2⟩ => ⟨g, h1, h2.old hb⟩),
  .is (.agg #[.int .i64 1, .int .u64 (un a)]),
  .is (.int .i64 a),
  .is (.agg #[.int .i64 1, .int .u64 (un a)]),
  .is (.bool true),
  .is (.bool true),
  .is (.agg #[.int .i64 1, .int .u64 (un (a * b))]),
  .is (.int .i64 b),
  .is (.agg #[.int .i64 1, .int .u64 (un b)]),
  .st (fun v w => ∃ g, v = .slice (some ⟨g, 0, none⟩) 2 2 ∧ Bk w g 24 #[.int .i64 1, .int .u64 (un (a * b)), .int .i64 1, .int .u64 (un b)]) (fun _ _ _ hb ⟨g, h1, h2⟩ => ⟨g, h1, h2.old hb⟩),
  .is (.agg #[.int .i64 1, .int .u64 (un 0)]),
  .is (.agg #[.int .i64 1, .int .u64 (un 0)]),
  .is (.bool true),
  .is (.bool true),
  .is (.bool true),
  .is (.bool true)]
set_option maxHeartbeats 4000000 in
theorem walk_3 (a b : Int) (ha : I64 a) (hb : I64 b) (hs : (fitI (a + b)).isSome = true) (hp : (fitI (a * b)).isSome = true) (h0 : b ≠ 0) (w : World) :
    Calls Try.prog 9 #[.int .i64 a, .int .i64 b] w fun e w' => e = .returned (.bool true) ∧ Below w.heap.size w w' := by
  obtain ⟨e1, e2⟩ := sum_yes ha hb hs
  have e3 := mul_yes ha hb hp
  obtain ⟨e4, e5⟩ := mul_back ha hb hp h0
  clear hs hp
  have hb0 : (b == 0) = false := beq_eq_false_iff_ne.2 h0
  clear h0
  have E1 := Lib.hid e1; have E2 := Lib.hid e2; have E3 := Lib.hid e3
  clear e1 e2 e3
  have E4 := Lib.hid e4; have E5 := Lib.hid e5
  clear e4 e5
  go_enter Try.func9, Try.ntmps9
  go_wp2_with fail
  refine (awake_any _).mono ?_
  rintro e w1 ⟨rfl, hb1⟩
  go_wp2_with fail
  refine (num_any a _).mono ?_
  rintro e w2 ⟨rfl, hb2⟩
  have hbel := hb1.trans (hb2.mono hb1.size)
  clear hb1 hb2
  go_wp2_with fail
  refine (num_any b _).mono ?_
  rintro e w3 ⟨rfl, hb3⟩
  have hbel := hbel.trans (hb3.mono hbel.size)
  clear hb3
  simp only [intV, V.v]
  go_wp2_with fail
  refine (do2 1 (intV a) (intV b) (intV_fits a) (intV_fits b) w3).mono ?_
  rintro e w4 ⟨rfl, hb4⟩
  have hbel : Below w.heap.size w w4 := hbel.trans (hb4.mono hbel.size)
  clear hb4
  rw [E1.out]
  go_wp2_with fail
  refine (num_any a _).mono ?_
  rintro e w5 ⟨rfl, hb5⟩
  have hbel := hbel.trans (hb5.mono hbel.size)
  clear hb5
  go_wp2_with fail
  refine (num_any b _).mono ?_
  rintro e w6 ⟨rfl, hb6⟩
  have hbel := hbel.trans (hb6.mono hbel.size)
  clear hb6
  simp only [intV, V.v]
  go_wp2_with fail
  refine (do2 3 (intV a) (intV b) (intV_fits a) (intV_fits b) w6).mono ?_
  rintro e w7 ⟨rfl, hb7⟩
  have hbel : Below w.heap.size w w7 := hbel.trans (hb7.mono hbel.size)
  clear hb7
  rw [E3.out]
  simp only [intV, none0]
  have hz := hbel.size
  go_wp2_with fail
  refine wp_abs (fun W => Below w.heap.size w W ∧ Bk W w7.heap.size 24 #[.int .i64 1, .int .u64 (un (a + b))] ∧ Bk W (w7.heap.size + 1) 24 #[.int .i64 1, .int .u64 (un (a * b))]) ?_ ?_
  · exact ⟨(hbel.alloc hz _).alloc (by simp; omega) _, (Bk.newAt rfl _ _).alloc _, Bk.newAt (by first | rfl | simp) _ _⟩
  rintro W ⟨hbW, k5, k6⟩
  generalize w7.heap.size + 1 = g6 at *
  generalize w7.heap.size = g5 at *
  clear hbel hz
  have ⟨c50, c51, _, _⟩ := vcells k5
  have ⟨c60, c61, _, _⟩ := vcells k6
  have e2 := E2.out
  refine wp_region_b (by kernel_rfl) (fun k => (backR4_3 a b g5 g6).getD k .any) (by kernel_rfl) ?_ ?_
  · refine BOk.cons rfl [] [5] rfl rfl (by kernel_rfl) (by kernel_rfl) (fun qK qa wr hB qO qF hK => ?_) ?_
    · have e5 : qa.tmps[5]? = some (.pointer (some ⟨g5, 0, none⟩)) := qO.1.trans rfl
      clear qO qF
      go_simp
      exact hK _ _ (Below.refl _ _) rfl
    refine BOk.cons rfl [0] [] rfl rfl (by kernel_rfl) (by kernel_rfl) (fun qK qa wr hB qO qF hK => ?_) ?_
    · obtain ⟨u21, e21, r0⟩ := qF.1
      have e21 : qa.tmps[21]? = some (.pointer (some ⟨g5, 0, none⟩)) := (show u21 = .pointer (some ⟨g5, 0, none⟩) from r0) ▸ e21
      clear r0
      clear qO qF
      have hc50 := (bcell hB _ _ (World.block_lt_of_cell? _ _ c50)).trans c50
      go_simp
      exact hK _ _ (Below.refl _ _) rfl
    refine BOk.cons rfl [1] [] rfl rfl (by kernel_rfl) (by kernel_rfl) (fun qK qa wr hB qO qF hK => ?_) ?_
    · obtain ⟨u22, e22, r1⟩ := qF.1
      have e22 : qa.tmps[22]? = some (.int .i64 1) := (show u22 = .int .i64 1 from r1) ▸ e22
      clear r1
      clear qO qF
      go_simp
      exact hK _ _ (Below.refl _ _) (show (_ : Value) = _ from by first | rfl | simp)
    refine BOk.cons rfl [2] [] rfl rfl (by kernel_rfl) (by kernel_rfl) (fun qK qa wr hB qO qF hK => ?_) ?_
    · obtain ⟨u23, e23, r2⟩ := qF.1
      have e23 : qa.tmps[23]? = some (.bool true) := (show u23 = .bool true from r2) ▸ e23
      clear r2
      clear qO qF
      go_simp
      exact hK _ _ (Below.refl _ _) rfl
    refine BOk.yes rfl [] [5] rfl 3 true rfl rfl rfl (by kernel_rfl) (by kernel_rfl) (by kernel_rfl) (fun qK qa wr hB qO qF hK => ?_) ?_
    · have e5 : qa.tmps[5]? = some (.pointer (some ⟨g5, 0, none⟩)) := qO.1.trans rfl
      clear qO qF
      have hc50 := (bcell hB _ _ (World.block_lt_of_cell? _ _ c50)).trans c50
      have hc51 := (bcell hB _ _ (World.block_lt_of_cell? _ _ c51)).trans c51
      go_simp
      exact hK _ _ (Below.refl _ _) rfl
    refine BOk.yes rfl [] [1] rfl 3 true rfl rfl rfl (by kernel_rfl) (by kernel_rfl) (by kernel_rfl) (fun qK qa wr hB qO qF hK => ?_) ?_
    · have e1 : qa.tmps[1]? = some (.int .i64 b) := qO.1.trans rfl
      clear qO qF
      go_simp
      exact hK _ _ (Below.refl _ _) rfl
    refine BOk.yes rfl [5] [] rfl 3 true rfl rfl rfl (by kernel_rfl) (by kernel_rfl) (by kernel_rfl) (fun qK qa wr hB qO qF hK => ?_) ?_
    · obtain ⟨u26, e26, r5⟩ := qF.1
      have e26 : qa.tmps[26]? = some (.int .i64 b) := (show u26 = .int .i64 b from r5) ▸ e26
      clear r5
      clear qO qF
      go_simp
      go_at_call 24
      refine (num_any b _).mono ?_
      rintro e w2 ⟨rfl, hb2⟩
      exact hK _ _ hb2 rfl
    refine BOk.yes rfl [4, 6] [] rfl 3 true rfl rfl rfl (by kernel_rfl) (by kernel_rfl) (by kernel_rfl) (fun qK qa wr hB qO qF hK => ?_) ?_
    · obtain ⟨u25, e25, r4⟩ := qF.1
      have e25 : qa.tmps[25]? = some (.agg #[.int .i64 1, .int .u64 (un (a + b))]) := (show u25 = .agg #[.int .i64 1, .int .u64 (un (a + b))] from r4) ▸ e25
      clear r4
      obtain ⟨u27, e27, r6⟩ := qF.2.1
      have e27 : qa.tmps[27]? = some (.agg #[.int .i64 1, .int .u64 (un b)]) := (show u27 = .agg #[.int .i64 1, .int .u64 (un b)] from r6) ▸ e27
      clear r6
      clear qO qF
      go_simp
      exact hK _ _ ((Below.refl _ _).alloc (Nat.le_refl _) _) ⟨_, rfl, Bk.new _ _ _⟩
    refine BOk.yes rfl [7] [] rfl 3 true rfl rfl rfl (by kernel_rfl) (by kernel_rfl) (by kernel_rfl) (fun qK qa wr hB qO qF hK => ?_) ?_
    · obtain ⟨u28, e28, r7⟩ := qF.1
      obtain ⟨g28, h28, k28⟩ := (show ∃ g, u28 = .slice (some ⟨g, 0, none⟩) 2 2 ∧ Bk wr g 24 #[.int .i64 1, .int .u64 (un (a + b)), .int .i64 1, .int .u64 (un b)] from r7)
      subst h28
      have e28 : qa.tmps[28]? = some (.slice (some ⟨g28, 0, none⟩) 2 2) := e28
      clear qO qF
      go_simp
      go_at_call 23
      refine (do_bk 2 [(intV (a + b)), (intV b)] _ _ k28 rfl (by intro q hq; simp only [List.mem_cons, List.not_mem_nil, or_false] at hq; rcases hq with rfl | rfl; exact intV_fits _; exact intV_fits b) (by simp)).mono ?_
      rintro e w2 ⟨rfl, hb2⟩
      rw [e2]
      exact hK _ _ hb2 rfl
    refine BOk.yes rfl [] [0] rfl 3 true rfl rfl rfl (by kernel_rfl) (by kernel_rfl) (by kernel_rfl) (fun qK qa wr hB qO qF hK => ?_) ?_
    · have e0 : qa.tmps[0]? = some (.int .i64 a) := qO.1.trans rfl
      clear qO qF
      go_simp
      exact hK _ _ (Below.refl _ _) rfl
    refine BOk.yes rfl [9] [] rfl 3 true rfl rfl rfl (by kernel_rfl) (by kernel_rfl) (by kernel_rfl) (fun qK qa wr hB qO qF hK => ?_) ?_
    · obtain ⟨u30, e30, r9⟩ := qF.1
      have e30 : qa.tmps[30]? = some (.int .i64 a) := (show u30 = .int .i64 a from r9) ▸ e30
      clear r9
      clear qO qF
      go_simp
      go_at_call 24
      refine (num_any a _).mono ?_
      rintro e w2 ⟨rfl, hb2⟩
      exact hK _ _ hb2 rfl
    refine BOk.yes rfl [8, 10] [] rfl 3 true rfl rfl rfl (by kernel_rfl) (by kernel_rfl) (by kernel_rfl) (fun qK qa wr hB qO qF hK => ?_) ?_
    · obtain ⟨u29, e29, r8⟩ := qF.1
      have e29 : qa.tmps[29]? = some (.agg #[.int .i64 1, .int .u64 (un a)]) := (show u29 = .agg #[.int .i64 1, .int .u64 (un a)] from r8) ▸ e29
      clear r8
      obtain ⟨u31, e31, r10⟩ := qF.2.1
      have e31 : qa.tmps[31]? = some (.agg #[.int .i64 1, .int .u64 (un a)]) := (show u31 = .agg #[.int .i64 1, .int .u64 (un a)] from r10) ▸ e31
      clear r10
      clear qO qF
      go_simp
      exact hK _ _ (Below.refl _ _) (show (_ : Value) = _ from by first | rfl | simp)
    refine BOk.cons rfl [3, 11] [] rfl rfl (by kernel_rfl) (by kernel_rfl) (fun qK qa wr hB qO qF hK => ?_) ?_
    · obtain ⟨u24, e24, r3⟩ := qF.1
      have e24 : qa.tmps[24]? = some (.bool true) := (show u24 = .bool true from r3) ▸ e24
      clear r3
      obtain ⟨u32, e32, r11⟩ := qF.2.1
      have e32 : qa.tmps[32]? = some (.bool false) := (show u32 = .bool false from r11) ▸ e32
      clear r11
      clear qO qF
      go_simp
      exact hK _ _ (Below.refl _ _) (show (_ : Value) = _ from by first | rfl | simp)
    refine BOk.cons rfl [12] [] rfl rfl (by kernel_rfl) (by kernel_rfl) (fun qK qa wr hB qO qF hK => ?_) ?_
    · obtain ⟨u33, e33, r12⟩ := qF.1
      have e33 : qa.tmps[33]? = some (.bool false) := (show u33 = .bool false from r12) ▸ e33
      clear r12
      clear qO qF
      go_simp
      exact hK _ _ (Below.refl _ _) rfl
    refine BOk.yes rfl [] [5] rfl 13 false rfl rfl rfl (by kernel_rfl) (by kernel_rfl) (by kernel_rfl) (fun qK qa wr hB qO qF hK => ?_) ?_
    · have e5 : qa.tmps[5]? = some (.pointer (some ⟨g5, 0, none⟩)) := qO.1.trans rfl
      clear qO qF
      go_simp
      exact hK _ _ (Below.refl _ _) rfl
    refine BOk.yes rfl [14] [] rfl 13 false rfl rfl rfl (by kernel_rfl) (by kernel_rfl) (by kernel_rfl) (fun qK qa wr hB qO qF hK => ?_) ?_
    · obtain ⟨u35, e35, r14⟩ := qF.1
      have e35 : qa.tmps[35]? = some (.pointer (some ⟨g5, 0, none⟩)) := (show u35 = .pointer (some ⟨g5, 0, none⟩) from r14) ▸ e35
      clear r14
      clear qO qF
      have hc50 := (bcell hB _ _ (World.block_lt_of_cell? _ _ c50)).trans c50
      go_simp
      exact hK _ _ (Below.refl _ _) rfl
    refine BOk.yes rfl [15] [] rfl 13 false rfl rfl rfl (by kernel_rfl) (by kernel_rfl) (by kernel_rfl) (fun qK qa wr hB qO qF hK => ?_) ?_
    · obtain ⟨u36, e36, r15⟩ := qF.1
      have e36 : qa.tmps[36]? = some (.int .i64 1) := (show u36 = .int .i64 1 from r15) ▸ e36
      clear r15
      clear qO qF
      go_simp
      exact hK _ _ (Below.refl _ _) (show (_ : Value) = _ from by first | rfl | simp)
    refine BOk.yes rfl [16] [] rfl 13 false rfl rfl rfl (by kernel_rfl) (by kernel_rfl) (by kernel_rfl) (fun qK qa wr hB qO qF hK => ?_) ?_
    · obtain ⟨u37, e37, r16⟩ := qF.1
      have e37 : qa.tmps[37]? = some (.bool false) := (show u37 = .bool false from r16) ▸ e37
      clear r16
      clear qO qF
      go_simp
      exact hK _ _ (Below.refl _ _) rfl
    refine BOk.no rfl rfl 17 true rfl rfl rfl (by kernel_rfl) (fun _ => rfl) ?_
    refine BOk.no rfl rfl 17 true rfl rfl rfl (by kernel_rfl) (fun _ => rfl) ?_
    refine BOk.no rfl rfl 17 true rfl rfl rfl (by kernel_rfl) (fun _ => rfl) ?_
    refine BOk.no rfl rfl 17 true rfl rfl rfl (by kernel_rfl) (fun _ => rfl) ?_
    refine BOk.no rfl rfl 17 true rfl rfl rfl (by kernel_rfl) (fun _ => rfl) ?_
    refine BOk.no rfl rfl 17 true rfl rfl rfl (by kernel_rfl) (fun _ => rfl) ?_
    refine BOk.no rfl rfl 17 true rfl rfl rfl (by kernel_rfl) (fun _ => rfl) ?_
    refine BOk.yes rfl [17] [] rfl 13 false rfl rfl rfl (by kernel_rfl) (by kernel_rfl) (by kernel_rfl) (fun qK qa wr hB qO qF hK => ?_) ?_
    · obtain ⟨u38, e38, r17⟩ := qF.1
      have e38 : qa.tmps[38]? = some (.bool false) := (show u38 = .bool false from r17) ▸ e38
      clear r17
      clear qO qF
      go_simp
      exact hK _ _ (Below.refl _ _) (show (_ : Value) = _ from by first | rfl | simp)
    refine BOk.cons rfl [13, 25] [] rfl rfl (by kernel_rfl) (by kernel_rfl) (fun qK qa wr hB qO qF hK => ?_) ?_
    · obtain ⟨u34, e34, r13⟩ := qF.1
      have e34 : qa.tmps[34]? = some (.bool false) := (show u34 = .bool false from r13) ▸ e34
      clear r13
      obtain ⟨u46, e46, r25⟩ := qF.2.1
      have e46 : qa.tmps[46]? = some (.bool false) := (show u46 = .bool false from r25) ▸ e46
      clear r25
      clear qO qF
      go_simp
      exact hK _ _ (Below.refl _ _) (show (_ : Value) = _ from by first | rfl | simp)
    exact BOk.nil
  intro vals wr hl hB hR
  match vals, hl with
  | [x21, x22, x23, x24, x25, x26, x27, x28, x29, x30, x31, x32, x33, x34, x35, x36, x37, x38, x39, x40, x41, x42, x43, x44, x45, x46, x47], _ =>
  have r26 : x47 = .bool false := hR 26 _ rfl
  subst r26
  clear hR
  simp only [putAll, Act.put, List.setIfInBounds_toArray, List.set_cons_zero, List.set_cons_succ]
  have k5 := k5.old hB
  have k6 := k6.old hB
  have hbW := hbW.trans (hB.mono hbW.size)
  clear hB c50 c51 c60 c61 e2
  go_wp2_with fail
  have ⟨c50, c51, _, _⟩ := vcells k5
  have ⟨c60, c61, _, _⟩ := vcells k6
  have e4 := E4.out
  have e5 := E5.out
  refine wp_region_b (by kernel_rfl) (fun k => (backR6_3 a b g5 g6).getD k .any) (by kernel_rfl) ?_ ?_
  · refine BOk.cons rfl [] [6] rfl rfl (by kernel_rfl) (by kernel_rfl) (fun qK qa wr hB qO qF hK => ?_) ?_
    · have e6 : qa.tmps[6]? = some (.pointer (some ⟨g6, 0, none⟩)) := qO.1.trans rfl
      clear qO qF
      go_simp
      exact hK _ _ (Below.refl _ _) rfl
    refine BOk.cons rfl [0] [] rfl rfl (by kernel_rfl) (by kernel_rfl) (fun qK qa wr hB qO qF hK => ?_) ?_
    · obtain ⟨u48, e48, r0⟩ := qF.1
      have e48 : qa.tmps[48]? = some (.pointer (some ⟨g6, 0, none⟩)) := (show u48 = .pointer (some ⟨g6, 0, none⟩) from r0) ▸ e48
      clear r0
      clear qO qF
      have hc60 := (bcell hB _ _ (World.block_lt_of_cell? _ _ c60)).trans c60
      go_simp
      exact hK _ _ (Below.refl _ _) rfl
    refine BOk.cons rfl [1] [] rfl rfl (by kernel_rfl) (by kernel_rfl) (fun qK qa wr hB qO qF hK => ?_) ?_
    · obtain ⟨u49, e49, r1⟩ := qF.1
      have e49 : qa.tmps[49]? = some (.int .i64 1) := (show u49 = .int .i64 1 from r1) ▸ e49
      clear r1
      clear qO qF
      go_simp
      exact hK _ _ (Below.refl _ _) (show (_ : Value) = _ from by first | rfl | simp)
    refine BOk.cons rfl [2] [] rfl rfl (by kernel_rfl) (by kernel_rfl) (fun qK qa wr hB qO qF hK => ?_) ?_
    · obtain ⟨u50, e50, r2⟩ := qF.1
      have e50 : qa.tmps[50]? = some (.bool false) := (show u50 = .bool false from r2) ▸ e50
      clear r2
      clear qO qF
      go_simp
      exact hK _ _ (Below.refl _ _) rfl
    refine BOk.yes rfl [] [1] rfl 3 false rfl rfl rfl (by kernel_rfl) (by kernel_rfl) (by kernel_rfl) (fun qK qa wr hB qO qF hK => ?_) ?_
    · have e1 : qa.tmps[1]? = some (.int .i64 b) := qO.1.trans rfl
      clear qO qF
      go_simp
      exact hK _ _ (Below.refl _ _) rfl
    refine BOk.yes rfl [4] [] rfl 3 false rfl rfl rfl (by kernel_rfl) (by kernel_rfl) (by kernel_rfl) (fun qK qa wr hB qO qF hK => ?_) ?_
    · obtain ⟨u52, e52, r4⟩ := qF.1
      have e52 : qa.tmps[52]? = some (.int .i64 b) := (show u52 = .int .i64 b from r4) ▸ e52
      clear r4
      clear qO qF
      go_simp
      exact hK _ _ (Below.refl _ _) (show (_ : Value) = _ from by first | rfl | simp)
    refine BOk.cons rfl [3, 5] [] rfl rfl (by kernel_rfl) (by kernel_rfl) (fun qK qa wr hB qO qF hK => ?_) ?_
    · obtain ⟨u51, e51, r3⟩ := qF.1
      have e51 : qa.tmps[51]? = some (.bool false) := (show u51 = .bool false from r3) ▸ e51
      clear r3
      obtain ⟨u53, e53, r5⟩ := qF.2.1
      have e53 : qa.tmps[53]? = some (.bool false) := (show u53 = .bool false from r5) ▸ e53
      clear r5
      clear qO qF
      go_simp
      exact hK _ _ (Below.refl _ _) (show (_ : Value) = _ from by first | rfl | simp)
    refine BOk.cons rfl [6] [] rfl rfl (by kernel_rfl) (by kernel_rfl) (fun qK qa wr hB qO qF hK => ?_) ?_
    · obtain ⟨u54, e54, r6⟩ := qF.1
      have e54 : qa.tmps[54]? = some (.bool false) := (show u54 = .bool false from r6) ▸ e54
      clear r6
      clear qO qF
      go_simp
      exact hK _ _ (Below.refl _ _) rfl
    refine BOk.yes rfl [] [6] rfl 7 false rfl rfl rfl (by kernel_rfl) (by kernel_rfl) (by kernel_rfl) (fun qK qa wr hB qO qF hK => ?_) ?_
    · have e6 : qa.tmps[6]? = some (.pointer (some ⟨g6, 0, none⟩)) := qO.1.trans rfl
      clear qO qF
      have hc60 := (bcell hB _ _ (World.block_lt_of_cell? _ _ c60)).trans c60
      have hc61 := (bcell hB _ _ (World.block_lt_of_cell? _ _ c61)).trans c61
      go_simp
      exact hK _ _ (Below.refl _ _) rfl
    refine BOk.yes rfl [] [1] rfl 7 false rfl rfl rfl (by kernel_rfl) (by kernel_rfl) (by kernel_rfl) (fun qK qa wr hB qO qF hK => ?_) ?_
    · have e1 : qa.tmps[1]? = some (.int .i64 b) := qO.1.trans rfl
      clear qO qF
      go_simp
      exact hK _ _ (Below.refl _ _) rfl
    refine BOk.yes rfl [9] [] rfl 7 false rfl rfl rfl (by kernel_rfl) (by kernel_rfl) (by kernel_rfl) (fun qK qa wr hB qO qF hK => ?_) ?_
    · obtain ⟨u57, e57, r9⟩ := qF.1
      have e57 : qa.tmps[57]? = some (.int .i64 b) := (show u57 = .int .i64 b from r9) ▸ e57
      clear r9
      clear qO qF
      go_simp
      go_at_call 24
      refine (num_any b _).mono ?_
      rintro e w2 ⟨rfl, hb2⟩
      exact hK _ _ hb2 rfl
    refine BOk.yes rfl [8, 10] [] rfl 7 false rfl rfl rfl (by kernel_rfl) (by kernel_rfl) (by kernel_rfl) (fun qK qa wr hB qO qF hK => ?_) ?_
    · obtain ⟨u56, e56, r8⟩ := qF.1
      have e56 : qa.tmps[56]? = some (.agg #[.int .i64 1, .int .u64 (un (a * b))]) := (show u56 = .agg #[.int .i64 1, .int .u64 (un (a * b))] from r8) ▸ e56
      clear r8
      obtain ⟨u58, e58, r10⟩ := qF.2.1
      have e58 : qa.tmps[58]? = some (.agg #[.int .i64 1, .int .u64 (un b)]) := (show u58 = .agg #[.int .i64 1, .int .u64 (un b)] from r10) ▸ e58
      clear r10
      clear qO qF
      go_simp
      exact hK _ _ ((Below.refl _ _).alloc (Nat.le_refl _) _) ⟨_, rfl, Bk.new _ _ _⟩
    refine BOk.yes rfl [11] [] rfl 7 false rfl rfl rfl (by kernel_rfl) (by kernel_rfl) (by kernel_rfl) (fun qK qa wr hB qO qF hK => ?_) ?_
    · obtain ⟨u59, e59, r11⟩ := qF.1
      obtain ⟨g59, h59, k59⟩ := (show ∃ g, u59 = .slice (some ⟨g, 0, none⟩) 2 2 ∧ Bk wr g 24 #[.int .i64 1, .int .u64 (un (a * b)), .int .i64 1, .int .u64 (un b)] from r11)
      subst h59
      have e59 : qa.tmps[59]? = some (.slice (some ⟨g59, 0, none⟩) 2 2) := e59
      clear qO qF
      go_simp
      go_at_call 23
      refine (do_bk 4 [(intV (a * b)), (intV b)] _ _ k59 rfl (by intro q hq; simp only [List.mem_cons, List.not_mem_nil, or_false] at hq; rcases hq with rfl | rfl; exact intV_fits _; exact intV_fits b) (by simp)).mono ?_
      rintro e w2 ⟨rfl, hb2⟩
      rw [e4]
      exact hK _ _ hb2 rfl
    refine BOk.yes rfl [] [0] rfl 7 false rfl rfl rfl (by kernel_rfl) (by kernel_rfl) (by kernel_rfl) (fun qK qa wr hB qO qF hK => ?_) ?_
    · have e0 : qa.tmps[0]? = some (.int .i64 a) := qO.1.trans rfl
      clear qO qF
      go_simp
      exact hK _ _ (Below.refl _ _) rfl
    refine BOk.yes rfl [13] [] rfl 7 false rfl rfl rfl (by kernel_rfl) (by kernel_rfl) (by kernel_rfl) (fun qK qa wr hB qO qF hK => ?_) ?_
    · obtain ⟨u61, e61, r13⟩ := qF.1
      have e61 : qa.tmps[61]? = some (.int .i64 a) := (show u61 = .int .i64 a from r13) ▸ e61
      clear r13
      clear qO qF
      go_simp
      go_at_call 24
      refine (num_any a _).mono ?_
      rintro e w2 ⟨rfl, hb2⟩
      exact hK _ _ hb2 rfl
    refine BOk.yes rfl [12, 14] [] rfl 7 false rfl rfl rfl (by kernel_rfl) (by kernel_rfl) (by kernel_rfl) (fun qK qa wr hB qO qF hK => ?_) ?_
    · obtain ⟨u60, e60, r12⟩ := qF.1
      have e60 : qa.tmps[60]? = some (.agg #[.int .i64 1, .int .u64 (un a)]) := (show u60 = .agg #[.int .i64 1, .int .u64 (un a)] from r12) ▸ e60
      clear r12
      obtain ⟨u62, e62, r14⟩ := qF.2.1
      have e62 : qa.tmps[62]? = some (.agg #[.int .i64 1, .int .u64 (un a)]) := (show u62 = .agg #[.int .i64 1, .int .u64 (un a)] from r14) ▸ e62
      clear r14
      clear qO qF
      go_simp
      exact hK _ _ (Below.refl _ _) (show (_ : Value) = _ from by first | rfl | simp)
    refine BOk.yes rfl [15] [] rfl 7 false rfl rfl rfl (by kernel_rfl) (by kernel_rfl) (by kernel_rfl) (fun qK qa wr hB qO qF hK => ?_) ?_
    · obtain ⟨u63, e63, r15⟩ := qF.1
      have e63 : qa.tmps[63]? = some (.bool true) := (show u63 = .bool true from r15) ▸ e63
      clear r15
      clear qO qF
      go_simp
      exact hK _ _ (Below.refl _ _) rfl
    refine BOk.yes rfl [] [6] rfl 16 true rfl rfl rfl (by kernel_rfl) (by kernel_rfl) (by kernel_rfl) (fun qK qa wr hB qO qF hK => ?_) ?_
    · have e6 : qa.tmps[6]? = some (.pointer (some ⟨g6, 0, none⟩)) := qO.1.trans rfl
      clear qO qF
      have hc60 := (bcell hB _ _ (World.block_lt_of_cell? _ _ c60)).trans c60
      have hc61 := (bcell hB _ _ (World.block_lt_of_cell? _ _ c61)).trans c61
      go_simp
      exact hK _ _ (Below.refl _ _) rfl
    refine BOk.yes rfl [] [1] rfl 16 true rfl rfl rfl (by kernel_rfl) (by kernel_rfl) (by kernel_rfl) (fun qK qa wr hB qO qF hK => ?_) ?_
    · have e1 : qa.tmps[1]? = some (.int .i64 b) := qO.1.trans rfl
      clear qO qF
      go_simp
      exact hK _ _ (Below.refl _ _) rfl
    refine BOk.yes rfl [18] [] rfl 16 true rfl rfl rfl (by kernel_rfl) (by kernel_rfl) (by kernel_rfl) (fun qK qa wr hB qO qF hK => ?_) ?_
    · obtain ⟨u66, e66, r18⟩ := qF.1
      have e66 : qa.tmps[66]? = some (.int .i64 b) := (show u66 = .int .i64 b from r18) ▸ e66
      clear r18
      clear qO qF
      go_simp
      go_at_call 24
      refine (num_any b _).mono ?_
      rintro e w2 ⟨rfl, hb2⟩
      exact hK _ _ hb2 rfl
    refine BOk.yes rfl [17, 19] [] rfl 16 true rfl rfl rfl (by kernel_rfl) (by kernel_rfl) (by kernel_rfl) (fun qK qa wr hB qO qF hK => ?_) ?_
    · obtain ⟨u65, e65, r17⟩ := qF.1
      have e65 : qa.tmps[65]? = some (.agg #[.int .i64 1, .int .u64 (un (a * b))]) := (show u65 = .agg #[.int .i64 1, .int .u64 (un (a * b))] from r17) ▸ e65
      clear r17
      obtain ⟨u67, e67, r19⟩ := qF.2.1
      have e67 : qa.tmps[67]? = some (.agg #[.int .i64 1, .int .u64 (un b)]) := (show u67 = .agg #[.int .i64 1, .int .u64 (un b)] from r19) ▸ e67
      clear r19
      clear qO qF
      go_simp
      exact hK _ _ ((Below.refl _ _).alloc (Nat.le_refl _) _) ⟨_, rfl, Bk.new _ _ _⟩
    refine BOk.yes rfl [20] [] rfl 16 true rfl rfl rfl (by kernel_rfl) (by kernel_rfl) (by kernel_rfl) (fun qK qa wr hB qO qF hK => ?_) ?_
    · obtain ⟨u68, e68, r20⟩ := qF.1
      obtain ⟨g68, h68, k68⟩ := (show ∃ g, u68 = .slice (some ⟨g, 0, none⟩) 2 2 ∧ Bk wr g 24 #[.int .i64 1, .int .u64 (un (a * b)), .int .i64 1, .int .u64 (un b)] from r20)
      subst h68
      have e68 : qa.tmps[68]? = some (.slice (some ⟨g68, 0, none⟩) 2 2) := e68
      clear qO qF
      go_simp
      go_at_call 23
      refine (do_bk 5 [(intV (a * b)), (intV b)] _ _ k68 rfl (by intro q hq; simp only [List.mem_cons, List.not_mem_nil, or_false] at hq; rcases hq with rfl | rfl; exact intV_fits _; exact intV_fits b) (by simp)).mono ?_
      rintro e w2 ⟨rfl, hb2⟩
      rw [e5]
      exact hK _ _ hb2 rfl
    refine BOk.yes rfl [] [] rfl 16 true rfl rfl rfl (by kernel_rfl) (by kernel_rfl) (by kernel_rfl) (fun qK qa wr hB qO qF hK => ?_) ?_
    · clear qO qF
      go_simp
      go_at_call 24
      refine (num_any 0 _).mono ?_
      rintro e w2 ⟨rfl, hb2⟩
      exact hK _ _ hb2 rfl
    refine BOk.yes rfl [21, 22] [] rfl 16 true rfl rfl rfl (by kernel_rfl) (by kernel_rfl) (by kernel_rfl) (fun qK qa wr hB qO qF hK => ?_) ?_
    · obtain ⟨u69, e69, r21⟩ := qF.1
      have e69 : qa.tmps[69]? = some (.agg #[.int .i64 1, .int .u64 (un 0)]) := (show u69 = .agg #[.int .i64 1, .int .u64 (un 0)] from r21) ▸ e69
      clear r21
      obtain ⟨u70, e70, r22⟩ := qF.2.1
      have e70 : qa.tmps[70]? = some (.agg #[.int .i64 1, .int .u64 (un 0)]) := (show u70 = .agg #[.int .i64 1, .int .u64 (un 0)] from r22) ▸ e70
      clear r22
      clear qO qF
      go_simp
      exact hK _ _ (Below.refl _ _) (show (_ : Value) = _ from by first | rfl | simp)
    refine BOk.yes rfl [16, 23] [] rfl 7 false rfl rfl rfl (by kernel_rfl) (by kernel_rfl) (by kernel_rfl) (fun qK qa wr hB qO qF hK => ?_) ?_
    · obtain ⟨u64, e64, r16⟩ := qF.1
      have e64 : qa.tmps[64]? = some (.bool true) := (show u64 = .bool true from r16) ▸ e64
      clear r16
      obtain ⟨u71, e71, r23⟩ := qF.2.1
      have e71 : qa.tmps[71]? = some (.bool true) := (show u71 = .bool true from r23) ▸ e71
      clear r23
      clear qO qF
      go_simp
      exact hK _ _ (Below.refl _ _) (show (_ : Value) = _ from by first | rfl | simp)
    refine BOk.cons rfl [7, 24] [] rfl rfl (by kernel_rfl) (by kernel_rfl) (fun qK qa wr hB qO qF hK => ?_) ?_
    · obtain ⟨u55, e55, r7⟩ := qF.1
      have e55 : qa.tmps[55]? = some (.bool false) := (show u55 = .bool false from r7) ▸ e55
      clear r7
      obtain ⟨u72, e72, r24⟩ := qF.2.1
      have e72 : qa.tmps[72]? = some (.bool true) := (show u72 = .bool true from r24) ▸ e72
      clear r24
      clear qO qF
      go_simp
      exact hK _ _ (Below.refl _ _) (show (_ : Value) = _ from by first | rfl | simp)
    refine BOk.cons rfl [25] [] rfl rfl (by kernel_rfl) (by kernel_rfl) (fun qK qa wr hB qO qF hK => ?_) ?_
    · obtain ⟨u73, e73, r25⟩ := qF.1
      have e73 : qa.tmps[73]? = some (.bool true) := (show u73 = .bool true from r25) ▸ e73
      clear r25
      clear qO qF
      go_simp
      exact hK _ _ (Below.refl _ _) rfl
    exact BOk.nil
  intro vals wr hl hB hR
  match vals, hl with
  | [y48, y49, y50, y51, y52, y53, y54, y55, y56, y57, y58, y59, y60, y61, y62, y63, y64, y65, y66, y67, y68, y69, y70, y71, y72, y73, y4], _ =>
  have r26 : y4 = .bool true := hR 26 _ rfl
  subst r26
  clear hR
  simp only [putAll, Act.put, List.setIfInBounds_toArray, List.set_cons_zero, List.set_cons_succ]
  go_wp2_with fail
  go_ret
  exact ⟨rfl, hbW.trans (hB.mono hbW.size)⟩

def backR4_4 (a b : Int) (g5 g6 : Nat) : List Spec := [.is (.pointer (some ⟨g5, 0, none⟩)),
  .is (.int .i64 0),
  .is (.bool false),
  .is (.bool false),
  .is (undef),
  .is (undef),
  .is (undef),
  .is (undef),
  .is (undef),
  .is (undef),
  .is (undef),
  .is (undef),
  .is (.bool false),
  .is (.bool false),
  .is (.pointer (some ⟨g5, 0, none⟩)),
  .is (.int .i64 0),
  .is (.bool true),
  .is (.bool true),
  .is (.agg #[.int .i64 0, .int .u64 0]),
  .is (.int .i64 b),
  .is (.agg #[.int .i64 1, .int .u64 (un b)]),
  .st (fun v w => ∃ g, v = .slice (some ⟨g, 0, none⟩) 2 2 ∧ Bk w g 24 #[.int .i64 0, .int .u64 0, .int .i64 1, .int .u64 (un b)]) (fun _ _ _ hb ⟨g, h1, h2⟩ => ⟨g, h1, h2.old hb⟩),
  .is (.agg #[.int .i64 0, .int .u64 0]),
  .is (.int .i64 0),
  .is (.bool false),
  .is (.bool false),
  .is (.bool false)]
def backR6_4 (a b : Int) (g5 g6 : Nat) : List Spec := [.is (.pointer (some ⟨g6, 0, none⟩)),
  .is (.int .i64 0),
  .is (.bool true),
  .is (.bool true),
  .is (undef),
  .is (undef),
  .is (.bool true),
  .is (.bool true),
  .is (undef),
  .is (undef),
  .is (undef),
  .is (undef),
  .is (undef),
  .is (undef),
  .is (undef),
  .is (undef),
  .is (undef),
  .is (undef),
  .is (undef),
  .is (undef),
  .is (undef),
  .is (undef),
  .is (undef),
  .is (undef),
  .is (undef),
  .is (.bool true),
  .is (.bool true)]
set_option maxHeartbeats 4000000 in
theorem walk_4 (a b : Int) (ha : I64 a) (hb : I64 b) (hs : (fitI (a + b)).isSome = false) (hp : (fitI (a * b)).isSome = false) (w : World) :
    Calls Try.prog 9 #[.int .i64 a, .int .i64 b] w fun e w' => e = .returned (.bool true) ∧ Below w.heap.size w w' := by
  have e1 := sum_no ha hb hs
  have e2 := strict_left 2 (by omega) (intV b)
  have e3 := mul_no ha hb hp
  clear hs hp
  have E1 := Lib.hid e1; have E2 := Lib.hid e2; have E3 := Lib.hid e3
  clear e1 e2 e3
  go_enter Try.func9, Try.ntmps9
  go_wp2_with fail
  refine (awake_any _).mono ?_
  rintro e w1 ⟨rfl, hb1⟩
  go_wp2_with fail
  refine (num_any a _).mono ?_
  rintro e w2 ⟨rfl, hb2⟩
  have hbel := hb1.trans (hb2.mono hb1.size)
  clear hb1 hb2
  go_wp2_with fail
  refine (num_any b _).mono ?_
  rintro e w3 ⟨rfl, hb3⟩
  have hbel := hbel.trans (hb3.mono hbel.size)
  clear hb3
  simp only [intV, V.v]
  go_wp2_with fail
  refine (do2 1 (intV a) (intV b) (intV_fits a) (intV_fits b) w3).mono ?_
  rintro e w4 ⟨rfl, hb4⟩
  have hbel : Below w.heap.size w w4 := hbel.trans (hb4.mono hbel.size)
  clear hb4
  rw [E1.out]
  go_wp2_with fail
  refine (num_any a _).mono ?_
  rintro e w5 ⟨rfl, hb5⟩
  have hbel := hbel.trans (hb5.mono hbel.size)
  clear hb5
  go_wp2_with fail
  refine (num_any b _).mono ?_
  rintro e w6 ⟨rfl, hb6⟩
  have hbel := hbel.trans (hb6.mono hbel.size)
  clear hb6
  simp only [intV, V.v]
  go_wp2_with fail
  refine (do2 3 (intV a) (intV b) (intV_fits a) (intV_fits b) w6).mono ?_
  rintro e w7 ⟨rfl, hb7⟩
  have hbel : Below w.heap.size w w7 := hbel.trans (hb7.mono hbel.size)
  clear hb7
  rw [E3.out]
  simp only [intV, none0]
  have hz := hbel.size
  go_wp2_with fail
  refine wp_abs (fun W => Below w.heap.size w W ∧ Bk W w7.heap.size 24 #[.int .i64 0, .int .u64 0] ∧ Bk W (w7.heap.size + 1) 24 #[.int .i64 0, .int .u64 0]) ?_ ?_
  · exact ⟨(hbel.alloc hz _).alloc (by simp; omega) _, (Bk.newAt rfl _ _).alloc _, Bk.newAt (by first | rfl | simp) _ _⟩
  rintro W ⟨hbW, k5, k6⟩
  generalize w7.heap.size + 1 = g6 at *
  generalize w7.heap.size = g5 at *
  clear hbel hz
  have ⟨c50, c51, _, _⟩ := vcells k5
  have ⟨c60, c61, _, _⟩ := vcells k6
  have e2 := E2.out
  refine wp_region_b (by kernel_rfl) (fun k => (backR4_4 a b g5 g6).getD k .any) (by kernel_rfl) ?_ ?_
  · refine BOk.cons rfl [] [5] rfl rfl (by kernel_rfl) (by kernel_rfl) (fun qK qa wr hB qO qF hK => ?_) ?_
    · have e5 : qa.tmps[5]? = some (.pointer (some ⟨g5, 0, none⟩)) := qO.1.trans rfl
      clear qO qF
      go_simp
      exact hK _ _ (Below.refl _ _) rfl
    refine BOk.cons rfl [0] [] rfl rfl (by kernel_rfl) (by kernel_rfl) (fun qK qa wr hB qO qF hK => ?_) ?_
    · obtain ⟨u21, e21, r0⟩ := qF.1
      have e21 : qa.tmps[21]? = some (.pointer (some ⟨g5, 0, none⟩)) := (show u21 = .pointer (some ⟨g5, 0, none⟩) from r0) ▸ e21
      clear r0
      clear qO qF
      have hc50 := (bcell hB _ _ (World.block_lt_of_cell? _ _ c50)).trans c50
      go_simp
      exact hK _ _ (Below.refl _ _) rfl
    refine BOk.cons rfl [1] [] rfl rfl (by kernel_rfl) (by kernel_rfl) (fun qK qa wr hB qO qF hK => ?_) ?_
    · obtain ⟨u22, e22, r1⟩ := qF.1
      have e22 : qa.tmps[22]? = some (.int .i64 0) := (show u22 = .int .i64 0 from r1) ▸ e22
      clear r1
      clear qO qF
      go_simp
      exact hK _ _ (Below.refl _ _) (show (_ : Value) = _ from by first | rfl | simp)
    refine BOk.cons rfl [2] [] rfl rfl (by kernel_rfl) (by kernel_rfl) (fun qK qa wr hB qO qF hK => ?_) ?_
    · obtain ⟨u23, e23, r2⟩ := qF.1
      have e23 : qa.tmps[23]? = some (.bool false) := (show u23 = .bool false from r2) ▸ e23
      clear r2
      clear qO qF
      go_simp
      exact hK _ _ (Below.refl _ _) rfl
    refine BOk.no rfl rfl 3 true rfl rfl rfl (by kernel_rfl) (fun _ => rfl) ?_
    refine BOk.no rfl rfl 3 true rfl rfl rfl (by kernel_rfl) (fun _ => rfl) ?_
    refine BOk.no rfl rfl 3 true rfl rfl rfl (by kernel_rfl) (fun _ => rfl) ?_
    refine BOk.no rfl rfl 3 true rfl rfl rfl (by kernel_rfl) (fun _ => rfl) ?_
    refine BOk.no rfl rfl 3 true rfl rfl rfl (by kernel_rfl) (fun _ => rfl) ?_
    refine BOk.no rfl rfl 3 true rfl rfl rfl (by kernel_rfl) (fun _ => rfl) ?_
    refine BOk.no rfl rfl 3 true rfl rfl rfl (by kernel_rfl) (fun _ => rfl) ?_
    refine BOk.no rfl rfl 3 true rfl rfl rfl (by kernel_rfl) (fun _ => rfl) ?_
    refine BOk.cons rfl [3] [] rfl rfl (by kernel_rfl) (by kernel_rfl) (fun qK qa wr hB qO qF hK => ?_) ?_
    · obtain ⟨u24, e24, r3⟩ := qF.1
      have e24 : qa.tmps[24]? = some (.bool false) := (show u24 = .bool false from r3) ▸ e24
      clear r3
      clear qO qF
      go_simp
      exact hK _ _ (Below.refl _ _) (show (_ : Value) = _ from by first | rfl | simp)
    refine BOk.cons rfl [12] [] rfl rfl (by kernel_rfl) (by kernel_rfl) (fun qK qa wr hB qO qF hK => ?_) ?_
    · obtain ⟨u33, e33, r12⟩ := qF.1
      have e33 : qa.tmps[33]? = some (.bool false) := (show u33 = .bool false from r12) ▸ e33
      clear r12
      clear qO qF
      go_simp
      exact hK _ _ (Below.refl _ _) rfl
    refine BOk.yes rfl [] [5] rfl 13 false rfl rfl rfl (by kernel_rfl) (by kernel_rfl) (by kernel_rfl) (fun qK qa wr hB qO qF hK => ?_) ?_
    · have e5 : qa.tmps[5]? = some (.pointer (some ⟨g5, 0, none⟩)) := qO.1.trans rfl
      clear qO qF
      go_simp
      exact hK _ _ (Below.refl _ _) rfl
    refine BOk.yes rfl [14] [] rfl 13 false rfl rfl rfl (by kernel_rfl) (by kernel_rfl) (by kernel_rfl) (fun qK qa wr hB qO qF hK => ?_) ?_
    · obtain ⟨u35, e35, r14⟩ := qF.1
      have e35 : qa.tmps[35]? = some (.pointer (some ⟨g5, 0, none⟩)) := (show u35 = .pointer (some ⟨g5, 0, none⟩) from r14) ▸ e35
      clear r14
      clear qO qF
      have hc50 := (bcell hB _ _ (World.block_lt_of_cell? _ _ c50)).trans c50
      go_simp
      exact hK _ _ (Below.refl _ _) rfl
    refine BOk.yes rfl [15] [] rfl 13 false rfl rfl rfl (by kernel_rfl) (by kernel_rfl) (by kernel_rfl) (fun qK qa wr hB qO qF hK => ?_) ?_
    · obtain ⟨u36, e36, r15⟩ := qF.1
      have e36 : qa.tmps[36]? = some (.int .i64 0) := (show u36 = .int .i64 0 from r15) ▸ e36
      clear r15
      clear qO qF
      go_simp
      exact hK _ _ (Below.refl _ _) (show (_ : Value) = _ from by first | rfl | simp)
    refine BOk.yes rfl [16] [] rfl 13 false rfl rfl rfl (by kernel_rfl) (by kernel_rfl) (by kernel_rfl) (fun qK qa wr hB qO qF hK => ?_) ?_
    · obtain ⟨u37, e37, r16⟩ := qF.1
      have e37 : qa.tmps[37]? = some (.bool true) := (show u37 = .bool true from r16) ▸ e37
      clear r16
      clear qO qF
      go_simp
      exact hK _ _ (Below.refl _ _) rfl
    refine BOk.yes rfl [] [] rfl 17 true rfl rfl rfl (by kernel_rfl) (by kernel_rfl) (by kernel_rfl) (fun qK qa wr hB qO qF hK => ?_) ?_
    · clear qO qF
      go_simp
      exact hK _ _ (Below.refl _ _) rfl
    refine BOk.yes rfl [] [1] rfl 17 true rfl rfl rfl (by kernel_rfl) (by kernel_rfl) (by kernel_rfl) (fun qK qa wr hB qO qF hK => ?_) ?_
    · have e1 : qa.tmps[1]? = some (.int .i64 b) := qO.1.trans rfl
      clear qO qF
      go_simp
      exact hK _ _ (Below.refl _ _) rfl
    refine BOk.yes rfl [19] [] rfl 17 true rfl rfl rfl (by kernel_rfl) (by kernel_rfl) (by kernel_rfl) (fun qK qa wr hB qO qF hK => ?_) ?_
    · obtain ⟨u40, e40, r19⟩ := qF.1
      have e40 : qa.tmps[40]? = some (.int .i64 b) := (show u40 = .int .i64 b from r19) ▸ e40
      clear r19
      clear qO qF
      go_simp
      go_at_call 24
      refine (num_any b _).mono ?_
      rintro e w2 ⟨rfl, hb2⟩
      exact hK _ _ hb2 rfl
    refine BOk.yes rfl [18, 20] [] rfl 17 true rfl rfl rfl (by kernel_rfl) (by kernel_rfl) (by kernel_rfl) (fun qK qa wr hB qO qF hK => ?_) ?_
    · obtain ⟨u39, e39, r18⟩ := qF.1
      have e39 : qa.tmps[39]? = some (.agg #[.int .i64 0, .int .u64 0]) := (show u39 = .agg #[.int .i64 0, .int .u64 0] from r18) ▸ e39
      clear r18
      obtain ⟨u41, e41, r20⟩ := qF.2.1
      have e41 : qa.tmps[41]? = some (.agg #[.int .i64 1, .int .u64 (un b)]) := (show u41 = .agg #[.int .i64 1, .int .u64 (un b)] from r20) ▸ e41
      clear r20
      clear qO qF
      go_simp
      exact hK _ _ ((Below.refl _ _).alloc (Nat.le_refl _) _) ⟨_, rfl, Bk.new _ _ _⟩
    refine BOk.yes rfl [21] [] rfl 17 true rfl rfl rfl (by kernel_rfl) (by kernel_rfl) (by kernel_rfl) (fun qK qa wr hB qO qF hK => ?_) ?_
    · obtain ⟨u42, e42, r21⟩ := qF.1
      obtain ⟨g42, h42, k42⟩ := (show ∃ g, u42 = .slice (some ⟨g, 0, none⟩) 2 2 ∧ Bk wr g 24 #[.int .i64 0, .int .u64 0, .int .i64 1, .int .u64 (un b)] from r21)
      subst h42
      have e42 : qa.tmps[42]? = some (.slice (some ⟨g42, 0, none⟩) 2 2) := e42
      clear qO qF
      go_simp
      go_at_call 23
      refine (do_bk 2 [none0, (intV b)] _ _ k42 rfl (by intro q hq; simp only [List.mem_cons, List.not_mem_nil, or_false] at hq; rcases hq with rfl | rfl; exact fits0; exact intV_fits b) (by simp)).mono ?_
      rintro e w2 ⟨rfl, hb2⟩
      rw [e2]
      exact hK _ _ hb2 rfl
    refine BOk.yes rfl [22] [] rfl 17 true rfl rfl rfl (by kernel_rfl) (by kernel_rfl) (by kernel_rfl) (fun qK qa wr hB qO qF hK => ?_) ?_
    · obtain ⟨u43, e43, r22⟩ := qF.1
      have e43 : qa.tmps[43]? = some (.agg #[.int .i64 0, .int .u64 0]) := (show u43 = .agg #[.int .i64 0, .int .u64 0] from r22) ▸ e43
      clear r22
      clear qO qF
      go_simp
      exact hK _ _ (Below.refl _ _) rfl
    refine BOk.yes rfl [23] [] rfl 17 true rfl rfl rfl (by kernel_rfl) (by kernel_rfl) (by kernel_rfl) (fun qK qa wr hB qO qF hK => ?_) ?_
    · obtain ⟨u44, e44, r23⟩ := qF.1
      have e44 : qa.tmps[44]? = some (.int .i64 0) := (show u44 = .int .i64 0 from r23) ▸ e44
      clear r23
      clear qO qF
      go_simp
      exact hK _ _ (Below.refl _ _) (show (_ : Value) = _ from by first | rfl | simp)
    refine BOk.yes rfl [17, 24] [] rfl 13 false rfl rfl rfl (by kernel_rfl) (by kernel_rfl) (by kernel_rfl) (fun qK qa wr hB qO qF hK => ?_) ?_
    · obtain ⟨u38, e38, r17⟩ := qF.1
      have e38 : qa.tmps[38]? = some (.bool true) := (show u38 = .bool true from r17) ▸ e38
      clear r17
      obtain ⟨u45, e45, r24⟩ := qF.2.1
      have e45 : qa.tmps[45]? = some (.bool false) := (show u45 = .bool false from r24) ▸ e45
      clear r24
      clear qO qF
      go_simp
      exact hK _ _ (Below.refl _ _) (show (_ : Value) = _ from by first | rfl | simp)
    refine BOk.cons rfl [13, 25] [] rfl rfl (by kernel_rfl) (by kernel_rfl) (fun qK qa wr hB qO qF hK => ?_) ?_
    · obtain ⟨u34, e34, r13⟩ := qF.1
      have e34 : qa.tmps[34]? = some (.bool false) := (show u34 = .bool false from r13) ▸ e34
      clear r13
      obtain ⟨u46, e46, r25⟩ := qF.2.1
      have e46 : qa.tmps[46]? = some (.bool false) := (show u46 = .bool false from r25) ▸ e46
      clear r25
      clear qO qF
      go_simp
      exact hK _ _ (Below.refl _ _) (show (_ : Value) = _ from by first | rfl | simp)
    exact BOk.nil
  intro vals wr hl hB hR
  match vals, hl with
  | [x21, x22, x23, x24, x25, x26, x27, x28, x29, x30, x31, x32, x33, x34, x35, x36, x37, x38, x39, x40, x41, x42, x43, x44, x45, x46, x47], _ =>
  have r26 : x47 = .bool false := hR 26 _ rfl
  subst r26
  clear hR
  simp only [putAll, Act.put, List.setIfInBounds_toArray, List.set_cons_zero, List.set_cons_succ]
  have k5 := k5.old hB
  have k6 := k6.old hB
  have hbW := hbW.trans (hB.mono hbW.size)
  clear hB c50 c51 c60 c61 e2
  go_wp2_with fail
  have ⟨c50, c51, _, _⟩ := vcells k5
  have ⟨c60, c61, _, _⟩ := vcells k6
  refine wp_region_b (by kernel_rfl) (fun k => (backR6_4 a b g5 g6).getD k .any) (by kernel_rfl) ?_ ?_
  · refine BOk.cons rfl [] [6] rfl rfl (by kernel_rfl) (by kernel_rfl) (fun qK qa wr hB qO qF hK => ?_) ?_
    · have e6 : qa.tmps[6]? = some (.pointer (some ⟨g6, 0, none⟩)) := qO.1.trans rfl
      clear qO qF
      go_simp
      exact hK _ _ (Below.refl _ _) rfl
    refine BOk.cons rfl [0] [] rfl rfl (by kernel_rfl) (by kernel_rfl) (fun qK qa wr hB qO qF hK => ?_) ?_
    · obtain ⟨u48, e48, r0⟩ := qF.1
      have e48 : qa.tmps[48]? = some (.pointer (some ⟨g6, 0, none⟩)) := (show u48 = .pointer (some ⟨g6, 0, none⟩) from r0) ▸ e48
      clear r0
      clear qO qF
      have hc60 := (bcell hB _ _ (World.block_lt_of_cell? _ _ c60)).trans c60
      go_simp
      exact hK _ _ (Below.refl _ _) rfl
    refine BOk.cons rfl [1] [] rfl rfl (by kernel_rfl) (by kernel_rfl) (fun qK qa wr hB qO qF hK => ?_) ?_
    · obtain ⟨u49, e49, r1⟩ := qF.1
      have e49 : qa.tmps[49]? = some (.int .i64 0) := (show u49 = .int .i64 0 from r1) ▸ e49
      clear r1
      clear qO qF
      go_simp
      exact hK _ _ (Below.refl _ _) (show (_ : Value) = _ from by first | rfl | simp)
    refine BOk.cons rfl [2] [] rfl rfl (by kernel_rfl) (by kernel_rfl) (fun qK qa wr hB qO qF hK => ?_) ?_
    · obtain ⟨u50, e50, r2⟩ := qF.1
      have e50 : qa.tmps[50]? = some (.bool true) := (show u50 = .bool true from r2) ▸ e50
      clear r2
      clear qO qF
      go_simp
      exact hK _ _ (Below.refl _ _) rfl
    refine BOk.no rfl rfl 3 false rfl rfl rfl (by kernel_rfl) (fun _ => rfl) ?_
    refine BOk.no rfl rfl 3 false rfl rfl rfl (by kernel_rfl) (fun _ => rfl) ?_
    refine BOk.cons rfl [3] [] rfl rfl (by kernel_rfl) (by kernel_rfl) (fun qK qa wr hB qO qF hK => ?_) ?_
    · obtain ⟨u51, e51, r3⟩ := qF.1
      have e51 : qa.tmps[51]? = some (.bool true) := (show u51 = .bool true from r3) ▸ e51
      clear r3
      clear qO qF
      go_simp
      exact hK _ _ (Below.refl _ _) (show (_ : Value) = _ from by first | rfl | simp)
    refine BOk.cons rfl [6] [] rfl rfl (by kernel_rfl) (by kernel_rfl) (fun qK qa wr hB qO qF hK => ?_) ?_
    · obtain ⟨u54, e54, r6⟩ := qF.1
      have e54 : qa.tmps[54]? = some (.bool true) := (show u54 = .bool true from r6) ▸ e54
      clear r6
      clear qO qF
      go_simp
      exact hK _ _ (Below.refl _ _) rfl
    refine BOk.no rfl rfl 7 false rfl rfl rfl (by kernel_rfl) (fun _ => rfl) ?_
    refine BOk.no rfl rfl 7 false rfl rfl rfl (by kernel_rfl) (fun _ => rfl) ?_
    refine BOk.no rfl rfl 7 false rfl rfl rfl (by kernel_rfl) (fun _ => rfl) ?_
    refine BOk.no rfl rfl 7 false rfl rfl rfl (by kernel_rfl) (fun _ => rfl) ?_
    refine BOk.no rfl rfl 7 false rfl rfl rfl (by kernel_rfl) (fun _ => rfl) ?_
    refine BOk.no rfl rfl 7 false rfl rfl rfl (by kernel_rfl) (fun _ => rfl) ?_
    refine BOk.no rfl rfl 7 false rfl rfl rfl (by kernel_rfl) (fun _ => rfl) ?_
    refine BOk.no rfl rfl 7 false rfl rfl rfl (by kernel_rfl) (fun _ => rfl) ?_
    refine BOk.no rfl rfl 7 false rfl rfl rfl (by kernel_rfl) (fun _ => rfl) ?_
    refine BOk.gone rfl rfl 16 true rfl rfl rfl (by kernel_rfl) (fun _ => rfl) ?_
    refine BOk.gone rfl rfl 16 true rfl rfl rfl (by kernel_rfl) (fun _ => rfl) ?_
    refine BOk.gone rfl rfl 16 true rfl rfl rfl (by kernel_rfl) (fun _ => rfl) ?_
    refine BOk.gone rfl rfl 16 true rfl rfl rfl (by kernel_rfl) (fun _ => rfl) ?_
    refine BOk.gone rfl rfl 16 true rfl rfl rfl (by kernel_rfl) (fun _ => rfl) ?_
    refine BOk.gone rfl rfl 16 true rfl rfl rfl (by kernel_rfl) (fun _ => rfl) ?_
    refine BOk.gone rfl rfl 16 true rfl rfl rfl (by kernel_rfl) (fun _ => rfl) ?_
    refine BOk.no rfl rfl 7 false rfl rfl rfl (by kernel_rfl) (fun _ => rfl) ?_
    refine BOk.cons rfl [7] [] rfl rfl (by kernel_rfl) (by kernel_rfl) (fun qK qa wr hB qO qF hK => ?_) ?_
    · obtain ⟨u55, e55, r7⟩ := qF.1
      have e55 : qa.tmps[55]? = some (.bool true) := (show u55 = .bool true from r7) ▸ e55
      clear r7
      clear qO qF
      go_simp
      exact hK _ _ (Below.refl _ _) (show (_ : Value) = _ from by first | rfl | simp)
    refine BOk.cons rfl [25] [] rfl rfl (by kernel_rfl) (by kernel_rfl) (fun qK qa wr hB qO qF hK => ?_) ?_
    · obtain ⟨u73, e73, r25⟩ := qF.1
      have e73 : qa.tmps[73]? = some (.bool true) := (show u73 = .bool true from r25) ▸ e73
      clear r25
      clear qO qF
      go_simp
      exact hK _ _ (Below.refl _ _) rfl
    exact BOk.nil
  intro vals wr hl hB hR
  match vals, hl with
  | [y48, y49, y50, y51, y52, y53, y54, y55, y56, y57, y58, y59, y60, y61, y62, y63, y64, y65, y66, y67, y68, y69, y70, y71, y72, y73, y4], _ =>
  have r26 : y4 = .bool true := hR 26 _ rfl
  subst r26
  clear hR
  simp only [putAll, Act.put, List.setIfInBounds_toArray, List.set_cons_zero, List.set_cons_succ]
  go_wp2_with fail
  go_ret
  exact ⟨rfl, hbW.trans (hB.mono hbW.size)⟩

def backR4_5 (a : Int) (g5 g6 : Nat) : List Spec := [.is (.pointer (some ⟨g5, 0, none⟩)),
  .is (.int .i64 0),
  .is (.bool false),
  .is (.bool false),
  .is (undef),
  .is (undef),
  .is (undef),
  .is (undef),
  .is (undef),
  .is (undef),
  .is (undef),
  .is (undef),
  .is (.bool false),
  .is (.bool false),
  .is (.pointer (some ⟨g5, 0, none⟩)),
  .is (.int .i64 0),
  .is (.bool true),
  .is (.bool true),
  .is (.agg #[.int .i64 0, .int .u64 0]),
  .is (.int .i64 0),
  .is (.agg #[.int .i64 1, .int .u64 (un 0)]),
  .st (fun v w => ∃ g, v = .slice (some ⟨g, 0, none⟩) 2 2 ∧ Bk w g 24 #[.int .i64 0, .int .u64 0, .int .i64 1, .int .u64 (un 0)]) (fun _ _ _ hb ⟨g, h1, h2⟩ => ⟨g, h1, h2.old hb⟩),
  .is (.agg #[.int .i64 0, .int .u64 0]),
  .is (.int .i64 0),
  .is (.bool false),
  .is (.bool false),
  .is (.bool false)]
def backR6_5 (a : Int) (g5 g6 : Nat) : List Spec := [.is (.pointer (some ⟨g6, 0, none⟩)),
  .is (.int .i64 1),
  .is (.bool false),
  .is (.bool false),
  .is (.int .i64 0),
  .is (.bool true),
  .is (.bool true),
  .is (.bool true),
  .is (undef),
  .is (undef),
  .is (undef),
  .is (undef),
  .is (undef),
  .is (undef),
  .is (undef),
  .is (undef),
  .is (undef),
  .is (undef),
  .is (undef),
  .is (undef),
  .is (undef),
  .is (undef),
  .is (undef),
  .is (undef),
  .is (undef),
  .is (.bool true),
  .is (.bool true)]
set_option maxHeartbeats 4000000 in
theorem walk_5 (a : Int) (ha : I64 a) (hs : (fitI (a + 0)).isSome = false) (w : World) :
    Calls Try.prog 9 #[.int .i64 a, .int .i64 0] w fun e w' => e = .returned (.bool true) ∧ Below w.heap.size w w' := by
  have e1 := sum_no ha (by unfold I64; omega : I64 0) hs
  have e2 := strict_left 2 (by omega) (intV 0)
  have e3 := mul_yes (b := 0) ha (by unfold I64; omega) (by rw [Int.mul_zero]; rfl)
  rw [Int.mul_zero] at e3
  clear hs
  have E1 := Lib.hid e1; have E2 := Lib.hid e2; have E3 := Lib.hid e3
  clear e1 e2 e3
  go_enter Try.func9, Try.ntmps9
  go_wp2_with fail
  refine (awake_any _).mono ?_
  rintro e w1 ⟨rfl, hb1⟩
  go_wp2_with fail
  refine (num_any a _).mono ?_
  rintro e w2 ⟨rfl, hb2⟩
  have hbel := hb1.trans (hb2.mono hb1.size)
  clear hb1 hb2
  go_wp2_with fail
  refine (num_any 0 _).mono ?_
  rintro e w3 ⟨rfl, hb3⟩
  have hbel := hbel.trans (hb3.mono hbel.size)
  clear hb3
  simp only [intV, V.v]
  go_wp2_with fail
  refine (do2 1 (intV a) (intV 0) (intV_fits a) (intV_fits 0) w3).mono ?_
  rintro e w4 ⟨rfl, hb4⟩
  have hbel : Below w.heap.size w w4 := hbel.trans (hb4.mono hbel.size)
  clear hb4
  rw [E1.out]
  go_wp2_with fail
  refine (num_any a _).mono ?_
  rintro e w5 ⟨rfl, hb5⟩
  have hbel := hbel.trans (hb5.mono hbel.size)
  clear hb5
  go_wp2_with fail
  refine (num_any 0 _).mono ?_
  rintro e w6 ⟨rfl, hb6⟩
  have hbel := hbel.trans (hb6.mono hbel.size)
  clear hb6
  simp only [intV, V.v]
  go_wp2_with fail
  refine (do2 3 (intV a) (intV 0) (intV_fits a) (intV_fits 0) w6).mono ?_
  rintro e w7 ⟨rfl, hb7⟩
  have hbel : Below w.heap.size w w7 := hbel.trans (hb7.mono hbel.size)
  clear hb7
  rw [E3.out]
  simp only [intV, none0]
  have hz := hbel.size
  go_wp2_with fail
  refine wp_abs (fun W => Below w.heap.size w W ∧ Bk W w7.heap.size 24 #[.int .i64 0, .int .u64 0] ∧ Bk W (w7.heap.size + 1) 24 #[.int .i64 1, .int .u64 (un 0)]) ?_ ?_
  · exact ⟨(hbel.alloc hz _).alloc (by simp; omega) _, (Bk.newAt rfl _ _).alloc _, Bk.newAt (by first | rfl | simp) _ _⟩
  rintro W ⟨hbW, k5, k6⟩
  generalize w7.heap.size + 1 = g6 at *
  generalize w7.heap.size = g5 at *
  clear hbel hz
  have ⟨c50, c51, _, _⟩ := vcells k5
  have ⟨c60, c61, _, _⟩ := vcells k6
  have e2 := E2.out
  refine wp_region_b (by kernel_rfl) (fun k => (backR4_5 a g5 g6).getD k .any) (by kernel_rfl) ?_ ?_
  · refine BOk.cons rfl [] [5] rfl rfl (by kernel_rfl) (by kernel_rfl) (fun qK qa wr hB qO qF hK => ?_) ?_
    · have e5 : qa.tmps[5]? = some (.pointer (some ⟨g5, 0, none⟩)) := qO.1.trans rfl
      clear qO qF
      go_simp
      exact hK _ _ (Below.refl _ _) rfl
    refine BOk.cons rfl [0] [] rfl rfl (by kernel_rfl) (by kernel_rfl) (fun qK qa wr hB qO qF hK => ?_) ?_
    · obtain ⟨u21, e21, r0⟩ := qF.1
      have e21 : qa.tmps[21]? = some (.pointer (some ⟨g5, 0, none⟩)) := (show u21 = .pointer (some ⟨g5, 0, none⟩) from r0) ▸ e21
      clear r0
      clear qO qF
      have hc50 := (bcell hB _ _ (World.block_lt_of_cell? _ _ c50)).trans c50
      go_simp
      exact hK _ _ (Below.refl _ _) rfl
    refine BOk.cons rfl [1] [] rfl rfl (by kernel_rfl) (by kernel_rfl) (fun qK qa wr hB qO qF hK => ?_) ?_
    · obtain ⟨u22, e22, r1⟩ := qF.1
      have e22 : qa.tmps[22]? = some (.int .i64 0) := (show u22 = .int .i64 0 from r1) ▸ e22
      clear r1
      clear qO qF
      go_simp
      exact hK _ _ (Below.refl _ _) (show (_ : Value) = _ from by first | rfl | simp)
    refine BOk.cons rfl [2] [] rfl rfl (by kernel_rfl) (by kernel_rfl) (fun qK qa wr hB qO qF hK => ?_) ?_
    · obtain ⟨u23, e23, r2⟩ := qF.1
      have e23 : qa.tmps[23]? = some (.bool false) := (show u23 = .bool false from r2) ▸ e23
      clear r2
      clear qO qF
      go_simp
      exact hK _ _ (Below.refl _ _) rfl
    refine BOk.no rfl rfl 3 true rfl rfl rfl (by kernel_rfl) (fun _ => rfl) ?_
    refine BOk.no rfl rfl 3 true rfl rfl rfl (by kernel_rfl) (fun _ => rfl) ?_
    refine BOk.no rfl rfl 3 true rfl rfl rfl (by kernel_rfl) (fun _ => rfl) ?_
    refine BOk.no rfl rfl 3 true rfl rfl rfl (by kernel_rfl) (fun _ => rfl) ?_
    refine BOk.no rfl rfl 3 true rfl rfl rfl (by kernel_rfl) (fun _ => rfl) ?_
    refine BOk.no rfl rfl 3 true rfl rfl rfl (by kernel_rfl) (fun _ => rfl) ?_
    refine BOk.no rfl rfl 3 true rfl rfl rfl (by kernel_rfl) (fun _ => rfl) ?_
    refine BOk.no rfl rfl 3 true rfl rfl rfl (by kernel_rfl) (fun _ => rfl) ?_
    refine BOk.cons rfl [3] [] rfl rfl (by kernel_rfl) (by kernel_rfl) (fun qK qa wr hB qO qF hK => ?_) ?_
    · obtain ⟨u24, e24, r3⟩ := qF.1
      have e24 : qa.tmps[24]? = some (.bool false) := (show u24 = .bool false from r3) ▸ e24
      clear r3
      clear qO qF
      go_simp
      exact hK _ _ (Below.refl _ _) (show (_ : Value) = _ from by first | rfl | simp)
    refine BOk.cons rfl [12] [] rfl rfl (by kernel_rfl) (by kernel_rfl) (fun qK qa wr hB qO qF hK => ?_) ?_
    · obtain ⟨u33, e33, r12⟩ := qF.1
      have e33 : qa.tmps[33]? = some (.bool false) := (show u33 = .bool false from r12) ▸ e33
      clear r12
      clear qO qF
      go_simp
      exact hK _ _ (Below.refl _ _) rfl
    refine BOk.yes rfl [] [5] rfl 13 false rfl rfl rfl (by kernel_rfl) (by kernel_rfl) (by kernel_rfl) (fun qK qa wr hB qO qF hK => ?_) ?_
    · have e5 : qa.tmps[5]? = some (.pointer (some ⟨g5, 0, none⟩)) := qO.1.trans rfl
      clear qO qF
      go_simp
      exact hK _ _ (Below.refl _ _) rfl
    refine BOk.yes rfl [14] [] rfl 13 false rfl rfl rfl (by kernel_rfl) (by kernel_rfl) (by kernel_rfl) (fun qK qa wr hB qO qF hK => ?_) ?_
    · obtain ⟨u35, e35, r14⟩ := qF.1
      have e35 : qa.tmps[35]? = some (.pointer (some ⟨g5, 0, none⟩)) := (show u35 = .pointer (some ⟨g5, 0, none⟩) from r14) ▸ e35
      clear r14
      clear qO qF
      have hc50 := (bcell hB _ _ (World.block_lt_of_cell? _ _ c50)).trans c50
      go_simp
      exact hK _ _ (Below.refl _ _) rfl
    refine BOk.yes rfl [15] [] rfl 13 false rfl rfl rfl (by kernel_rfl) (by kernel_rfl) (by kernel_rfl) (fun qK qa wr hB qO qF hK => ?_) ?_
    · obtain ⟨u36, e36, r15⟩ := qF.1
      have e36 : qa.tmps[36]? = some (.int .i64 0) := (show u36 = .int .i64 0 from r15) ▸ e36
      clear r15
      clear qO qF
      go_simp
      exact hK _ _ (Below.refl _ _) (show (_ : Value) = _ from by first | rfl | simp)
    refine BOk.yes rfl [16] [] rfl 13 false rfl rfl rfl (by kernel_rfl) (by kernel_rfl) (by kernel_rfl) (fun qK qa wr hB qO qF hK => ?_) ?_
    · obtain ⟨u37, e37, r16⟩ := qF.1
      have e37 : qa.tmps[37]? = some (.bool true) := (show u37 = .bool true from r16) ▸ e37
      clear r16
      clear qO qF
      go_simp
      exact hK _ _ (Below.refl _ _) rfl
    refine BOk.yes rfl [] [] rfl 17 true rfl rfl rfl (by kernel_rfl) (by kernel_rfl) (by kernel_rfl) (fun qK qa wr hB qO qF hK => ?_) ?_
    · clear qO qF
      go_simp
      exact hK _ _ (Below.refl _ _) rfl
    refine BOk.yes rfl [] [1] rfl 17 true rfl rfl rfl (by kernel_rfl) (by kernel_rfl) (by kernel_rfl) (fun qK qa wr hB qO qF hK => ?_) ?_
    · have e1 : qa.tmps[1]? = some (.int .i64 0) := qO.1.trans rfl
      clear qO qF
      go_simp
      exact hK _ _ (Below.refl _ _) rfl
    refine BOk.yes rfl [19] [] rfl 17 true rfl rfl rfl (by kernel_rfl) (by kernel_rfl) (by kernel_rfl) (fun qK qa wr hB qO qF hK => ?_) ?_
    · obtain ⟨u40, e40, r19⟩ := qF.1
      have e40 : qa.tmps[40]? = some (.int .i64 0) := (show u40 = .int .i64 0 from r19) ▸ e40
      clear r19
      clear qO qF
      go_simp
      go_at_call 24
      refine (num_any 0 _).mono ?_
      rintro e w2 ⟨rfl, hb2⟩
      exact hK _ _ hb2 rfl
    refine BOk.yes rfl [18, 20] [] rfl 17 true rfl rfl rfl (by kernel_rfl) (by kernel_rfl) (by kernel_rfl) (fun qK qa wr hB qO qF hK => ?_) ?_
    · obtain ⟨u39, e39, r18⟩ := qF.1
      have e39 : qa.tmps[39]? = some (.agg #[.int .i64 0, .int .u64 0]) := (show u39 = .agg #[.int .i64 0, .int .u64 0] from r18) ▸ e39
      clear r18
      obtain ⟨u41, e41, r20⟩ := qF.2.1
      have e41 : qa.tmps[41]? = some (.agg #[.int .i64 1, .int .u64 (un 0)]) := (show u41 = .agg #[.int .i64 1, .int .u64 (un 0)] from r20) ▸ e41
      clear r20
      clear qO qF
      go_simp
      exact hK _ _ ((Below.refl _ _).alloc (Nat.le_refl _) _) ⟨_, rfl, Bk.new _ _ _⟩
    refine BOk.yes rfl [21] [] rfl 17 true rfl rfl rfl (by kernel_rfl) (by kernel_rfl) (by kernel_rfl) (fun qK qa wr hB qO qF hK => ?_) ?_
    · obtain ⟨u42, e42, r21⟩ := qF.1
      obtain ⟨g42, h42, k42⟩ := (show ∃ g, u42 = .slice (some ⟨g, 0, none⟩) 2 2 ∧ Bk wr g 24 #[.int .i64 0, .int .u64 0, .int .i64 1, .int .u64 (un 0)] from r21)
      subst h42
      have e42 : qa.tmps[42]? = some (.slice (some ⟨g42, 0, none⟩) 2 2) := e42
      clear qO qF
      go_simp
      go_at_call 23
      refine (do_bk 2 [none0, (intV 0)] _ _ k42 rfl (by intro q hq; simp only [List.mem_cons, List.not_mem_nil, or_false] at hq; rcases hq with rfl | rfl; exact fits0; exact intV_fits 0) (by simp)).mono ?_
      rintro e w2 ⟨rfl, hb2⟩
      rw [e2]
      exact hK _ _ hb2 rfl
    refine BOk.yes rfl [22] [] rfl 17 true rfl rfl rfl (by kernel_rfl) (by kernel_rfl) (by kernel_rfl) (fun qK qa wr hB qO qF hK => ?_) ?_
    · obtain ⟨u43, e43, r22⟩ := qF.1
      have e43 : qa.tmps[43]? = some (.agg #[.int .i64 0, .int .u64 0]) := (show u43 = .agg #[.int .i64 0, .int .u64 0] from r22) ▸ e43
      clear r22
      clear qO qF
      go_simp
      exact hK _ _ (Below.refl _ _) rfl
    refine BOk.yes rfl [23] [] rfl 17 true rfl rfl rfl (by kernel_rfl) (by kernel_rfl) (by kernel_rfl) (fun qK qa wr hB qO qF hK => ?_) ?_
    · obtain ⟨u44, e44, r23⟩ := qF.1
      have e44 : qa.tmps[44]? = some (.int .i64 0) := (show u44 = .int .i64 0 from r23) ▸ e44
      clear r23
      clear qO qF
      go_simp
      exact hK _ _ (Below.refl _ _) (show (_ : Value) = _ from by first | rfl | simp)
    refine BOk.yes rfl [17, 24] [] rfl 13 false rfl rfl rfl (by kernel_rfl) (by kernel_rfl) (by kernel_rfl) (fun qK qa wr hB qO qF hK => ?_) ?_
    · obtain ⟨u38, e38, r17⟩ := qF.1
      have e38 : qa.tmps[38]? = some (.bool true) := (show u38 = .bool true from r17) ▸ e38
      clear r17
      obtain ⟨u45, e45, r24⟩ := qF.2.1
      have e45 : qa.tmps[45]? = some (.bool false) := (show u45 = .bool false from r24) ▸ e45
      clear r24
      clear qO qF
      go_simp
      exact hK _ _ (Below.refl _ _) (show (_ : Value) = _ from by first | rfl | simp)
    refine BOk.cons rfl [13, 25] [] rfl rfl (by kernel_rfl) (by kernel_rfl) (fun qK qa wr hB qO qF hK => ?_) ?_
    · obtain ⟨u34, e34, r13⟩ := qF.1
      have e34 : qa.tmps[34]? = some (.bool false) := (show u34 = .bool false from r13) ▸ e34
      clear r13
      obtain ⟨u46, e46, r25⟩ := qF.2.1
      have e46 : qa.tmps[46]? = some (.bool false) := (show u46 = .bool false from r25) ▸ e46
      clear r25
      clear qO qF
      go_simp
      exact hK _ _ (Below.refl _ _) (show (_ : Value) = _ from by first | rfl | simp)
    exact BOk.nil
  intro vals wr hl hB hR
  match vals, hl with
  | [x21, x22, x23, x24, x25, x26, x27, x28, x29, x30, x31, x32, x33, x34, x35, x36, x37, x38, x39, x40, x41, x42, x43, x44, x45, x46, x47], _ =>
  have r26 : x47 = .bool false := hR 26 _ rfl
  subst r26
  clear hR
  simp only [putAll, Act.put, List.setIfInBounds_toArray, List.set_cons_zero, List.set_cons_succ]
  have k5 := k5.old hB
  have k6 := k6.old hB
  have hbW := hbW.trans (hB.mono hbW.size)
  clear hB c50 c51 c60 c61 e2
  go_wp2_with fail
  have ⟨c50, c51, _, _⟩ := vcells k5
  have ⟨c60, c61, _, _⟩ := vcells k6
  refine wp_region_b (by kernel_rfl) (fun k => (backR6_5 a g5 g6).getD k .any) (by kernel_rfl) ?_ ?_
  · refine BOk.cons rfl [] [6] rfl rfl (by kernel_rfl) (by kernel_rfl) (fun qK qa wr hB qO qF hK => ?_) ?_
    · have e6 : qa.tmps[6]? = some (.pointer (some ⟨g6, 0, none⟩)) := qO.1.trans rfl
      clear qO qF
      go_simp
      exact hK _ _ (Below.refl _ _) rfl
    refine BOk.cons rfl [0] [] rfl rfl (by kernel_rfl) (by kernel_rfl) (fun qK qa wr hB qO qF hK => ?_) ?_
    · obtain ⟨u48, e48, r0⟩ := qF.1
      have e48 : qa.tmps[48]? = some (.pointer (some ⟨g6, 0, none⟩)) := (show u48 = .pointer (some ⟨g6, 0, none⟩) from r0) ▸ e48
      clear r0
      clear qO qF
      have hc60 := (bcell hB _ _ (World.block_lt_of_cell? _ _ c60)).trans c60
      go_simp
      exact hK _ _ (Below.refl _ _) rfl
    refine BOk.cons rfl [1] [] rfl rfl (by kernel_rfl) (by kernel_rfl) (fun qK qa wr hB qO qF hK => ?_) ?_
    · obtain ⟨u49, e49, r1⟩ := qF.1
      have e49 : qa.tmps[49]? = some (.int .i64 1) := (show u49 = .int .i64 1 from r1) ▸ e49
      clear r1
      clear qO qF
      go_simp
      exact hK _ _ (Below.refl _ _) (show (_ : Value) = _ from by first | rfl | simp)
    refine BOk.cons rfl [2] [] rfl rfl (by kernel_rfl) (by kernel_rfl) (fun qK qa wr hB qO qF hK => ?_) ?_
    · obtain ⟨u50, e50, r2⟩ := qF.1
      have e50 : qa.tmps[50]? = some (.bool false) := (show u50 = .bool false from r2) ▸ e50
      clear r2
      clear qO qF
      go_simp
      exact hK _ _ (Below.refl _ _) rfl
    refine BOk.yes rfl [] [1] rfl 3 false rfl rfl rfl (by kernel_rfl) (by kernel_rfl) (by kernel_rfl) (fun qK qa wr hB qO qF hK => ?_) ?_
    · have e1 : qa.tmps[1]? = some (.int .i64 0) := qO.1.trans rfl
      clear qO qF
      go_simp
      exact hK _ _ (Below.refl _ _) rfl
    refine BOk.yes rfl [4] [] rfl 3 false rfl rfl rfl (by kernel_rfl) (by kernel_rfl) (by kernel_rfl) (fun qK qa wr hB qO qF hK => ?_) ?_
    · obtain ⟨u52, e52, r4⟩ := qF.1
      have e52 : qa.tmps[52]? = some (.int .i64 0) := (show u52 = .int .i64 0 from r4) ▸ e52
      clear r4
      clear qO qF
      go_simp
      exact hK _ _ (Below.refl _ _) (show (_ : Value) = _ from by first | rfl | simp)
    refine BOk.cons rfl [3, 5] [] rfl rfl (by kernel_rfl) (by kernel_rfl) (fun qK qa wr hB qO qF hK => ?_) ?_
    · obtain ⟨u51, e51, r3⟩ := qF.1
      have e51 : qa.tmps[51]? = some (.bool false) := (show u51 = .bool false from r3) ▸ e51
      clear r3
      obtain ⟨u53, e53, r5⟩ := qF.2.1
      have e53 : qa.tmps[53]? = some (.bool true) := (show u53 = .bool true from r5) ▸ e53
      clear r5
      clear qO qF
      go_simp
      exact hK _ _ (Below.refl _ _) (show (_ : Value) = _ from by first | rfl | simp)
    refine BOk.cons rfl [6] [] rfl rfl (by kernel_rfl) (by kernel_rfl) (fun qK qa wr hB qO qF hK => ?_) ?_
    · obtain ⟨u54, e54, r6⟩ := qF.1
      have e54 : qa.tmps[54]? = some (.bool true) := (show u54 = .bool true from r6) ▸ e54
      clear r6
      clear qO qF
      go_simp
      exact hK _ _ (Below.refl _ _) rfl
    refine BOk.no rfl rfl 7 false rfl rfl rfl (by kernel_rfl) (fun _ => rfl) ?_
    refine BOk.no rfl rfl 7 false rfl rfl rfl (by kernel_rfl) (fun _ => rfl) ?_
    refine BOk.no rfl rfl 7 false rfl rfl rfl (by kernel_rfl) (fun _ => rfl) ?_
    refine BOk.no rfl rfl 7 false rfl rfl rfl (by kernel_rfl) (fun _ => rfl) ?_
    refine BOk.no rfl rfl 7 false rfl rfl rfl (by kernel_rfl) (fun _ => rfl) ?_
    refine BOk.no rfl rfl 7 false rfl rfl rfl (by kernel_rfl) (fun _ => rfl) ?_
    refine BOk.no rfl rfl 7 false rfl rfl rfl (by kernel_rfl) (fun _ => rfl) ?_
    refine BOk.no rfl rfl 7 false rfl rfl rfl (by kernel_rfl) (fun _ => rfl) ?_
    refine BOk.no rfl rfl 7 false rfl rfl rfl (by kernel_rfl) (fun _ => rfl) ?_
    refine BOk.gone rfl rfl 16 true rfl rfl rfl (by kernel_rfl) (fun _ => rfl) ?_
    refine BOk.gone rfl rfl 16 true rfl rfl rfl (by kernel_rfl) (fun _ => rfl) ?_
    refine BOk.gone rfl rfl 16 true rfl rfl rfl (by kernel_rfl) (fun _ => rfl) ?_
    refine BOk.gone rfl rfl 16 true rfl rfl rfl (by kernel_rfl) (fun _ => rfl) ?_
    refine BOk.gone rfl rfl 16 true rfl rfl rfl (by kernel_rfl) (fun _ => rfl) ?_
    refine BOk.gone rfl rfl 16 true rfl rfl rfl (by kernel_rfl) (fun _ => rfl) ?_
    refine BOk.gone rfl rfl 16 true rfl rfl rfl (by kernel_rfl) (fun _ => rfl) ?_
    refine BOk.no rfl rfl 7 false rfl rfl rfl (by kernel_rfl) (fun _ => rfl) ?_
    refine BOk.cons rfl [7] [] rfl rfl (by kernel_rfl) (by kernel_rfl) (fun qK qa wr hB qO qF hK => ?_) ?_
    · obtain ⟨u55, e55, r7⟩ := qF.1
      have e55 : qa.tmps[55]? = some (.bool true) := (show u55 = .bool true from r7) ▸ e55
      clear r7
      clear qO qF
      go_simp
      exact hK _ _ (Below.refl _ _) (show (_ : Value) = _ from by first | rfl | simp)
    refine BOk.cons rfl [25] [] rfl rfl (by kernel_rfl) (by kernel_rfl) (fun qK qa wr hB qO qF hK => ?_) ?_
    · obtain ⟨u73, e73, r25⟩ := qF.1
      have e73 : qa.tmps[73]? = some (.bool true) := (show u73 = .bool true from r25) ▸ e73
      clear r25
      clear qO qF
      go_simp
      exact hK _ _ (Below.refl _ _) rfl
    exact BOk.nil
  intro vals wr hl hB hR
  match vals, hl with
  | [y48, y49, y50, y51, y52, y53, y54, y55, y56, y57, y58, y59, y60, y61, y62, y63, y64, y65, y66, y67, y68, y69, y70, y71, y72, y73, y4], _ =>
  have r26 : y4 = .bool true := hR 26 _ rfl
  subst r26
  clear hR
  simp only [putAll, Act.put, List.setIfInBounds_toArray, List.set_cons_zero, List.set_cons_succ]
  go_wp2_with fail
  go_ret
  exact ⟨rfl, hbW.trans (hB.mono hbW.size)⟩

def backR4_6 (a b : Int) (g5 g6 : Nat) : List Spec := [.is (.pointer (some ⟨g5, 0, none⟩)),
  .is (.int .i64 0),
  .is (.bool false),
  .is (.bool false),
  .is (undef),
  .is (undef),
  .is (undef),
  .is (undef),
  .is (undef),
  .is (undef),
  .is (undef),
  .is (undef),
  .is (.bool false),
  .is (.bool false),
  .is (.pointer (some ⟨g5, 0, none⟩)),
  .is (.int .i64 0),
  .is (.bool true),
  .is (.bool true),
  .is (.agg #[.int .i64 0, .int .u64 0]),
  .is (.int .i64 b),
  .is (.agg #[.int .i64 1, .int .u64 (un b)]),
  .st (fun v w => ∃ g, v = .slice (some ⟨g, 0, none⟩) 2 2 ∧ Bk w g 24 #[.int .i64 0, .int .u64 0, .int .i64 1, .int .u64 (un b)]) (fun _ _ _ hb ⟨g, h1, h2⟩ => ⟨g, h1, h2.old hb⟩),
  .is (.agg #[.int .i64 0, .int .u64 0]),
  .is (.int .i64 0),
  .is (.bool false),
  .is (.bool false),
  .is (.bool false)]
def backR6_6 (a b : Int) (g5 g6 : Nat) : List Spec := [.is (.pointer (some ⟨g6, 0, none⟩)),
  .is (.int .i64 1),
  .is (.bool false),
  .is (.bool false),
  .is (.int .i64 b),
  .is (.bool false),
  .is (.bool false),
  .is (.bool false),
  .is (.agg #[.int .i64 1, .int .u64 (un (a * b))]),
  .is (.int .i64 b),
  .is (.agg #[.int .i64 1, .int .u64 (un b)]),
  .st (fun v w => ∃ g, v = .slice (some ⟨g, 0, none⟩) 2 2 ∧ Bk w g 24 #[.int .i64 1, .int .u64 (un (a * b)), .int .i64 1, .int .u64 (un b)]) (fun _ _ _ hb ⟨g, h1, h2⟩ => ⟨g, h1, h2.old hb⟩),
  .is (.agg #[.int .i64 1, .int .u64 (un a)]),
  .is (.int .i64 a),
  .is (.agg #[.int .i64 1, .int .u64 (un a)]),
  .is (.bool true),
  .is (.bool true),
  .is (.agg #[.int .i64 1, .int .u64 (un (a * b))]),
  .is (.int .i64 b),
  .is (.agg #[.int .i64 1, .int .u64 (un b)]),
  .st (fun v w => ∃ g, v = .slice (some ⟨g, 0, none⟩) 2 2 ∧ Bk w g 24 #[.int .i64 1, .int .u64 (un (a * b)), .int .i64 1, .int .u64 (un b)]) (fun _ _ _ hb ⟨g, h1, h2⟩ => ⟨g, h1, h2.old hb⟩),
  .is (.agg #[.int .i64 1, .int .u64 (un 0)]),
  .is (.agg #[.int .i64 1, .int .u64 (un 0)]),
  .is (.bool true),
  .is (.bool true),
  .is (.bool true),
  .is (.bool true)]
set_option maxHeartbeats 4000000 in
theorem walk_6 (a b : Int) (ha : I64 a) (hb : I64 b) (hs : (fitI (a + b)).isSome = false) (hp : (fitI (a * b)).isSome = true) (h0 : b ≠ 0) (w : World) :
    Calls Try.prog 9 #[.int .i64 a, .int .i64 b] w fun e w' => e = .returned (.bool true) ∧ Below w.heap.size w w' := by
  have e1 := sum_no ha hb hs
  have e2 := strict_left 2 (by omega) (intV b)
  have e3 := mul_yes ha hb hp
  obtain ⟨e4, e5⟩ := mul_back ha hb hp h0
  clear hs hp
  have hb0 : (b == 0) = false := beq_eq_false_iff_ne.2 h0
  clear h0
  have E1 := Lib.hid e1; have E2 := Lib.hid e2; have E3 := Lib.hid e3
  clear e1 e2 e3
  have E4 := Lib.hid e4; have E5 := Lib.hid e5
  clear e4 e5
  go_enter Try.func9, Try.ntmps9
  go_wp2_with fail
  refine (awake_any _).mono ?_
  rintro e w1 ⟨rfl, hb1⟩
  go_wp2_with fail
  refine (num_any a _).mono ?_
  rintro e w2 ⟨rfl, hb2⟩
  have hbel := hb1.trans (hb2.mono hb1.size)
  clear hb1 hb2
  go_wp2_with fail
  refine (num_any b _).mono ?_
  rintro e w3 ⟨rfl, hb3⟩
  have hbel := hbel.trans (hb3.mono hbel.size)
  clear hb3
  simp only [intV, V.v]
  go_wp2_with fail
  refine (do2 1 (intV a) (intV b) (intV_fits a) (intV_fits b) w3).mono ?_
  rintro e w4 ⟨rfl, hb4⟩
  have hbel : Below w.heap.size w w4 := hbel.trans (hb4.mono hbel.size)
  clear hb4
  rw [E1.out]
  go_wp2_with fail
  refine (num_any a _).mono ?_
  rintro e w5 ⟨rfl, hb5⟩
  have hbel := hbel.trans (hb5.mono hbel.size)
  clear hb5
  go_wp2_with fail
  refine (num_any b _).mono ?_
  rintro e w6 ⟨rfl, hb6⟩
  have hbel := hbel.trans (hb6.mono hbel.size)
  clear hb6
  simp only [intV, V.v]
  go_wp2_with fail
  refine (do2 3 (intV a) (intV b) (intV_fits a) (intV_fits b) w6).mono ?_
  rintro e w7 ⟨rfl, hb7⟩
  have hbel : Below w.heap.size w w7 := hbel.trans (hb7.mono hbel.size)
  clear hb7
  rw [E3.out]
  simp only [intV, none0]
  have hz := hbel.size
  go_wp2_with fail
  refine wp_abs (fun W => Below w.heap.size w W ∧ Bk W w7.heap.size 24 #[.int .i64 0, .int .u64 0] ∧ Bk W (w7.heap.size + 1) 24 #[.int .i64 1, .int .u64 (un (a * b))]) ?_ ?_
  · exact ⟨(hbel.alloc hz _).alloc (by simp; omega) _, (Bk.newAt rfl _ _).alloc _, Bk.newAt (by first | rfl | simp) _ _⟩
  rintro W ⟨hbW, k5, k6⟩
  generalize w7.heap.size + 1 = g6 at *
  generalize w7.heap.size = g5 at *
  clear hbel hz
  have ⟨c50, c51, _, _⟩ := vcells k5
  have ⟨c60, c61, _, _⟩ := vcells k6
  have e2 := E2.out
  refine wp_region_b (by kernel_rfl) (fun k => (backR4_6 a b g5 g6).getD k .any) (by kernel_rfl) ?_ ?_
  · refine BOk.cons rfl [] [5] rfl rfl (by kernel_rfl) (by kernel_rfl) (fun qK qa wr hB qO qF hK => ?_) ?_
    · have e5 : qa.tmps[5]? = some (.pointer (some ⟨g5, 0, none⟩)) := qO.1.trans rfl
      clear qO qF
      go_simp
      exact hK _ _ (Below.refl _ _) rfl
    refine BOk.cons rfl [0] [] rfl rfl (by kernel_rfl) (by kernel_rfl) (fun qK qa wr hB qO qF hK => ?_) ?_
    · obtain ⟨u21, e21, r0⟩ := qF.1
      have e21 : qa.tmps[21]? = some (.pointer (some ⟨g5, 0, none⟩)) := (show u21 = .pointer (some ⟨g5, 0, none⟩) from r0) ▸ e21
      clear r0
      clear qO qF
      have hc50 := (bcell hB _ _ (World.block_lt_of_cell? _ _ c50)).trans c50
      go_simp
      exact hK _ _ (Below.refl _ _) rfl
    refine BOk.cons rfl [1] [] rfl rfl (by kernel_rfl) (by kernel_rfl) (fun qK qa wr hB qO qF hK => ?_) ?_
    · obtain ⟨u22, e22, r1⟩ := qF.1
      have e22 : qa.tmps[22]? = some (.int .i64 0) := (show u22 = .int .i64 0 from r1) ▸ e22
      clear r1
      clear qO qF
      go_simp
      exact hK _ _ (Below.refl _ _) (show (_ : Value) = _ from by first | rfl | simp)
    refine BOk.cons rfl [2] [] rfl rfl (by kernel_rfl) (by kernel_rfl) (fun qK qa wr hB qO qF hK => ?_) ?_
    · obtain ⟨u23, e23, r2⟩ := qF.1
      have e23 : qa.tmps[23]? = some (.bool false) := (show u23 = .bool false from r2) ▸ e23
      clear r2
      clear qO qF
      go_simp
      exact hK _ _ (Below.refl _ _) rfl
    refine BOk.no rfl rfl 3 true rfl rfl rfl (by kernel_rfl) (fun _ => rfl) ?_
    refine BOk.no rfl rfl 3 true rfl rfl rfl (by kernel_rfl) (fun _ => rfl) ?_
    refine BOk.no rfl rfl 3 true rfl rfl rfl (by kernel_rfl) (fun _ => rfl) ?_
    refine BOk.no rfl rfl 3 true rfl rfl rfl (by kernel_rfl) (fun _ => rfl) ?_
    refine BOk.no rfl rfl 3 true rfl rfl rfl (by kernel_rfl) (fun _ => rfl) ?_
    refine BOk.no rfl rfl 3 true rfl rfl rfl (by kernel_rfl) (fun _ => rfl) ?_
    refine BOk.no rfl rfl 3 true rfl rfl rfl (by kernel_rfl) (fun _ => rfl) ?_
    refine BOk.no rfl rfl 3 true rfl rfl rfl (by kernel_rfl) (fun _ => rfl) ?_
    refine BOk.cons rfl [3] [] rfl rfl (by kernel_rfl) (by kernel_rfl) (fun qK qa wr hB qO qF hK => ?_) ?_
    · obtain ⟨u24, e24, r3⟩ := qF.1
      have e24 : qa.tmps[24]? = some (.bool false) := (show u24 = .bool false from r3) ▸ e24
      clear r3
      clear qO qF
      go_simp
      exact hK _ _ (Below.refl _ _) (show (_ : Value) = _ from by first | rfl | simp)
    refine BOk.cons rfl [12] [] rfl rfl (by kernel_rfl) (by kernel_rfl) (fun qK qa wr hB qO qF hK => ?_) ?_
    · obtain ⟨u33, e33, r12⟩ := qF.1
      have e33 : qa.tmps[33]? = some (.bool false) := (show u33 = .bool false from r12) ▸ e33
      clear r12
      clear qO qF
      go_simp
      exact hK _ _ (Below.refl _ _) rfl
    refine BOk.yes rfl [] [5] rfl 13 false rfl rfl rfl (by kernel_rfl) (by kernel_rfl) (by kernel_rfl) (fun qK qa wr hB qO qF hK => ?_) ?_
    · have e5 : qa.tmps[5]? = some (.pointer (some ⟨g5, 0, none⟩)) := qO.1.trans rfl
      clear qO qF
      go_simp
      exact hK _ _ (Below.refl _ _) rfl
    refine BOk.yes rfl [14] [] rfl 13 false rfl rfl rfl (by kernel_rfl) (by kernel_rfl) (by kernel_rfl) (fun qK qa wr hB qO qF hK => ?_) ?_
    · obtain ⟨u35, e35, r14⟩ := qF.1
      have e35 : qa.tmps[35]? = some (.pointer (some ⟨g5, 0, none⟩)) := (show u35 = .pointer (some ⟨g5, 0, none⟩) from r14) ▸ e35
      clear r14
      clear qO qF
      have hc50 := (bcell hB _ _ (World.block_lt_of_cell? _ _ c50)).trans c50
      go_simp
      exact hK _ _ (Below.refl _ _) rfl
    refine BOk.yes rfl [15] [] rfl 13 false rfl rfl rfl (by kernel_rfl) (by kernel_rfl) (by kernel_rfl) (fun qK qa wr hB qO qF hK => ?_) ?_
    · obtain ⟨u36, e36, r15⟩ := qF.1
      have e36 : qa.tmps[36]? = some (.int .i64 0) := (show u36 = .int .i64 0 from r15) ▸ e36
      clear r15
      clear qO qF
      go_simp
      exact hK _ _ (Below.refl _ _) (show (_ : Value) = _ from by first | rfl | simp)
    refine BOk.yes rfl [16] [] rfl 13 false rfl rfl rfl (by kernel_rfl) (by kernel_rfl) (by kernel_rfl) (fun qK qa wr hB qO qF hK => ?_) ?_
    · obtain ⟨u37, e37, r16⟩ := qF.1
      have e37 : qa.tmps[37]? = some (.bool true) := (show u37 = .bool true from r16) ▸ e37
      clear r16
      clear qO qF
      go_simp
      exact hK _ _ (Below.refl _ _) rfl
    refine BOk.yes rfl [] [] rfl 17 true rfl rfl rfl (by kernel_rfl) (by kernel_rfl) (by kernel_rfl) (fun qK qa wr hB qO qF hK => ?_) ?_
    · clear qO qF
      go_simp
      exact hK _ _ (Below.refl _ _) rfl
    refine BOk.yes rfl [] [1] rfl 17 true rfl rfl rfl (by kernel_rfl) (by kernel_rfl) (by kernel_rfl) (fun qK qa wr hB qO qF hK => ?_) ?_
    · have e1 : qa.tmps[1]? = some (.int .i64 b) := qO.1.trans rfl
      clear qO qF
      go_simp
      exact hK _ _ (Below.refl _ _) rfl
    refine BOk.yes rfl [19] [] rfl 17 true rfl rfl rfl (by kernel_rfl) (by kernel_rfl) (by kernel_rfl) (fun qK qa wr hB qO qF hK => ?_) ?_
    · obtain ⟨u40, e40, r19⟩ := qF.1
      have e40 : qa.tmps[40]? = some (.int .i64 b) := (show u40 = .int .i64 b from r19) ▸ e40
      clear r19
      clear qO qF
      go_simp
      go_at_call 24
      refine (num_any b _).mono ?_
      rintro e w2 ⟨rfl, hb2⟩
      exact hK _ _ hb2 rfl
    refine BOk.yes rfl [18, 20] [] rfl 17 true rfl rfl rfl (by kernel_rfl) (by kernel_rfl) (by kernel_rfl) (fun qK qa wr hB qO qF hK => ?_) ?_
    · obtain ⟨u39, e39, r18⟩ := qF.1
      have e39 : qa.tmps[39]? = some (.agg #[.int .i64 0, .int .u64 0]) := (show u39 = .agg #[.int .i64 0, .int .u64 0] from r18) ▸ e39
      clear r18
      obtain ⟨u41, e41, r20⟩ := qF.2.1
      have e41 : qa.tmps[41]? = some (.agg #[.int .i64 1, .int .u64 (un b)]) := (show u41 = .agg #[.int .i64 1, .int .u64 (un b)] from r20) ▸ e41
      clear r20
      clear qO qF
      go_simp
      exact hK _ _ ((Below.refl _ _).alloc (Nat.le_refl _) _) ⟨_, rfl, Bk.new _ _ _⟩
    refine BOk.yes rfl [21] [] rfl 17 true rfl rfl rfl (by kernel_rfl) (by kernel_rfl) (by kernel_rfl) (fun qK qa wr hB qO qF hK => ?_) ?_
    · obtain ⟨u42, e42, r21⟩ := qF.1
      obtain ⟨g42, h42, k42⟩ := (show ∃ g, u42 = .slice (some ⟨g, 0, none⟩) 2 2 ∧ Bk wr g 24 #[.int .i64 0, .int .u64 0, .int .i64 1, .int .u64 (un b)] from r21)
      subst h42
      have e42 : qa.tmps[42]? = some (.slice (some ⟨g42, 0, none⟩) 2 2) := e42
      clear qO qF
      go_simp
      go_at_call 23
      refine (do_bk 2 [none0, (intV b)] _ _ k42 rfl (by intro q hq; simp only [List.mem_cons, List.not_mem_nil, or_false] at hq; rcases hq with rfl | rfl; exact fits0; exact intV_fits b) (by simp)).mono ?_
      rintro e w2 ⟨rfl, hb2⟩
      rw [e2]
      exact hK _ _ hb2 rfl
    refine BOk.yes rfl [22] [] rfl 17 true rfl rfl rfl (by kernel_rfl) (by kernel_rfl) (by kernel_rfl) (fun qK qa wr hB qO qF hK => ?_) ?_
    · obtain ⟨u43, e43, r22⟩ := qF.1
      have e43 : qa.tmps[43]? = some (.agg #[.int .i64 0, .int .u64 0]) := (show u43 = .agg #[.int .i64 0, .int .u64 0] from r22) ▸ e43
      clear r22
      clear qO qF
      go_simp
      exact hK _ _ (Below.refl _ _) rfl
    refine BOk.yes rfl [23] [] rfl 17 true rfl rfl rfl (by kernel_rfl) (by kernel_rfl) (by kernel_rfl) (fun qK qa wr hB qO qF hK => ?_) ?_
    · obtain ⟨u44, e44, r23⟩ := qF.1
      have e44 : qa.tmps[44]? = some (.int .i64 0) := (show u44 = .int .i64 0 from r23) ▸ e44
      clear r23
      clear qO qF
      go_simp
      exact hK _ _ (Below.refl _ _) (show (_ : Value) = _ from by first | rfl | simp)
    refine BOk.yes rfl [17, 24] [] rfl 13 false rfl rfl rfl (by kernel_rfl) (by kernel_rfl) (by kernel_rfl) (fun qK qa wr hB qO qF hK => ?_) ?_
    · obtain ⟨u38, e38, r17⟩ := qF.1
      have e38 : qa.tmps[38]? = some (.bool true) := (show u38 = .bool true from r17) ▸ e38
      clear r17
      obtain ⟨u45, e45, r24⟩ := qF.2.1
      have e45 : qa.tmps[45]? = some (.bool false) := (show u45 = .bool false from r24) ▸ e45
      clear r24
      clear qO qF
      go_simp
      exact hK _ _ (Below.refl _ _) (show (_ : Value) = _ from by first | rfl | simp)
    refine BOk.cons rfl [13, 25] [] rfl rfl (by kernel_rfl) (by kernel_rfl) (fun qK qa wr hB qO qF hK => ?_) ?_
    · obtain ⟨u34, e34, r13⟩ := qF.1
      have e34 : qa.tmps[34]? = some (.bool false) := (show u34 = .bool false from r13) ▸ e34
      clear r13
      obtain ⟨u46, e46, r25⟩ := qF.2.1
      have e46 : qa.tmps[46]? = some (.bool false) := (show u46 = .bool false from r25) ▸ e46
      clear r25
      clear qO qF
      go_simp
      exact hK _ _ (Below.refl _ _) (show (_ : Value) = _ from by first | rfl | simp)
    exact BOk.nil
  intro vals wr hl hB hR
  match vals, hl with
  | [x21, x22, x23, x24, x25, x26, x27, x28, x29, x30, x31, x32, x33, x34, x35, x36, x37, x38, x39, x40, x41, x42, x43, x44, x45, x46, x47], _ =>
  have r26 : x47 = .bool false := hR 26 _ rfl
  subst r26
  clear hR
  simp only [putAll, Act.put, List.setIfInBounds_toArray, List.set_cons_zero, List.set_cons_succ]
  have k5 := k5.old hB
  have k6 := k6.old hB
  have hbW := hbW.trans (hB.mono hbW.size)
  clear hB c50 c51 c60 c61 e2
  go_wp2_with fail
  have ⟨c50, c51, _, _⟩ := vcells k5
  have ⟨c60, c61, _, _⟩ := vcells k6
  have e4 := E4.out
  have e5 := E5.out
  refine wp_region_b (by kernel_rfl) (fun k => (backR6_6 a b g5 g6).getD k .any) (by kernel_rfl) ?_ ?_
  · refine BOk.cons rfl [] [6] rfl rfl (by kernel_rfl) (by kernel_rfl) (fun qK qa wr hB qO qF hK => ?_) ?_
    · have e6 : qa.tmps[6]? = some (.pointer (some ⟨g6, 0, none⟩)) := qO.1.trans rfl
      clear qO qF
      go_simp
      exact hK _ _ (Below.refl _ _) rfl
    refine BOk.cons rfl [0] [] rfl rfl (by kernel_rfl) (by kernel_rfl) (fun qK qa wr hB qO qF hK => ?_) ?_
    · obtain ⟨u48, e48, r0⟩ := qF.1
      have e48 : qa.tmps[48]? = some (.pointer (some ⟨g6, 0, none⟩)) := (show u48 = .pointer (some ⟨g6, 0, none⟩) from r0) ▸ e48
      clear r0
      clear qO qF
      have hc60 := (bcell hB _ _ (World.block_lt_of_cell? _ _ c60)).trans c60
      go_simp
      exact hK _ _ (Below.refl _ _) rfl
    refine BOk.cons rfl [1] [] rfl rfl (by kernel_rfl) (by kernel_rfl) (fun qK qa wr hB qO qF hK => ?_) ?_
    · obtain ⟨u49, e49, r1⟩ := qF.1
      have e49 : qa.tmps[49]? = some (.int .i64 1) := (show u49 = .int .i64 1 from r1) ▸ e49
      clear r1
      clear qO qF
      go_simp
      exact hK _ _ (Below.refl _ _) (show (_ : Value) = _ from by first | rfl | simp)
    refine BOk.cons rfl [2] [] rfl rfl (by kernel_rfl) (by kernel_rfl) (fun qK qa wr hB qO qF hK => ?_) ?_
    · obtain ⟨u50, e50, r2⟩ := qF.1
      have e50 : qa.tmps[50]? = some (.bool false) := (show u50 = .bool false from r2) ▸ e50
      clear r2
      clear qO qF
      go_simp
      exact hK _ _ (Below.refl _ _) rfl
    refine BOk.yes rfl [] [1] rfl 3 false rfl rfl rfl (by kernel_rfl) (by kernel_rfl) (by kernel_rfl) (fun qK qa wr hB qO qF hK => ?_) ?_
    · have e1 : qa.tmps[1]? = some (.int .i64 b) := qO.1.trans rfl
      clear qO qF
      go_simp
      exact hK _ _ (Below.refl _ _) rfl
    refine BOk.yes rfl [4] [] rfl 3 false rfl rfl rfl (by kernel_rfl) (by kernel_rfl) (by kernel_rfl) (fun qK qa wr hB qO qF hK => ?_) ?_
    · obtain ⟨u52, e52, r4⟩ := qF.1
      have e52 : qa.tmps[52]? = some (.int .i64 b) := (show u52 = .int .i64 b from r4) ▸ e52
      clear r4
      clear qO qF
      go_simp
      exact hK _ _ (Below.refl _ _) (show (_ : Value) = _ from by first | rfl | simp)
    refine BOk.cons rfl [3, 5] [] rfl rfl (by kernel_rfl) (by kernel_rfl) (fun qK qa wr hB qO qF hK => ?_) ?_
    · obtain ⟨u51, e51, r3⟩ := qF.1
      have e51 : qa.tmps[51]? = some (.bool false) := (show u51 = .bool false from r3) ▸ e51
      clear r3
      obtain ⟨u53, e53, r5⟩ := qF.2.1
      have e53 : qa.tmps[53]? = some (.bool false) := (show u53 = .bool false from r5) ▸ e53
      clear r5
      clear qO qF
      go_simp
      exact hK _ _ (Below.refl _ _) (show (_ : Value) = _ from by first | rfl | simp)
    refine BOk.cons rfl [6] [] rfl rfl (by kernel_rfl) (by kernel_rfl) (fun qK qa wr hB qO qF hK => ?_) ?_
    · obtain ⟨u54, e54, r6⟩ := qF.1
      have e54 : qa.tmps[54]? = some (.bool false) := (show u54 = .bool false from r6) ▸ e54
      clear r6
      clear qO qF
      go_simp
      exact hK _ _ (Below.refl _ _) rfl
    refine BOk.yes rfl [] [6] rfl 7 false rfl rfl rfl (by kernel_rfl) (by kernel_rfl) (by kernel_rfl) (fun qK qa wr hB qO qF hK => ?_) ?_
    · have e6 : qa.tmps[6]? = some (.pointer (some ⟨g6, 0, none⟩)) := qO.1.trans rfl
      clear qO qF
      have hc60 := (bcell hB _ _ (World.block_lt_of_cell? _ _ c60)).trans c60
      have hc61 := (bcell hB _ _ (World.block_lt_of_cell? _ _ c61)).trans c61
      go_simp
      exact hK _ _ (Below.refl _ _) rfl
    refine BOk.yes rfl [] [1] rfl 7 false rfl rfl rfl (by kernel_rfl) (by kernel_rfl) (by kernel_rfl) (fun qK qa wr hB qO qF hK => ?_) ?_
    · have e1 : qa.tmps[1]? = some (.int .i64 b) := qO.1.trans rfl
      clear qO qF
      go_simp
      exact hK _ _ (Below.refl _ _) rfl
    refine BOk.yes rfl [9] [] rfl 7 false rfl rfl rfl (by kernel_rfl) (by kernel_rfl) (by kernel_rfl) (fun qK qa wr hB qO qF hK => ?_) ?_
    · obtain ⟨u57, e57, r9⟩ := qF.1
      have e57 : qa.tmps[57]? = some (.int .i64 b) := (show u57 = .int .i64 b from r9) ▸ e57
      clear r9
      clear qO qF
      go_simp
      go_at_call 24
      refine (num_any b _).mono ?_
      rintro e w2 ⟨rfl, hb2⟩
      exact hK _ _ hb2 rfl
    refine BOk.yes rfl [8, 10] [] rfl 7 false rfl rfl rfl (by kernel_rfl) (by kernel_rfl) (by kernel_rfl) (fun qK qa wr hB qO qF hK => ?_) ?_
    · obtain ⟨u56, e56, r8⟩ := qF.1
      have e56 : qa.tmps[56]? = some (.agg #[.int .i64 1, .int .u64 (un (a * b))]) := (show u56 = .agg #[.int .i64 1, .int .u64 (un (a * b))] from r8) ▸ e56
      clear r8
      obtain ⟨u58, e58, r10⟩ := qF.2.1
      have e58 : qa.tmps[58]? = some (.agg #[.int .i64 1, .int .u64 (un b)]) := (show u58 = .agg #[.int .i64 1, .int .u64 (un b)] from r10) ▸ e58
      clear r10
      clear qO qF
      go_simp
      exact hK _ _ ((Below.refl _ _).alloc (Nat.le_refl _) _) ⟨_, rfl, Bk.new _ _ _⟩
    refine BOk.yes rfl [11] [] rfl 7 false rfl rfl rfl (by kernel_rfl) (by kernel_rfl) (by kernel_rfl) (fun qK qa wr hB qO qF hK => ?_) ?_
    · obtain ⟨u59, e59, r11⟩ := qF.1
      obtain ⟨g59, h59, k59⟩ := (show ∃ g, u59 = .slice (some ⟨g, 0, none⟩) 2 2 ∧ Bk wr g 24 #[.int .i64 1, .int .u64 (un (a * b)), .int .i64 1, .int .u64 (un b)] from r11)
      subst h59
      have e59 : qa.tmps[59]? = some (.slice (some ⟨g59, 0, none⟩) 2 2) := e59
      clear qO qF
      go_simp
      go_at_call 23
      refine (do_bk 4 [(intV (a * b)), (intV b)] _ _ k59 rfl (by intro q hq; simp only [List.mem_cons, List.not_mem_nil, or_false] at hq; rcases hq with rfl | rfl; exact intV_fits _; exact intV_fits b) (by simp)).mono ?_
      rintro e w2 ⟨rfl, hb2⟩
      rw [e4]
      exact hK _ _ hb2 rfl
    refine BOk.yes rfl [] [0] rfl 7 false rfl rfl rfl (by kernel_rfl) (by kernel_rfl) (by kernel_rfl) (fun qK qa wr hB qO qF hK => ?_) ?_
    · have e0 : qa.tmps[0]? = some (.int .i64 a) := qO.1.trans rfl
      clear qO qF
      go_simp
      exact hK _ _ (Below.refl _ _) rfl
    refine BOk.yes rfl [13] [] rfl 7 false rfl rfl rfl (by kernel_rfl) (by kernel_rfl) (by kernel_rfl) (fun qK qa wr hB qO qF hK => ?_) ?_
    · obtain ⟨u61, e61, r13⟩ := qF.1
      have e61 : qa.tmps[61]? = some (.int .i64 a) := (show u61 = .int .i64 a from r13) ▸ e61
      clear r13
      clear qO qF
      go_simp
      go_at_call 24
      refine (num_any a _).mono ?_
      rintro e w2 ⟨rfl, hb2⟩
      exact hK _ _ hb2 rfl
    refine BOk.yes rfl [12, 14] [] rfl 7 false rfl rfl rfl (by kernel_rfl) (by kernel_rfl) (by kernel_rfl) (fun qK qa wr hB qO qF hK => ?_) ?_
    · obtain ⟨u60, e60, r12⟩ := qF.1
      have e60 : qa.tmps[60]? = some (.agg #[.int .i64 1, .int .u64 (un a)]) := (show u60 = .agg #[.int .i64 1, .int .u64 (un a)] from r12) ▸ e60
      clear r12
      obtain ⟨u62, e62, r14⟩ := qF.2.1
      have e62 : qa.tmps[62]? = some (.agg #[.int .i64 1, .int .u64 (un a)]) := (show u62 = .agg #[.int .i64 1, .int .u64 (un a)] from r14) ▸ e62
      clear r14
      clear qO qF
      go_simp
      exact hK _ _ (Below.refl _ _) (show (_ : Value) = _ from by first | rfl | simp)
    refine BOk.yes rfl [15] [] rfl 7 false rfl rfl rfl (by kernel_rfl) (by kernel_rfl) (by kernel_rfl) (fun qK qa wr hB qO qF hK => ?_) ?_
    · obtain ⟨u63, e63, r15⟩ := qF.1
      have e63 : qa.tmps[63]? = some (.bool true) := (show u63 = .bool true from r15) ▸ e63
      clear r15
      clear qO qF
      go_simp
      exact hK _ _ (Below.refl _ _) rfl
    refine BOk.yes rfl [] [6] rfl 16 true rfl rfl rfl (by kernel_rfl) (by kernel_rfl) (by kernel_rfl) (fun qK qa wr hB qO qF hK => ?_) ?_
    · have e6 : qa.tmps[6]? = some (.pointer (some ⟨g6, 0, none⟩)) := qO.1.trans rfl
      clear qO qF
      have hc60 := (bcell hB _ _ (World.block_lt_of_cell? _ _ c60)).trans c60
      have hc61 := (bcell hB _ _ (World.block_lt_of_cell? _ _ c61)).trans c61
      go_simp
      exact hK _ _ (Below.refl _ _) rfl
    refine BOk.yes rfl [] [1] rfl 16 true rfl rfl rfl (by kernel_rfl) (by kernel_rfl) (by kernel_rfl) (fun qK qa wr hB qO qF hK => ?_) ?_
    · have e1 : qa.tmps[1]? = some (.int .i64 b) := qO.1.trans rfl
      clear qO qF
      go_simp
      exact hK _ _ (Below.refl _ _) rfl
    refine BOk.yes rfl [18] [] rfl 16 true rfl rfl rfl (by kernel_rfl) (by kernel_rfl) (by kernel_rfl) (fun qK qa wr hB qO qF hK => ?_) ?_
    · obtain ⟨u66, e66, r18⟩ := qF.1
      have e66 : qa.tmps[66]? = some (.int .i64 b) := (show u66 = .int .i64 b from r18) ▸ e66
      clear r18
      clear qO qF
      go_simp
      go_at_call 24
      refine (num_any b _).mono ?_
      rintro e w2 ⟨rfl, hb2⟩
      exact hK _ _ hb2 rfl
    refine BOk.yes rfl [17, 19] [] rfl 16 true rfl rfl rfl (by kernel_rfl) (by kernel_rfl) (by kernel_rfl) (fun qK qa wr hB qO qF hK => ?_) ?_
    · obtain ⟨u65, e65, r17⟩ := qF.1
      have e65 : qa.tmps[65]? = some (.agg #[.int .i64 1, .int .u64 (un (a * b))]) := (show u65 = .agg #[.int .i64 1, .int .u64 (un (a * b))] from r17) ▸ e65
      clear r17
      obtain ⟨u67, e67, r19⟩ := qF.2.1
      have e67 : qa.tmps[67]? = some (.agg #[.int .i64 1, .int .u64 (un b)]) := (show u67 = .agg #[.int .i64 1, .int .u64 (un b)] from r19) ▸ e67
      clear r19
      clear qO qF
      go_simp
      exact hK _ _ ((Below.refl _ _).alloc (Nat.le_refl _) _) ⟨_, rfl, Bk.new _ _ _⟩
    refine BOk.yes rfl [20] [] rfl 16 true rfl rfl rfl (by kernel_rfl) (by kernel_rfl) (by kernel_rfl) (fun qK qa wr hB qO qF hK => ?_) ?_
    · obtain ⟨u68, e68, r20⟩ := qF.1
      obtain ⟨g68, h68, k68⟩ := (show ∃ g, u68 = .slice (some ⟨g, 0, none⟩) 2 2 ∧ Bk wr g 24 #[.int .i64 1, .int .u64 (un (a * b)), .int .i64 1, .int .u64 (un b)] from r20)
      subst h68
      have e68 : qa.tmps[68]? = some (.slice (some ⟨g68, 0, none⟩) 2 2) := e68
      clear qO qF
      go_simp
      go_at_call 23
      refine (do_bk 5 [(intV (a * b)), (intV b)] _ _ k68 rfl (by intro q hq; simp only [List.mem_cons, List.not_mem_nil, or_false] at hq; rcases hq with rfl | rfl; exact intV_fits _; exact intV_fits b) (by simp)).mono ?_
      rintro e w2 ⟨rfl, hb2⟩
      rw [e5]
      exact hK _ _ hb2 rfl
    refine BOk.yes rfl [] [] rfl 16 true rfl rfl rfl (by kernel_rfl) (by kernel_rfl) (by kernel_rfl) (fun qK qa wr hB qO qF hK => ?_) ?_
    · clear qO qF
      go_simp
      go_at_call 24
      refine (num_any 0 _).mono ?_
      rintro e w2 ⟨rfl, hb2⟩
      exact hK _ _ hb2 rfl
    refine BOk.yes rfl [21, 22] [] rfl 16 true rfl rfl rfl (by kernel_rfl) (by kernel_rfl) (by kernel_rfl) (fun qK qa wr hB qO qF hK => ?_) ?_
    · obtain ⟨u69, e69, r21⟩ := qF.1
      have e69 : qa.tmps[69]? = some (.agg #[.int .i64 1, .int .u64 (un 0)]) := (show u69 = .agg #[.int .i64 1, .int .u64 (un 0)] from r21) ▸ e69
      clear r21
      obtain ⟨u70, e70, r22⟩ := qF.2.1
      have e70 : qa.tmps[70]? = some (.agg #[.int .i64 1, .int .u64 (un 0)]) := (show u70 = .agg #[.int .i64 1, .int .u64 (un 0)] from r22) ▸ e70
      clear r22
      clear qO qF
      go_simp
      exact hK _ _ (Below.refl _ _) (show (_ : Value) = _ from by first | rfl | simp)
    refine BOk.yes rfl [16, 23] [] rfl 7 false rfl rfl rfl (by kernel_rfl) (by kernel_rfl) (by kernel_rfl) (fun qK qa wr hB qO qF hK => ?_) ?_
    · obtain ⟨u64, e64, r16⟩ := qF.1
      have e64 : qa.tmps[64]? = some (.bool true) := (show u64 = .bool true from r16) ▸ e64
      clear r16
      obtain ⟨u71, e71, r23⟩ := qF.2.1
      have e71 : qa.tmps[71]? = some (.bool true) := (show u71 = .bool true from r23) ▸ e71
      clear r23
      clear qO qF
      go_simp
      exact hK _ _ (Below.refl _ _) (show (_ : Value) = _ from by first | rfl | simp)
    refine BOk.cons rfl [7, 24] [] rfl rfl (by kernel_rfl) (by kernel_rfl) (fun qK qa wr hB qO qF hK => ?_) ?_
    · obtain ⟨u55, e55, r7⟩ := qF.1
      have e55 : qa.tmps[55]? = some (.bool false) := (show u55 = .bool false from r7) ▸ e55
      clear r7
      obtain ⟨u72, e72, r24⟩ := qF.2.1
      have e72 : qa.tmps[72]? = some (.bool true) := (show u72 = .bool true from r24) ▸ e72
      clear r24
      clear qO qF
      go_simp
      exact hK _ _ (Below.refl _ _) (show (_ : Value) = _ from by first | rfl | simp)
    refine BOk.cons rfl [25] [] rfl rfl (by kernel_rfl) (by kernel_rfl) (fun qK qa wr hB qO qF hK => ?_) ?_
    · obtain ⟨u73, e73, r25⟩ := qF.1
      have e73 : qa.tmps[73]? = some (.bool true) := (show u73 = .bool true from r25) ▸ e73
      clear r25
      clear qO qF
      go_simp
      exact hK _ _ (Below.refl _ _) rfl
    exact BOk.nil
  intro vals wr hl hB hR
  match vals, hl with
  | [y48, y49, y50, y51, y52, y53, y54, y55, y56, y57, y58, y59, y60, y61, y62, y63, y64, y65, y66, y67, y68, y69, y70, y71, y72, y73, y4], _ =>
  have r26 : y4 = .bool true := hR 26 _ rfl
  subst r26
  clear hR
  simp only [putAll, Act.put, List.setIfInBounds_toArray, List.set_cons_zero, List.set_cons_succ]
  go_wp2_with fail
  go_ret
  exact ⟨rfl, hbW.trans (hB.mono hbW.size)⟩

theorem walk (a b : Int) (w : World) (ha : (Lit.int .i64 a).wf = true) (hb : (Lit.int .i64 b).wf = true) :
    Calls Try.prog 9 #[.int .i64 a, .int .i64 b] w fun e w' => e = .returned (.bool true) ∧ Below w.heap.size w w' := by
  have ha := I64_wf ha
  have hb := I64_wf hb
  by_cases h0 : b = 0
  · subst h0
    cases hs : (fitI (a + 0)).isSome
    · exact walk_5 a ha hs w
    · exact walk_2 a ha hs w
  cases hs : (fitI (a + b)).isSome <;> cases hp : (fitI (a * b)).isSome
  · exact walk_4 a b ha hb hs hp w
  · exact walk_6 a b ha hb hs hp h0 w
  · exact walk_1 a b ha hb hs hp w
  · exact walk_3 a b ha hb hs hp h0 w

theorem own : ownKnob Try.prog.godebug = none := by kernel_rfl
theorem laidOut : laidOutB Try.prog = true := by kernel_rfl
theorem rec0 : (Try.f9.params.toList.all fun t => Try.prog.readableRec t && decide (t < Try.prog.types.size)) = true := by kernel_rfl
set_option maxRecDepth 100000 in
theorem lifted (os : Os) (started : os.Started) (H : Type) (enc : TypeId × Value → H) :
    ReturnsInHanded {} Try.checked os 9 .any (Rows.valueBackSpec.pre6 enc Try.prog Try.f9 Rows.valueBackRow.domain false) (Rows.valueBackSpec.post enc Try.prog Try.f9 false true false false) := by
  refine law_step (C := Try.checked) (tb := 4) own started (by kernel_rfl) Try.func9
    (ChangeSpec.witness6 (enc := enc) (C := Try.checked) false ⟨#[], #[.int .i64 0, .int .i64 0], []⟩ 8 (by kernel_rfl) (by kernel_rfl) (by kernel_rfl) (by kernel_rfl)) laidOut ?_ rfl Try.underlying4 rfl ?_ ?_
  · intro t ht
    have := List.all_eq_true.1 rec0 t ht
    simp only [Bool.and_eq_true, decide_eq_true_eq] at this
    exact this
  · intro ds hd
    match ds, hd with
    | [d0, d1], _ => exact ⟨rfl, rfl, rfl⟩
  intro W base args ds p hval hA hsz
  rw [Try.params9] at hA hval hsz
  obtain ⟨v0, vs0, d0, ds0, p0, q0, hargs, rfl, rfl, h0, r0⟩ := trodAll_cons hA
  obtain ⟨v1, vs1, d1, ds1, p1, q1, rfl, rfl, rfl, h1, r1⟩ := trodAll_cons r0
  obtain ⟨rfl, rfl, rfl⟩ := trodAll_nil r1
  obtain rfl : args = #[v0, v1] := by cases args; simp_all
  obtain ⟨n0, rfl, _, _, hn0⟩ := open_int Try.underlying2 (hval 0 2 v0 rfl rfl) h0
  obtain ⟨n1, rfl, _, _, hn1⟩ := open_int Try.underlying2 (hval 1 2 v1 rfl rfl) h1
  exact walk n0 n1 W hn0 hn1

theorem valueBack_holds : Rows.ValueBackSaid :=
  OpenClaim.holds_of_wide 9 Try.f9 rfl rfl rfl rfl rfl rfl rfl ⟨rfl, rfl, rfl, rfl, rfl⟩ rfl rfl rfl rfl rfl (by kernel_rfl) Try.func9 (by kernel_rfl)
    (of_decide_eq_true (by kernel_rfl)) (by unfold Func.isWrapper; first | (rw [if_pos (by decide +kernel)]; kernel_rfl) | (rw [if_neg (by decide +kernel)]; exact ⟨rfl, rfl⟩))
    (fun os started H enc _ => lifted os started H enc)
#print axioms valueBack_holds
end Go.Proofs.Ytlejjchaooeabaa.valueBack
