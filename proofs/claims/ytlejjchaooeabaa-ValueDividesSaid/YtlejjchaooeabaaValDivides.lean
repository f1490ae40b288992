/- ValueDivides holds. No conditions. -/
import Derived.Test.YtlejjchaooeabaaValN
import Derived.Deep.DeepCutAuto
namespace Go.Proofs.Ytlejjchaooeabaa.valueDivides
open Go.ChangeShapes Go.WideShapes Go.ChangeAt Go.RowKit
open Go.ChangeMaps (open_string shut_string)
set_option linter.unusedSimpArgs false
set_option linter.unusedVariables false

theorem by_zero {a : Int} (ha : I64 a) : applyV 4 [intV a, intV 0] = none0 ∧ applyV 5 [intV a, intV 0] = none0 := by
  have h0 : I64 0 := by unfold I64; omega
  exact ⟨by rw [int_two 4 ha h0 (by omega)]; rfl, by rw [int_two 5 ha h0 (by omega)]; rfl⟩
theorem by_least : applyV 4 [intV (-9223372036854775808), intV (-1)] = none0 ∧ applyV 5 [intV (-9223372036854775808), intV (-1)] = intV 0 := by
  have h0 : I64 (-1) := by unfold I64; omega
  have h1 : I64 (-9223372036854775808) := by unfold I64; omega
  exact ⟨by rw [int_two 4 h1 h0 (by omega)]; simp [numV, fitI], by rw [int_two 5 h1 h0 (by omega)]; simp [numV]⟩
structure Divs (a b q x : Int) : Prop where
  a64 : I64 a
  b64 : I64 b
  q64 : I64 q
  x64 : I64 x
  p64 : I64 (q * b)
  b0 : b ≠ 0
  sum : q * b + x = a
  less : x.natAbs < b.natAbs
  neg : x < 0 → a < 0
  pos : 0 < x → 0 < a
  quo : numV 4 a b = some q
  rem : numV 5 a b = some x
theorem divs {a b : Int} (ha : I64 a) (hb : I64 b) (h0 : b ≠ 0) (h : ¬ (a = -9223372036854775808 ∧ b = -1)) : ∃ q x, Divs a b q x := by
  have ha' := ha
  have hb' := hb
  unfold I64 at ha' hb'
  by_cases hm : b = -1
  · subst hm
    refine ⟨-a, 0, ha, hb, ?_, ?_, ?_, h0, ?_, ?_, ?_, ?_, ?_, ?_⟩
    · unfold I64; omega
    · unfold I64; omega
    · unfold I64; omega
    · omega
    · decide
    · omega
    · omega
    · simp [numV]; exact fit_in (by omega) (by omega)
    · simp [numV]
  · have h1 : b * a.tdiv b + a.tmod b = a := Int.mul_tdiv_add_tmod a b
    have h2 : (a.tmod b).natAbs < b.natAbs := by
      rw [Int.natAbs_tmod]; exact Nat.mod_lt _ (by omega)
    have h3 : (a.tdiv b).natAbs ≤ a.natAbs := by rw [Int.natAbs_tdiv]; exact Nat.div_le_self _ _
    have hs : (a.tmod b < 0 → a < 0) ∧ (0 < a.tmod b → 0 < a) := by
      constructor
      · intro hx
        rcases Int.lt_or_le a 0 with hl | hl
        · exact hl
        · have := Int.tmod_nonneg b hl; omega
      · intro hx
        rcases Int.lt_or_le 0 a with hl | hl
        · exact hl
        · have h5 := Int.tmod_nonneg b (show 0 ≤ -a by omega); rw [Int.neg_tmod] at h5; omega
    have hp : (a.tdiv b * b).natAbs ≤ a.natAbs := by
      rw [Int.natAbs_mul, Int.natAbs_tdiv]; exact Nat.div_mul_le_self _ _
    refine ⟨a.tdiv b, a.tmod b, ha, hb, ?_, ?_, ?_, h0, ?_, h2, hs.1, hs.2, ?_, ?_⟩
    · have h9 : a.natAbs ≠ 9223372036854775808 ∨ (a.tdiv b).natAbs < 9223372036854775808 ∨ (a.tdiv b) < 0 ∨ b = 1 := by
        by_cases hb1 : b = 1
        · exact .inr (.inr (.inr hb1))
        by_cases hz : a.natAbs = 9223372036854775808
        · refine .inr (.inl ?_)
          rw [Int.natAbs_tdiv, hz]
          exact Nat.div_lt_self (by omega) (by omega)
        · exact .inl hz
      unfold I64
      rcases h9 with h9 | h9 | h9 | h9
      · omega
      · omega
      · omega
      · subst h9; rw [Int.tdiv_one]; omega
    · unfold I64; omega
    · have : a.tdiv b * b = a - a.tmod b := by rw [Int.mul_comm]; omega
      unfold I64
      by_cases hx : a.tmod b < 0
      · have := hs.1 hx; omega
      · by_cases hy : 0 < a.tmod b
        · have := hs.2 hy; omega
        · omega
    · rw [Int.mul_comm]; exact h1
    · simp [numV, h0, hm]
    · simp [numV, h0, hm]
theorem Divs.four {a b q x : Int} (h : Divs a b q x) : applyV 4 [intV a, intV b] = intV q := by rw [int_two 4 h.a64 h.b64 (by omega), h.quo]; rfl
theorem Divs.five {a b q x : Int} (h : Divs a b q x) : applyV 5 [intV a, intV b] = intV x := by rw [int_two 5 h.a64 h.b64 (by omega), h.rem]; rfl
theorem Divs.back {a b q x : Int} (h : Divs a b q x) : applyV 3 [intV q, intV b] = intV (q * b) := by
  rw [int_two 3 h.q64 h.b64 (by omega)]; simp [numV, I64_fit h.p64]
theorem Divs.whole {a b q x : Int} (h : Divs a b q x) : applyV 1 [intV (q * b), intV x] = intV a := by
  rw [int_two 1 h.p64 h.x64 (by omega)]; simp [numV, h.sum, I64_fit h.a64]
theorem rtruth_any (b : Bool) (w : World) : Calls Try.prog 25 #[.bool b] w fun e w' => e = .returned (.agg #[.int .i64 2, .int .u64 (yesV b).b]) ∧ Below w.heap.size w w' := by
  cases b
  · go_enter Try.func25, Try.ntmps25
    go_wp2
    exact bodyPost_ret (v := .agg #[.int .i64 2, .int .u64 0]) (by simp [results, Try.results25, go_sem]) rfl ⟨rfl, by repeat (first | exact Below.refl _ _ | refine Below.alloc ?_ (by simp) _)⟩
  · go_enter Try.func25, Try.ntmps25
    go_wp2
    exact bodyPost_ret (v := .agg #[.int .i64 2, .int .u64 1]) (by simp [results, Try.results25, go_sem]) rfl ⟨rfl, by repeat (first | exact Below.refl _ _ | refine Below.alloc ?_ (by simp) _)⟩
theorem less_of (n : Int) (h : I64 n) : applyV 9 [intV n, intV 0] = yesV (decide (n < 0)) := by
  rw [int_cmp 9 h (by unfold I64; omega) (by omega)]
  rfl
set_option maxRecDepth 100000 in
set_option maxHeartbeats 4000000 in
theorem walk_zero (a : Int) (ha : I64 a) (w : World) :
    Calls Try.prog 10 #[.int .i64 a, .int .i64 0] w fun e w' => e = .returned (.bool true) ∧ Below w.heap.size w w' := by
  obtain ⟨e4, e5⟩ := by_zero ha
  have E4 := Lib.hid e4; have E5 := Lib.hid e5
  clear e4 e5
  go_enter Try.func10, Try.ntmps10
  go_wp2_with fail
  refine (awake_any _).mono ?_
  rintro e w1 ⟨rfl, hb1⟩
  go_wp2_with fail
  refine (num_any a _).mono ?_
  rintro e w2 ⟨rfl, hb2⟩
  have hbel := hb1.trans (hb2.mono hb1.size)
  clear hb1 hb2
  go_wp2_with fail
  refine (num_any 0 _).mono ?_
  rintro e w3 ⟨rfl, hb3⟩
  have hbel := hbel.trans (hb3.mono hbel.size)
  clear hb3
  simp only [intV, V.v]
  go_wp2_with fail
  refine (do2 4 (intV a) (intV 0) (intV_fits _) (intV_fits _) w3).mono ?_
  rintro e w4 ⟨rfl, hb4⟩
  have hbel : Below w.heap.size w w4 := hbel.trans (hb4.mono hbel.size)
  clear hb4
  rw [E4.out]
  go_wp2_with fail
  refine (num_any a _).mono ?_
  rintro e w5 ⟨rfl, hb5⟩
  have hbel := hbel.trans (hb5.mono hbel.size)
  clear hb5
  go_wp2_with fail
  refine (num_any 0 _).mono ?_
  rintro e w6 ⟨rfl, hb6⟩
  have hbel := hbel.trans (hb6.mono hbel.size)
  clear hb6
  simp only [intV, V.v]
  go_wp2_with fail
  refine (do2 5 (intV a) (intV 0) (intV_fits _) (intV_fits _) w6).mono ?_
  rintro e w7 ⟨rfl, hb7⟩
  have hbel : Below w.heap.size w w7 := hbel.trans (hb7.mono hbel.size)
  clear hb7
  rw [E5.out]
  simp only [intV, none0]
  have hz := hbel.size
  go_wp2_with fail
  go_ret
  exact ⟨rfl, by repeat (first | exact hbel | refine Below.alloc ?_ (by first | exact hz | (simp; omega)) _)⟩

def divR7 (g6 : Nat) : List Spec := [.is (.int .i64 (-9223372036854775808)),
  .is (.bool true),
  .is (.bool true),
  .is (.int .i64 (-1)),
  .is (.bool true),
  .is (.bool true),
  .is (.bool true),
  .is (.agg #[.int .i64 1, .int .u64 (un 0)]),
  .is (.agg #[.int .i64 1, .int .u64 (un 0)]),
  .is (.bool true),
  .is (.bool true),
  .is (.bool true)]
set_option maxRecDepth 100000 in
set_option maxHeartbeats 4000000 in
theorem walk_least   (w : World) :
    Calls Try.prog 10 #[.int .i64 (-9223372036854775808), .int .i64 (-1)] w fun e w' => e = .returned (.bool true) ∧ Below w.heap.size w w' := by
  obtain ⟨e4, e5⟩ := by_least
  have E4 := Lib.hid e4; have E5 := Lib.hid e5
  clear e4 e5
  go_enter Try.func10, Try.ntmps10
  go_wp2_with fail
  refine (awake_any _).mono ?_
  rintro e w1 ⟨rfl, hb1⟩
  go_wp2_with fail
  refine (num_any (-9223372036854775808) _).mono ?_
  rintro e w2 ⟨rfl, hb2⟩
  have hbel := hb1.trans (hb2.mono hb1.size)
  clear hb1 hb2
  go_wp2_with fail
  refine (num_any (-1) _).mono ?_
  rintro e w3 ⟨rfl, hb3⟩
  have hbel := hbel.trans (hb3.mono hbel.size)
  clear hb3
  simp only [intV, V.v]
  go_wp2_with fail
  refine (do2 4 (intV (-9223372036854775808)) (intV (-1)) (intV_fits _) (intV_fits _) w3).mono ?_
  rintro e w4 ⟨rfl, hb4⟩
  have hbel : Below w.heap.size w w4 := hbel.trans (hb4.mono hbel.size)
  clear hb4
  rw [E4.out]
  go_wp2_with fail
  refine (num_any (-9223372036854775808) _).mono ?_
  rintro e w5 ⟨rfl, hb5⟩
  have hbel := hbel.trans (hb5.mono hbel.size)
  clear hb5
  go_wp2_with fail
  refine (num_any (-1) _).mono ?_
  rintro e w6 ⟨rfl, hb6⟩
  have hbel := hbel.trans (hb6.mono hbel.size)
  clear hb6
  simp only [intV, V.v]
  go_wp2_with fail
  refine (do2 5 (intV (-9223372036854775808)) (intV (-1)) (intV_fits _) (intV_fits _) w6).mono ?_
  rintro e w7 ⟨rfl, hb7⟩
  have hbel : Below w.heap.size w w7 := hbel.trans (hb7.mono hbel.size)
  clear hb7
  rw [E5.out]
  simp only [intV, none0]
  have hz := hbel.size
  go_upto_region 4 with fail
  refine wp_abs (fun W => Below w.heap.size w W ∧ Bk W w7.heap.size 24 #[.int .i64 0, .int .u64 0] ∧ Bk W (w7.heap.size + 1) 24 #[.int .i64 1, .int .u64 (un 0)]) ?_ ?_
  · exact ⟨(hbel.alloc hz _).alloc (by simp; omega) _, (Bk.newAt rfl _ _).alloc _, Bk.newAt (by first | rfl | simp) _ _⟩
  rintro W ⟨hbW, k5, k6⟩
  generalize w7.heap.size + 1 = g6 at *
  generalize w7.heap.size = g5 at *
  clear hbel hz
  have ⟨c50, c51, _, _⟩ := vcells k5
  have ⟨c60, c61, _, _⟩ := vcells k6
  go_wp2_with fail
  refine wp_region_b (by kernel_rfl) (fun k => (divR7 g6).getD k .any) (by kernel_rfl) ?_ ?_
  · refine BOk.cons rfl [] [0] rfl rfl (by kernel_rfl) (by kernel_rfl) (fun qK qa wr hB qO qF hK => ?_) ?_
    · have e0 : qa.tmps[0]? = some (.int .i64 (-9223372036854775808)) := qO.1.trans rfl
      clear qO qF
      go_simp
      exact hK _ _ (Below.refl _ _) rfl
    refine BOk.cons rfl [0] [] rfl rfl (by kernel_rfl) (by kernel_rfl) (fun qK qa wr hB qO qF hK => ?_) ?_
    · obtain ⟨u35, e35, r0⟩ := qF.1
      have e35 : qa.tmps[35]? = some (.int .i64 (-9223372036854775808)) := (show u35 = .int .i64 (-9223372036854775808) from r0) ▸ e35
      clear r0
      clear qO qF
      go_simp
      exact hK _ _ (Below.refl _ _) (show (_ : Value) = _ from by first | rfl | (simp; done) | (simp; omega))
    refine BOk.cons rfl [1] [] rfl rfl (by kernel_rfl) (by kernel_rfl) (fun qK qa wr hB qO qF hK => ?_) ?_
    · obtain ⟨u36, e36, r1⟩ := qF.1
      have e36 : qa.tmps[36]? = some (.bool true) := (show u36 = .bool true from r1) ▸ e36
      clear r1
      clear qO qF
      go_simp
      exact hK _ _ (Below.refl _ _) rfl
    refine BOk.yes rfl [] [1] rfl 2 true rfl rfl rfl (by kernel_rfl) (by kernel_rfl) (by kernel_rfl) (fun qK qa wr hB qO qF hK => ?_) ?_
    · have e1 : qa.tmps[1]? = some (.int .i64 (-1)) := qO.1.trans rfl
      clear qO qF
      go_simp
      exact hK _ _ (Below.refl _ _) rfl
    refine BOk.yes rfl [3] [] rfl 2 true rfl rfl rfl (by kernel_rfl) (by kernel_rfl) (by kernel_rfl) (fun qK qa wr hB qO qF hK => ?_) ?_
    · obtain ⟨u38, e38, r3⟩ := qF.1
      have e38 : qa.tmps[38]? = some (.int .i64 (-1)) := (show u38 = .int .i64 (-1) from r3) ▸ e38
      clear r3
      clear qO qF
      go_simp
      exact hK _ _ (Below.refl _ _) (show (_ : Value) = _ from by first | rfl | (simp; done) | (simp; omega))
    refine BOk.cons rfl [2, 4] [] rfl rfl (by kernel_rfl) (by kernel_rfl) (fun qK qa wr hB qO qF hK => ?_) ?_
    · obtain ⟨u37, e37, r2⟩ := qF.1
      have e37 : qa.tmps[37]? = some (.bool true) := (show u37 = .bool true from r2) ▸ e37
      clear r2
      obtain ⟨u39, e39, r4⟩ := qF.2.1
      have e39 : qa.tmps[39]? = some (.bool true) := (show u39 = .bool true from r4) ▸ e39
      clear r4
      clear qO qF
      go_simp
      exact hK _ _ (Below.refl _ _) (show (_ : Value) = _ from by first | rfl | (simp; done) | (simp; omega))
    refine BOk.cons rfl [5] [] rfl rfl (by kernel_rfl) (by kernel_rfl) (fun qK qa wr hB qO qF hK => ?_) ?_
    · obtain ⟨u40, e40, r5⟩ := qF.1
      have e40 : qa.tmps[40]? = some (.bool true) := (show u40 = .bool true from r5) ▸ e40
      clear r5
      clear qO qF
      go_simp
      exact hK _ _ (Below.refl _ _) rfl
    refine BOk.yes rfl [] [6] rfl 6 true rfl rfl rfl (by kernel_rfl) (by kernel_rfl) (by kernel_rfl) (fun qK qa wr hB qO qF hK => ?_) ?_
    · have e6 : qa.tmps[6]? = some (.pointer (some ⟨g6, 0, none⟩)) := qO.1.trans rfl
      clear qO qF
      have hc60 := (bcell hB _ _ (World.block_lt_of_cell? _ _ c60)).trans c60
      have hc61 := (bcell hB _ _ (World.block_lt_of_cell? _ _ c61)).trans c61
      go_simp
      exact hK _ _ (Below.refl _ _) rfl
    refine BOk.yes rfl [] [] rfl 6 true rfl rfl rfl (by kernel_rfl) (by kernel_rfl) (by kernel_rfl) (fun qK qa wr hB qO qF hK => ?_) ?_
    · clear qO qF
      go_simp
      go_at_call 24
      refine (num_any 0 _).mono ?_
      rintro e w2 ⟨rfl, hb2⟩
      exact hK _ _ hb2 rfl
    refine BOk.yes rfl [7, 8] [] rfl 6 true rfl rfl rfl (by kernel_rfl) (by kernel_rfl) (by kernel_rfl) (fun qK qa wr hB qO qF hK => ?_) ?_
    · obtain ⟨u42, e42, r7⟩ := qF.1
      have e42 : qa.tmps[42]? = some (.agg #[.int .i64 1, .int .u64 (un 0)]) := (show u42 = .agg #[.int .i64 1, .int .u64 (un 0)] from r7) ▸ e42
      clear r7
      obtain ⟨u43, e43, r8⟩ := qF.2.1
      have e43 : qa.tmps[43]? = some (.agg #[.int .i64 1, .int .u64 (un 0)]) := (show u43 = .agg #[.int .i64 1, .int .u64 (un 0)] from r8) ▸ e43
      clear r8
      clear qO qF
      go_simp
      exact hK _ _ (Below.refl _ _) (show (_ : Value) = _ from by first | rfl | (simp; done) | (simp; omega))
    refine BOk.cons rfl [6, 9] [] rfl rfl (by kernel_rfl) (by kernel_rfl) (fun qK qa wr hB qO qF hK => ?_) ?_
    · obtain ⟨u41, e41, r6⟩ := qF.1
      have e41 : qa.tmps[41]? = some (.bool true) := (show u41 = .bool true from r6) ▸ e41
      clear r6
      obtain ⟨u44, e44, r9⟩ := qF.2.1
      have e44 : qa.tmps[44]? = some (.bool true) := (show u44 = .bool true from r9) ▸ e44
      clear r9
      clear qO qF
      go_simp
      exact hK _ _ (Below.refl _ _) (show (_ : Value) = _ from by first | rfl | (simp; done) | (simp; omega))
    refine BOk.cons rfl [10] [] rfl rfl (by kernel_rfl) (by kernel_rfl) (fun qK qa wr hB qO qF hK => ?_) ?_
    · obtain ⟨u45, e45, r10⟩ := qF.1
      have e45 : qa.tmps[45]? = some (.bool true) := (show u45 = .bool true from r10) ▸ e45
      clear r10
      clear qO qF
      go_simp
      exact hK _ _ (Below.refl _ _) rfl
    exact BOk.nil
  intro vals wr hl hB hR
  match vals, hl with
  | [x35, x36, x37, x38, x39, x40, x41, x42, x43, x44, x45, x4], _ =>
  have r11 : x4 = .bool true := hR 11 _ rfl
  subst r11
  clear hR
  simp only [putAll, Act.put, List.setIfInBounds_toArray, List.set_cons_zero, List.set_cons_succ]
  go_wp2_with fail
  go_ret
  exact ⟨rfl, hbW.trans (hB.mono hbW.size)⟩

def divR9_neg (a b q x : Int) (g5 g6 : Nat) : List Spec := [.is (.pointer (some ⟨g6, 0, none⟩)),
  .is (.int .i64 1),
  .is (.bool false),
  .is (.bool false),
  .is (.agg #[.int .i64 1, .int .u64 (un q)]),
  .is (.int .i64 b),
  .is (.agg #[.int .i64 1, .int .u64 (un b)]),
  .st (fun v w => ∃ g, v = .slice (some ⟨g, 0, none⟩) 2 2 ∧ Bk w g 24 #[.int .i64 1, .int .u64 (un q), .int .i64 1, .int .u64 (un b)]) (fun _ _ _ hb ⟨g, h1, h2⟩ => ⟨g, h1, h2.old hb⟩),
  .is (.agg #[.int .i64 1, .int .u64 (un (q * b))]),
  .is (.agg #[.int .i64 1, .int .u64 (un x)]),
  .st (fun v w => ∃ g, v = .slice (some ⟨g, 0, none⟩) 2 2 ∧ Bk w g 24 #[.int .i64 1, .int .u64 (un (q * b)), .int .i64 1, .int .u64 (un x)]) (fun _ _ _ hb ⟨g, h1, h2⟩ => ⟨g, h1, h2.old hb⟩),
  .is (.agg #[.int .i64 1, .int .u64 (un a)]),
  .is (.int .i64 a),
  .is (.agg #[.int .i64 1, .int .u64 (un a)]),
  .is (.bool false),
  .is (.bool false),
  .is (.bool false),
  .is (.int .i64 x),
  .is (.bool true),
  .is (.bool true),
  .is (.int .i64 a),
  .is (.bool false),
  .is (.bool false),
  .is (.bool false),
  .is (.bool false),
  .is (.int .i64 x),
  .is (.bool false),
  .is (.bool false),
  .is (undef),
  .is (undef),
  .is (.bool false),
  .is (.bool false)]
set_option maxRecDepth 100000 in
set_option maxHeartbeats 4000000 in
theorem walk_neg (a b q x : Int) (h : Divs a b q x) (hx : x < 0) (w : World) :
    Calls Try.prog 10 #[.int .i64 a, .int .i64 b] w fun e w' => e = .returned (.bool true) ∧ Below w.heap.size w w' := by
  have E4 := Lib.hid h.four; have E5 := Lib.hid h.five; have E3 := Lib.hid h.back; have E1 := Lib.hid h.whole
  have hb0 : (b == 0) = false := beq_eq_false_iff_ne.2 h.b0
  have H := Lib.hid h
  have ha := h.neg hx
  clear h
  go_enter Try.func10, Try.ntmps10
  go_wp2_with fail
  refine (awake_any _).mono ?_
  rintro e w1 ⟨rfl, hb1⟩
  go_wp2_with fail
  refine (num_any a _).mono ?_
  rintro e w2 ⟨rfl, hb2⟩
  have hbel := hb1.trans (hb2.mono hb1.size)
  clear hb1 hb2
  go_wp2_with fail
  refine (num_any b _).mono ?_
  rintro e w3 ⟨rfl, hb3⟩
  have hbel := hbel.trans (hb3.mono hbel.size)
  clear hb3
  simp only [intV, V.v]
  go_wp2_with fail
  refine (do2 4 (intV a) (intV b) (intV_fits _) (intV_fits _) w3).mono ?_
  rintro e w4 ⟨rfl, hb4⟩
  have hbel : Below w.heap.size w w4 := hbel.trans (hb4.mono hbel.size)
  clear hb4
  rw [E4.out]
  go_wp2_with fail
  refine (num_any a _).mono ?_
  rintro e w5 ⟨rfl, hb5⟩
  have hbel := hbel.trans (hb5.mono hbel.size)
  clear hb5
  go_wp2_with fail
  refine (num_any b _).mono ?_
  rintro e w6 ⟨rfl, hb6⟩
  have hbel := hbel.trans (hb6.mono hbel.size)
  clear hb6
  simp only [intV, V.v]
  go_wp2_with fail
  refine (do2 5 (intV a) (intV b) (intV_fits _) (intV_fits _) w6).mono ?_
  rintro e w7 ⟨rfl, hb7⟩
  have hbel : Below w.heap.size w w7 := hbel.trans (hb7.mono hbel.size)
  clear hb7
  rw [E5.out]
  simp only [intV, none0]
  have hz := hbel.size
  go_upto_region 4 with fail
  refine wp_abs (fun W => Below w.heap.size w W ∧ Bk W w7.heap.size 24 #[.int .i64 1, .int .u64 (un q)] ∧ Bk W (w7.heap.size + 1) 24 #[.int .i64 1, .int .u64 (un x)]) ?_ ?_
  · exact ⟨(hbel.alloc hz _).alloc (by simp; omega) _, (Bk.newAt rfl _ _).alloc _, Bk.newAt (by first | rfl | simp) _ _⟩
  rintro W ⟨hbW, k5, k6⟩
  generalize w7.heap.size + 1 = g6 at *
  generalize w7.heap.size = g5 at *
  clear hbel hz
  have ⟨c50, c51, _, _⟩ := vcells k5
  have ⟨c60, c61, _, _⟩ := vcells k6
  go_wp2_with fail
  rw [un_back H.out.x64]
  have e3 := E3.out
  have e1 := E1.out
  refine wp_region_b (by kernel_rfl) (fun k => (divR9_neg a b q x g5 g6).getD k .any) (by kernel_rfl) ?_ ?_
  · refine BOk.cons rfl [] [6] rfl rfl (by kernel_rfl) (by kernel_rfl) (fun qK qa wr hB qO qF hK => ?_) ?_
    · have e6 : qa.tmps[6]? = some (.pointer (some ⟨g6, 0, none⟩)) := qO.1.trans rfl
      clear qO qF
      go_simp
      exact hK _ _ (Below.refl _ _) rfl
    refine BOk.cons rfl [0] [] rfl rfl (by kernel_rfl) (by kernel_rfl) (fun qK qa wr hB qO qF hK => ?_) ?_
    · obtain ⟨u49, e49, r0⟩ := qF.1
      have e49 : qa.tmps[49]? = some (.pointer (some ⟨g6, 0, none⟩)) := (show u49 = .pointer (some ⟨g6, 0, none⟩) from r0) ▸ e49
      clear r0
      clear qO qF
      have hc60 := (bcell hB _ _ (World.block_lt_of_cell? _ _ c60)).trans c60
      go_simp
      exact hK _ _ (Below.refl _ _) rfl
    refine BOk.cons rfl [1] [] rfl rfl (by kernel_rfl) (by kernel_rfl) (fun qK qa wr hB qO qF hK => ?_) ?_
    · obtain ⟨u50, e50, r1⟩ := qF.1
      have e50 : qa.tmps[50]? = some (.int .i64 1) := (show u50 = .int .i64 1 from r1) ▸ e50
      clear r1
      clear qO qF
      go_simp
      exact hK _ _ (Below.refl _ _) (show (_ : Value) = _ from by first | rfl | (simp; done) | (simp; omega))
    refine BOk.cons rfl [2] [] rfl rfl (by kernel_rfl) (by kernel_rfl) (fun qK qa wr hB qO qF hK => ?_) ?_
    · obtain ⟨u51, e51, r2⟩ := qF.1
      have e51 : qa.tmps[51]? = some (.bool false) := (show u51 = .bool false from r2) ▸ e51
      clear r2
      clear qO qF
      go_simp
      exact hK _ _ (Below.refl _ _) rfl
    refine BOk.yes rfl [] [5] rfl 3 false rfl rfl rfl (by kernel_rfl) (by kernel_rfl) (by kernel_rfl) (fun qK qa wr hB qO qF hK => ?_) ?_
    · have e5 : qa.tmps[5]? = some (.pointer (some ⟨g5, 0, none⟩)) := qO.1.trans rfl
      clear qO qF
      have hc50 := (bcell hB _ _ (World.block_lt_of_cell? _ _ c50)).trans c50
      have hc51 := (bcell hB _ _ (World.block_lt_of_cell? _ _ c51)).trans c51
      go_simp
      exact hK _ _ (Below.refl _ _) rfl
    refine BOk.yes rfl [] [1] rfl 3 false rfl rfl rfl (by kernel_rfl) (by kernel_rfl) (by kernel_rfl) (fun qK qa wr hB qO qF hK => ?_) ?_
    · have e1 : qa.tmps[1]? = some (.int .i64 b) := qO.1.trans rfl
      clear qO qF
      go_simp
      exact hK _ _ (Below.refl _ _) rfl
    refine BOk.yes rfl [5] [] rfl 3 false rfl rfl rfl (by kernel_rfl) (by kernel_rfl) (by kernel_rfl) (fun qK qa wr hB qO qF hK => ?_) ?_
    · obtain ⟨u54, e54, r5⟩ := qF.1
      have e54 : qa.tmps[54]? = some (.int .i64 b) := (show u54 = .int .i64 b from r5) ▸ e54
      clear r5
      clear qO qF
      go_simp
      go_at_call 24
      refine (num_any b _).mono ?_
      rintro e w2 ⟨rfl, hb2⟩
      exact hK _ _ hb2 rfl
    refine BOk.yes rfl [4, 6] [] rfl 3 false rfl rfl rfl (by kernel_rfl) (by kernel_rfl) (by kernel_rfl) (fun qK qa wr hB qO qF hK => ?_) ?_
    · obtain ⟨u53, e53, r4⟩ := qF.1
      have e53 : qa.tmps[53]? = some (.agg #[.int .i64 1, .int .u64 (un q)]) := (show u53 = .agg #[.int .i64 1, .int .u64 (un q)] from r4) ▸ e53
      clear r4
      obtain ⟨u55, e55, r6⟩ := qF.2.1
      have e55 : qa.tmps[55]? = some (.agg #[.int .i64 1, .int .u64 (un b)]) := (show u55 = .agg #[.int .i64 1, .int .u64 (un b)] from r6) ▸ e55
      clear r6
      clear qO qF
      go_simp
      exact hK _ _ ((Below.refl _ _).alloc (Nat.le_refl _) _) ⟨_, rfl, Bk.new _ _ _⟩
    refine BOk.yes rfl [7] [] rfl 3 false rfl rfl rfl (by kernel_rfl) (by kernel_rfl) (by kernel_rfl) (fun qK qa wr hB qO qF hK => ?_) ?_
    · obtain ⟨u56, e56, r7⟩ := qF.1
      obtain ⟨g56, h56, k56⟩ := (show ∃ g, u56 = .slice (some ⟨g, 0, none⟩) 2 2 ∧ Bk wr g 24 #[.int .i64 1, .int .u64 (un q), .int .i64 1, .int .u64 (un b)] from r7)
      subst h56
      have e56 : qa.tmps[56]? = some (.slice (some ⟨g56, 0, none⟩) 2 2) := e56
      clear qO qF
      go_simp
      go_at_call 23
      refine (do_bk 3 [(intV q), (intV b)] _ _ k56 rfl (by intro q hq; simp only [List.mem_cons, List.not_mem_nil, or_false] at hq; rcases hq with rfl | rfl; exact intV_fits q; exact intV_fits b) (by simp)).mono ?_
      rintro e w2 ⟨rfl, hb2⟩
      rw [e3]
      exact hK _ _ hb2 rfl
    refine BOk.yes rfl [] [6] rfl 3 false rfl rfl rfl (by kernel_rfl) (by kernel_rfl) (by kernel_rfl) (fun qK qa wr hB qO qF hK => ?_) ?_
    · have e6 : qa.tmps[6]? = some (.pointer (some ⟨g6, 0, none⟩)) := qO.1.trans rfl
      clear qO qF
      have hc60 := (bcell hB _ _ (World.block_lt_of_cell? _ _ c60)).trans c60
      have hc61 := (bcell hB _ _ (World.block_lt_of_cell? _ _ c61)).trans c61
      go_simp
      exact hK _ _ (Below.refl _ _) rfl
    refine BOk.yes rfl [8, 9] [] rfl 3 false rfl rfl rfl (by kernel_rfl) (by kernel_rfl) (by kernel_rfl) (fun qK qa wr hB qO qF hK => ?_) ?_
    · obtain ⟨u57, e57, r8⟩ := qF.1
      have e57 : qa.tmps[57]? = some (.agg #[.int .i64 1, .int .u64 (un (q * b))]) := (show u57 = .agg #[.int .i64 1, .int .u64 (un (q * b))] from r8) ▸ e57
      clear r8
      obtain ⟨u58, e58, r9⟩ := qF.2.1
      have e58 : qa.tmps[58]? = some (.agg #[.int .i64 1, .int .u64 (un x)]) := (show u58 = .agg #[.int .i64 1, .int .u64 (un x)] from r9) ▸ e58
      clear r9
      clear qO qF
      go_simp
      exact hK _ _ ((Below.refl _ _).alloc (Nat.le_refl _) _) ⟨_, rfl, Bk.new _ _ _⟩
    refine BOk.yes rfl [10] [] rfl 3 false rfl rfl rfl (by kernel_rfl) (by kernel_rfl) (by kernel_rfl) (fun qK qa wr hB qO qF hK => ?_) ?_
    · obtain ⟨u59, e59, r10⟩ := qF.1
      obtain ⟨g59, h59, k59⟩ := (show ∃ g, u59 = .slice (some ⟨g, 0, none⟩) 2 2 ∧ Bk wr g 24 #[.int .i64 1, .int .u64 (un (q * b)), .int .i64 1, .int .u64 (un x)] from r10)
      subst h59
      have e59 : qa.tmps[59]? = some (.slice (some ⟨g59, 0, none⟩) 2 2) := e59
      clear qO qF
      go_simp
      go_at_call 23
      refine (do_bk 1 [(intV (q * b)), (intV x)] _ _ k59 rfl (by intro q hq; simp only [List.mem_cons, List.not_mem_nil, or_false] at hq; rcases hq with rfl | rfl; exact intV_fits _; exact intV_fits _) (by simp)).mono ?_
      rintro e w2 ⟨rfl, hb2⟩
      rw [e1]
      exact hK _ _ hb2 rfl
    refine BOk.yes rfl [] [0] rfl 3 false rfl rfl rfl (by kernel_rfl) (by kernel_rfl) (by kernel_rfl) (fun qK qa wr hB qO qF hK => ?_) ?_
    · have e0 : qa.tmps[0]? = some (.int .i64 a) := qO.1.trans rfl
      clear qO qF
      go_simp
      exact hK _ _ (Below.refl _ _) rfl
    refine BOk.yes rfl [12] [] rfl 3 false rfl rfl rfl (by kernel_rfl) (by kernel_rfl) (by kernel_rfl) (fun qK qa wr hB qO qF hK => ?_) ?_
    · obtain ⟨u61, e61, r12⟩ := qF.1
      have e61 : qa.tmps[61]? = some (.int .i64 a) := (show u61 = .int .i64 a from r12) ▸ e61
      clear r12
      clear qO qF
      go_simp
      go_at_call 24
      refine (num_any a _).mono ?_
      rintro e w2 ⟨rfl, hb2⟩
      exact hK _ _ hb2 rfl
    refine BOk.yes rfl [11, 13] [] rfl 3 false rfl rfl rfl (by kernel_rfl) (by kernel_rfl) (by kernel_rfl) (fun qK qa wr hB qO qF hK => ?_) ?_
    · obtain ⟨u60, e60, r11⟩ := qF.1
      have e60 : qa.tmps[60]? = some (.agg #[.int .i64 1, .int .u64 (un a)]) := (show u60 = .agg #[.int .i64 1, .int .u64 (un a)] from r11) ▸ e60
      clear r11
      obtain ⟨u62, e62, r13⟩ := qF.2.1
      have e62 : qa.tmps[62]? = some (.agg #[.int .i64 1, .int .u64 (un a)]) := (show u62 = .agg #[.int .i64 1, .int .u64 (un a)] from r13) ▸ e62
      clear r13
      clear qO qF
      go_simp
      exact hK _ _ (Below.refl _ _) (show (_ : Value) = _ from by first | rfl | (simp; done) | (simp; omega))
    refine BOk.cons rfl [3, 14] [] rfl rfl (by kernel_rfl) (by kernel_rfl) (fun qK qa wr hB qO qF hK => ?_) ?_
    · obtain ⟨u52, e52, r3⟩ := qF.1
      have e52 : qa.tmps[52]? = some (.bool false) := (show u52 = .bool false from r3) ▸ e52
      clear r3
      obtain ⟨u63, e63, r14⟩ := qF.2.1
      have e63 : qa.tmps[63]? = some (.bool false) := (show u63 = .bool false from r14) ▸ e63
      clear r14
      clear qO qF
      go_simp
      exact hK _ _ (Below.refl _ _) (show (_ : Value) = _ from by first | rfl | (simp; done) | (simp; omega))
    refine BOk.cons rfl [15] [] rfl rfl (by kernel_rfl) (by kernel_rfl) (fun qK qa wr hB qO qF hK => ?_) ?_
    · obtain ⟨u64, e64, r15⟩ := qF.1
      have e64 : qa.tmps[64]? = some (.bool false) := (show u64 = .bool false from r15) ▸ e64
      clear r15
      clear qO qF
      go_simp
      exact hK _ _ (Below.refl _ _) rfl
    refine BOk.yes rfl [] [7] rfl 16 false rfl rfl rfl (by kernel_rfl) (by kernel_rfl) (by kernel_rfl) (fun qK qa wr hB qO qF hK => ?_) ?_
    · have e7 : qa.tmps[7]? = some (.int .i64 x) := qO.1.trans rfl
      clear qO qF
      go_simp
      exact hK _ _ (Below.refl _ _) rfl
    refine BOk.yes rfl [17] [] rfl 16 false rfl rfl rfl (by kernel_rfl) (by kernel_rfl) (by kernel_rfl) (fun qK qa wr hB qO qF hK => ?_) ?_
    · obtain ⟨u66, e66, r17⟩ := qF.1
      have e66 : qa.tmps[66]? = some (.int .i64 x) := (show u66 = .int .i64 x from r17) ▸ e66
      clear r17
      clear qO qF
      go_simp
      exact hK _ _ (Below.refl _ _) (show (_ : Value) = _ from by first | rfl | (simp; done) | (simp; omega))
    refine BOk.yes rfl [18] [] rfl 16 false rfl rfl rfl (by kernel_rfl) (by kernel_rfl) (by kernel_rfl) (fun qK qa wr hB qO qF hK => ?_) ?_
    · obtain ⟨u67, e67, r18⟩ := qF.1
      have e67 : qa.tmps[67]? = some (.bool true) := (show u67 = .bool true from r18) ▸ e67
      clear r18
      clear qO qF
      go_simp
      exact hK _ _ (Below.refl _ _) rfl
    refine BOk.yes rfl [] [0] rfl 19 true rfl rfl rfl (by kernel_rfl) (by kernel_rfl) (by kernel_rfl) (fun qK qa wr hB qO qF hK => ?_) ?_
    · have e0 : qa.tmps[0]? = some (.int .i64 a) := qO.1.trans rfl
      clear qO qF
      go_simp
      exact hK _ _ (Below.refl _ _) rfl
    refine BOk.yes rfl [20] [] rfl 19 true rfl rfl rfl (by kernel_rfl) (by kernel_rfl) (by kernel_rfl) (fun qK qa wr hB qO qF hK => ?_) ?_
    · obtain ⟨u69, e69, r20⟩ := qF.1
      have e69 : qa.tmps[69]? = some (.int .i64 a) := (show u69 = .int .i64 a from r20) ▸ e69
      clear r20
      clear qO qF
      go_simp
      exact hK _ _ (Below.refl _ _) (show (_ : Value) = _ from by first | rfl | (simp; done) | (simp; omega))
    refine BOk.yes rfl [19, 21] [] rfl 16 false rfl rfl rfl (by kernel_rfl) (by kernel_rfl) (by kernel_rfl) (fun qK qa wr hB qO qF hK => ?_) ?_
    · obtain ⟨u68, e68, r19⟩ := qF.1
      have e68 : qa.tmps[68]? = some (.bool true) := (show u68 = .bool true from r19) ▸ e68
      clear r19
      obtain ⟨u70, e70, r21⟩ := qF.2.1
      have e70 : qa.tmps[70]? = some (.bool false) := (show u70 = .bool false from r21) ▸ e70
      clear r21
      clear qO qF
      go_simp
      exact hK _ _ (Below.refl _ _) (show (_ : Value) = _ from by first | rfl | (simp; done) | (simp; omega))
    refine BOk.cons rfl [16, 22] [] rfl rfl (by kernel_rfl) (by kernel_rfl) (fun qK qa wr hB qO qF hK => ?_) ?_
    · obtain ⟨u65, e65, r16⟩ := qF.1
      have e65 : qa.tmps[65]? = some (.bool false) := (show u65 = .bool false from r16) ▸ e65
      clear r16
      obtain ⟨u71, e71, r22⟩ := qF.2.1
      have e71 : qa.tmps[71]? = some (.bool false) := (show u71 = .bool false from r22) ▸ e71
      clear r22
      clear qO qF
      go_simp
      exact hK _ _ (Below.refl _ _) (show (_ : Value) = _ from by first | rfl | (simp; done) | (simp; omega))
    refine BOk.cons rfl [23] [] rfl rfl (by kernel_rfl) (by kernel_rfl) (fun qK qa wr hB qO qF hK => ?_) ?_
    · obtain ⟨u72, e72, r23⟩ := qF.1
      have e72 : qa.tmps[72]? = some (.bool false) := (show u72 = .bool false from r23) ▸ e72
      clear r23
      clear qO qF
      go_simp
      exact hK _ _ (Below.refl _ _) rfl
    refine BOk.yes rfl [] [7] rfl 24 false rfl rfl rfl (by kernel_rfl) (by kernel_rfl) (by kernel_rfl) (fun qK qa wr hB qO qF hK => ?_) ?_
    · have e7 : qa.tmps[7]? = some (.int .i64 x) := qO.1.trans rfl
      clear qO qF
      go_simp
      exact hK _ _ (Below.refl _ _) rfl
    refine BOk.yes rfl [25] [] rfl 24 false rfl rfl rfl (by kernel_rfl) (by kernel_rfl) (by kernel_rfl) (fun qK qa wr hB qO qF hK => ?_) ?_
    · obtain ⟨u74, e74, r25⟩ := qF.1
      have e74 : qa.tmps[74]? = some (.int .i64 x) := (show u74 = .int .i64 x from r25) ▸ e74
      clear r25
      clear qO qF
      go_simp
      exact hK _ _ (Below.refl _ _) (show (_ : Value) = _ from by first | rfl | (simp; done) | (simp; omega))
    refine BOk.yes rfl [26] [] rfl 24 false rfl rfl rfl (by kernel_rfl) (by kernel_rfl) (by kernel_rfl) (fun qK qa wr hB qO qF hK => ?_) ?_
    · obtain ⟨u75, e75, r26⟩ := qF.1
      have e75 : qa.tmps[75]? = some (.bool false) := (show u75 = .bool false from r26) ▸ e75
      clear r26
      clear qO qF
      go_simp
      exact hK _ _ (Below.refl _ _) rfl
    refine BOk.no rfl rfl 27 true rfl rfl rfl (by kernel_rfl) (fun _ => rfl) ?_
    refine BOk.no rfl rfl 27 true rfl rfl rfl (by kernel_rfl) (fun _ => rfl) ?_
    refine BOk.yes rfl [27] [] rfl 24 false rfl rfl rfl (by kernel_rfl) (by kernel_rfl) (by kernel_rfl) (fun qK qa wr hB qO qF hK => ?_) ?_
    · obtain ⟨u76, e76, r27⟩ := qF.1
      have e76 : qa.tmps[76]? = some (.bool false) := (show u76 = .bool false from r27) ▸ e76
      clear r27
      clear qO qF
      go_simp
      exact hK _ _ (Below.refl _ _) (show (_ : Value) = _ from by first | rfl | (simp; done) | (simp; omega))
    refine BOk.cons rfl [24, 30] [] rfl rfl (by kernel_rfl) (by kernel_rfl) (fun qK qa wr hB qO qF hK => ?_) ?_
    · obtain ⟨u73, e73, r24⟩ := qF.1
      have e73 : qa.tmps[73]? = some (.bool false) := (show u73 = .bool false from r24) ▸ e73
      clear r24
      obtain ⟨u79, e79, r30⟩ := qF.2.1
      have e79 : qa.tmps[79]? = some (.bool false) := (show u79 = .bool false from r30) ▸ e79
      clear r30
      clear qO qF
      go_simp
      exact hK _ _ (Below.refl _ _) (show (_ : Value) = _ from by first | rfl | (simp; done) | (simp; omega))
    exact BOk.nil
  intro vals wr hl hB hR
  match vals, hl with
  | [x49, x50, x51, x52, x53, x54, x55, x56, x57, x58, x59, x60, x61, x62, x63, x64, x65, x66, x67, x68, x69, x70, x71, x72, x73, x74, x75, x76, x77, x78, x79, x80], _ =>
  have r31 : x80 = .bool false := hR 31 _ rfl
  subst r31
  clear hR
  simp only [putAll, Act.put, List.setIfInBounds_toArray, List.set_cons_zero, List.set_cons_succ]
  have hbel := hbW.trans (hB.mono hbW.size)
  clear hB e1 e3 c50 c51 c60 c61 k5 k6 hbW
  have hbb := H.out.b64
  have hll := H.out.less
  have hb0 := H.out.b0
  unfold I64 at hbb
  have hx1 : -9223372036854775808 < x := by omega
  have hx2 : x < 9223372036854775808 := by omega
  have E9 := Lib.hid (show applyV 9 [intV x, intV 0] = yesV true from (less_of x (by unfold I64; omega)).trans (by first | rfl | (congr 1; simp; try omega)))
  have hne : (x != 0) = true := by rw [bne_iff_ne]; omega
  have HL := Lib.hid hll
  have HB := Lib.hid hbb
  clear hll hb0
  obtain ⟨hq1, hq2⟩ := hbb
  go_wp2_with fail
  refine (num_any x _).mono ?_
  rintro e w8 ⟨rfl, hb8⟩
  have hbel := hbel.trans (hb8.mono hbel.size)
  clear hb8
  go_wp2_with fail
  refine (num_any 0 _).mono ?_
  rintro e w9 ⟨rfl, hb9⟩
  have hbel := hbel.trans (hb9.mono hbel.size)
  clear hb9
  simp only [intV, V.v]
  go_wp2_with fail
  refine (do2 9 (intV x) (intV 0) (intV_fits _) (intV_fits _) w9).mono ?_
  rintro e w10 ⟨rfl, hb10⟩
  have hbel : Below w.heap.size w w10 := hbel.trans (hb10.mono hbel.size)
  clear hb10
  rw [E9.out]
  simp only [yesV]
  go_wp2_with fail
  refine (rtruth_any true _).mono ?_
  rintro e w11 ⟨rfl, hb11⟩
  have hbel := hbel.trans (hb11.mono hbel.size)
  clear hb11
  simp only [yesV]
  go_wp2_with fail
  all_goals go_ret
  all_goals exact ⟨ret_bool (by have := HL.out; have := HB.out; simp; unfold wrap64 at *; omega), hbel⟩

def divR9_nil (a b q : Int) (g5 g6 : Nat) : List Spec := [.is (.pointer (some ⟨g6, 0, none⟩)),
  .is (.int .i64 1),
  .is (.bool false),
  .is (.bool false),
  .is (.agg #[.int .i64 1, .int .u64 (un q)]),
  .is (.int .i64 b),
  .is (.agg #[.int .i64 1, .int .u64 (un b)]),
  .st (fun v w => ∃ g, v = .slice (some ⟨g, 0, none⟩) 2 2 ∧ Bk w g 24 #[.int .i64 1, .int .u64 (un q), .int .i64 1, .int .u64 (un b)]) (fun _ _ _ hb ⟨g, h1, h2⟩ => ⟨g, h1, h2.old hb⟩),
  .is (.agg #[.int .i64 1, .int .u64 (un (q * b))]),
  .is (.agg #[.int .i64 1, .int .u64 (un 0)]),
  .st (fun v w => ∃ g, v = .slice (some ⟨g, 0, none⟩) 2 2 ∧ Bk w g 24 #[.int .i64 1, .int .u64 (un (q * b)), .int .i64 1, .int .u64 (un 0)]) (fun _ _ _ hb ⟨g, h1, h2⟩ => ⟨g, h1, h2.old hb⟩),
  .is (.agg #[.int .i64 1, .int .u64 (un a)]),
  .is (.int .i64 a),
  .is (.agg #[.int .i64 1, .int .u64 (un a)]),
  .is (.bool false),
  .is (.bool false),
  .is (.bool false),
  .is (.int .i64 0),
  .is (.bool false),
  .is (.bool false),
  .is (undef),
  .is (undef),
  .is (.bool false),
  .is (.bool false),
  .is (.bool false),
  .is (.int .i64 0),
  .is (.bool false),
  .is (.bool false),
  .is (undef),
  .is (undef),
  .is (.bool false),
  .is (.bool false)]
set_option maxRecDepth 100000 in
set_option maxHeartbeats 4000000 in
theorem walk_nil (a b q : Int) (h : Divs a b q 0) (w : World) :
    Calls Try.prog 10 #[.int .i64 a, .int .i64 b] w fun e w' => e = .returned (.bool true) ∧ Below w.heap.size w w' := by
  have E4 := Lib.hid h.four; have E5 := Lib.hid h.five; have E3 := Lib.hid h.back; have E1 := Lib.hid h.whole
  have hb0 : (b == 0) = false := beq_eq_false_iff_ne.2 h.b0
  have H := Lib.hid h
  clear h
  go_enter Try.func10, Try.ntmps10
  go_wp2_with fail
  refine (awake_any _).mono ?_
  rintro e w1 ⟨rfl, hb1⟩
  go_wp2_with fail
  refine (num_any a _).mono ?_
  rintro e w2 ⟨rfl, hb2⟩
  have hbel := hb1.trans (hb2.mono hb1.size)
  clear hb1 hb2
  go_wp2_with fail
  refine (num_any b _).mono ?_
  rintro e w3 ⟨rfl, hb3⟩
  have hbel := hbel.trans (hb3.mono hbel.size)
  clear hb3
  simp only [intV, V.v]
  go_wp2_with fail
  refine (do2 4 (intV a) (intV b) (intV_fits _) (intV_fits _) w3).mono ?_
  rintro e w4 ⟨rfl, hb4⟩
  have hbel : Below w.heap.size w w4 := hbel.trans (hb4.mono hbel.size)
  clear hb4
  rw [E4.out]
  go_wp2_with fail
  refine (num_any a _).mono ?_
  rintro e w5 ⟨rfl, hb5⟩
  have hbel := hbel.trans (hb5.mono hbel.size)
  clear hb5
  go_wp2_with fail
  refine (num_any b _).mono ?_
  rintro e w6 ⟨rfl, hb6⟩
  have hbel := hbel.trans (hb6.mono hbel.size)
  clear hb6
  simp only [intV, V.v]
  go_wp2_with fail
  refine (do2 5 (intV a) (intV b) (intV_fits _) (intV_fits _) w6).mono ?_
  rintro e w7 ⟨rfl, hb7⟩
  have hbel : Below w.heap.size w w7 := hbel.trans (hb7.mono hbel.size)
  clear hb7
  rw [E5.out]
  simp only [intV, none0]
  have hz := hbel.size
  go_upto_region 4 with fail
  refine wp_abs (fun W => Below w.heap.size w W ∧ Bk W w7.heap.size 24 #[.int .i64 1, .int .u64 (un q)] ∧ Bk W (w7.heap.size + 1) 24 #[.int .i64 1, .int .u64 (un 0)]) ?_ ?_
  · exact ⟨(hbel.alloc hz _).alloc (by simp; omega) _, (Bk.newAt rfl _ _).alloc _, Bk.newAt (by first | rfl | simp) _ _⟩
  rintro W ⟨hbW, k5, k6⟩
  generalize w7.heap.size + 1 = g6 at *
  generalize w7.heap.size = g5 at *
  clear hbel hz
  have ⟨c50, c51, _, _⟩ := vcells k5
  have ⟨c60, c61, _, _⟩ := vcells k6
  go_wp2_with fail
  rw [un_back H.out.x64]
  have e3 := E3.out
  have e1 := E1.out
  refine wp_region_b (by kernel_rfl) (fun k => (divR9_nil a b q g5 g6).getD k .any) (by kernel_rfl) ?_ ?_
  · refine BOk.cons rfl [] [6] rfl rfl (by kernel_rfl) (by kernel_rfl) (fun qK qa wr hB qO qF hK => ?_) ?_
    · have e6 : qa.tmps[6]? = some (.pointer (some ⟨g6, 0, none⟩)) := qO.1.trans rfl
      clear qO qF
      go_simp
      exact hK _ _ (Below.refl _ _) rfl
    refine BOk.cons rfl [0] [] rfl rfl (by kernel_rfl) (by kernel_rfl) (fun qK qa wr hB qO qF hK => ?_) ?_
    · obtain ⟨u49, e49, r0⟩ := qF.1
      have e49 : qa.tmps[49]? = some (.pointer (some ⟨g6, 0, none⟩)) := (show u49 = .pointer (some ⟨g6, 0, none⟩) from r0) ▸ e49
      clear r0
      clear qO qF
      have hc60 := (bcell hB _ _ (World.block_lt_of_cell? _ _ c60)).trans c60
      go_simp
      exact hK _ _ (Below.refl _ _) rfl
    refine BOk.cons rfl [1] [] rfl rfl (by kernel_rfl) (by kernel_rfl) (fun qK qa wr hB qO qF hK => ?_) ?_
    · obtain ⟨u50, e50, r1⟩ := qF.1
      have e50 : qa.tmps[50]? = some (.int .i64 1) := (show u50 = .int .i64 1 from r1) ▸ e50
      clear r1
      clear qO qF
      go_simp
      exact hK _ _ (Below.refl _ _) (show (_ : Value) = _ from by first | rfl | (simp; done) | (simp; omega))
    refine BOk.cons rfl [2] [] rfl rfl (by kernel_rfl) (by kernel_rfl) (fun qK qa wr hB qO qF hK => ?_) ?_
    · obtain ⟨u51, e51, r2⟩ := qF.1
      have e51 : qa.tmps[51]? = some (.bool false) := (show u51 = .bool false from r2) ▸ e51
      clear r2
      clear qO qF
      go_simp
      exact hK _ _ (Below.refl _ _) rfl
    refine BOk.yes rfl [] [5] rfl 3 false rfl rfl rfl (by kernel_rfl) (by kernel_rfl) (by kernel_rfl) (fun qK qa wr hB qO qF hK => ?_) ?_
    · have e5 : qa.tmps[5]? = some (.pointer (some ⟨g5, 0, none⟩)) := qO.1.trans rfl
      clear qO qF
      have hc50 := (bcell hB _ _ (World.block_lt_of_cell? _ _ c50)).trans c50
      have hc51 := (bcell hB _ _ (World.block_lt_of_cell? _ _ c51)).trans c51
      go_simp
      exact hK _ _ (Below.refl _ _) rfl
    refine BOk.yes rfl [] [1] rfl 3 false rfl rfl rfl (by kernel_rfl) (by kernel_rfl) (by kernel_rfl) (fun qK qa wr hB qO qF hK => ?_) ?_
    · have e1 : qa.tmps[1]? = some (.int .i64 b) := qO.1.trans rfl
      clear qO qF
      go_simp
      exact hK _ _ (Below.refl _ _) rfl
    refine BOk.yes rfl [5] [] rfl 3 false rfl rfl rfl (by kernel_rfl) (by kernel_rfl) (by kernel_rfl) (fun qK qa wr hB qO qF hK => ?_) ?_
    · obtain ⟨u54, e54, r5⟩ := qF.1
      have e54 : qa.tmps[54]? = some (.int .i64 b) := (show u54 = .int .i64 b from r5) ▸ e54
      clear r5
      clear qO qF
      go_simp
      go_at_call 24
      refine (num_any b _).mono ?_
      rintro e w2 ⟨rfl, hb2⟩
      exact hK _ _ hb2 rfl
    refine BOk.yes rfl [4, 6] [] rfl 3 false rfl rfl rfl (by kernel_rfl) (by kernel_rfl) (by kernel_rfl) (fun qK qa wr hB qO qF hK => ?_) ?_
    · obtain ⟨u53, e53, r4⟩ := qF.1
      have e53 : qa.tmps[53]? = some (.agg #[.int .i64 1, .int .u64 (un q)]) := (show u53 = .agg #[.int .i64 1, .int .u64 (un q)] from r4) ▸ e53
      clear r4
      obtain ⟨u55, e55, r6⟩ := qF.2.1
      have e55 : qa.tmps[55]? = some (.agg #[.int .i64 1, .int .u64 (un b)]) := (show u55 = .agg #[.int .i64 1, .int .u64 (un b)] from r6) ▸ e55
      clear r6
      clear qO qF
      go_simp
      exact hK _ _ ((Below.refl _ _).alloc (Nat.le_refl _) _) ⟨_, rfl, Bk.new _ _ _⟩
    refine BOk.yes rfl [7] [] rfl 3 false rfl rfl rfl (by kernel_rfl) (by kernel_rfl) (by kernel_rfl) (fun qK qa wr hB qO qF hK => ?_) ?_
    · obtain ⟨u56, e56, r7⟩ := qF.1
      obtain ⟨g56, h56, k56⟩ := (show ∃ g, u56 = .slice (some ⟨g, 0, none⟩) 2 2 ∧ Bk wr g 24 #[.int .i64 1, .int .u64 (un q), .int .i64 1, .int .u64 (un b)] from r7)
      subst h56
      have e56 : qa.tmps[56]? = some (.slice (some ⟨g56, 0, none⟩) 2 2) := e56
      clear qO qF
      go_simp
      go_at_call 23
      refine (do_bk 3 [(intV q), (intV b)] _ _ k56 rfl (by intro q hq; simp only [List.mem_cons, List.not_mem_nil, or_false] at hq; rcases hq with rfl | rfl; exact intV_fits q; exact intV_fits b) (by simp)).mono ?_
      rintro e w2 ⟨rfl, hb2⟩
      rw [e3]
      exact hK _ _ hb2 rfl
    refine BOk.yes rfl [] [6] rfl 3 false rfl rfl rfl (by kernel_rfl) (by kernel_rfl) (by kernel_rfl) (fun qK qa wr hB qO qF hK => ?_) ?_
    · have e6 : qa.tmps[6]? = some (.pointer (some ⟨g6, 0, none⟩)) := qO.1.trans rfl
      clear qO qF
      have hc60 := (bcell hB _ _ (World.block_lt_of_cell? _ _ c60)).trans c60
      have hc61 := (bcell hB _ _ (World.block_lt_of_cell? _ _ c61)).trans c61
      go_simp
      exact hK _ _ (Below.refl _ _) rfl
    refine BOk.yes rfl [8, 9] [] rfl 3 false rfl rfl rfl (by kernel_rfl) (by kernel_rfl) (by kernel_rfl) (fun qK qa wr hB qO qF hK => ?_) ?_
    · obtain ⟨u57, e57, r8⟩ := qF.1
      have e57 : qa.tmps[57]? = some (.agg #[.int .i64 1, .int .u64 (un (q * b))]) := (show u57 = .agg #[.int .i64 1, .int .u64 (un (q * b))] from r8) ▸ e57
      clear r8
      obtain ⟨u58, e58, r9⟩ := qF.2.1
      have e58 : qa.tmps[58]? = some (.agg #[.int .i64 1, .int .u64 (un 0)]) := (show u58 = .agg #[.int .i64 1, .int .u64 (un 0)] from r9) ▸ e58
      clear r9
      clear qO qF
      go_simp
      exact hK _ _ ((Below.refl _ _).alloc (Nat.le_refl _) _) ⟨_, rfl, Bk.new _ _ _⟩
    refine BOk.yes rfl [10] [] rfl 3 false rfl rfl rfl (by kernel_rfl) (by kernel_rfl) (by kernel_rfl) (fun qK qa wr hB qO qF hK => ?_) ?_
    · obtain ⟨u59, e59, r10⟩ := qF.1
      obtain ⟨g59, h59, k59⟩ := (show ∃ g, u59 = .slice (some ⟨g, 0, none⟩) 2 2 ∧ Bk wr g 24 #[.int .i64 1, .int .u64 (un (q * b)), .int .i64 1, .int .u64 (un 0)] from r10)
      subst h59
      have e59 : qa.tmps[59]? = some (.slice (some ⟨g59, 0, none⟩) 2 2) := e59
      clear qO qF
      go_simp
      go_at_call 23
      refine (do_bk 1 [(intV (q * b)), (intV 0)] _ _ k59 rfl (by intro q hq; simp only [List.mem_cons, List.not_mem_nil, or_false] at hq; rcases hq with rfl | rfl; exact intV_fits _; exact intV_fits _) (by simp)).mono ?_
      rintro e w2 ⟨rfl, hb2⟩
      rw [e1]
      exact hK _ _ hb2 rfl
    refine BOk.yes rfl [] [0] rfl 3 false rfl rfl rfl (by kernel_rfl) (by kernel_rfl) (by kernel_rfl) (fun qK qa wr hB qO qF hK => ?_) ?_
    · have e0 : qa.tmps[0]? = some (.int .i64 a) := qO.1.trans rfl
      clear qO qF
      go_simp
      exact hK _ _ (Below.refl _ _) rfl
    refine BOk.yes rfl [12] [] rfl 3 false rfl rfl rfl (by kernel_rfl) (by kernel_rfl) (by kernel_rfl) (fun qK qa wr hB qO qF hK => ?_) ?_
    · obtain ⟨u61, e61, r12⟩ := qF.1
      have e61 : qa.tmps[61]? = some (.int .i64 a) := (show u61 = .int .i64 a from r12) ▸ e61
      clear r12
      clear qO qF
      go_simp
      go_at_call 24
      refine (num_any a _).mono ?_
      rintro e w2 ⟨rfl, hb2⟩
      exact hK _ _ hb2 rfl
    refine BOk.yes rfl [11, 13] [] rfl 3 false rfl rfl rfl (by kernel_rfl) (by kernel_rfl) (by kernel_rfl) (fun qK qa wr hB qO qF hK => ?_) ?_
    · obtain ⟨u60, e60, r11⟩ := qF.1
      have e60 : qa.tmps[60]? = some (.agg #[.int .i64 1, .int .u64 (un a)]) := (show u60 = .agg #[.int .i64 1, .int .u64 (un a)] from r11) ▸ e60
      clear r11
      obtain ⟨u62, e62, r13⟩ := qF.2.1
      have e62 : qa.tmps[62]? = some (.agg #[.int .i64 1, .int .u64 (un a)]) := (show u62 = .agg #[.int .i64 1, .int .u64 (un a)] from r13) ▸ e62
      clear r13
      clear qO qF
      go_simp
      exact hK _ _ (Below.refl _ _) (show (_ : Value) = _ from by first | rfl | (simp; done) | (simp; omega))
    refine BOk.cons rfl [3, 14] [] rfl rfl (by kernel_rfl) (by kernel_rfl) (fun qK qa wr hB qO qF hK => ?_) ?_
    · obtain ⟨u52, e52, r3⟩ := qF.1
      have e52 : qa.tmps[52]? = some (.bool false) := (show u52 = .bool false from r3) ▸ e52
      clear r3
      obtain ⟨u63, e63, r14⟩ := qF.2.1
      have e63 : qa.tmps[63]? = some (.bool false) := (show u63 = .bool false from r14) ▸ e63
      clear r14
      clear qO qF
      go_simp
      exact hK _ _ (Below.refl _ _) (show (_ : Value) = _ from by first | rfl | (simp; done) | (simp; omega))
    refine BOk.cons rfl [15] [] rfl rfl (by kernel_rfl) (by kernel_rfl) (fun qK qa wr hB qO qF hK => ?_) ?_
    · obtain ⟨u64, e64, r15⟩ := qF.1
      have e64 : qa.tmps[64]? = some (.bool false) := (show u64 = .bool false from r15) ▸ e64
      clear r15
      clear qO qF
      go_simp
      exact hK _ _ (Below.refl _ _) rfl
    refine BOk.yes rfl [] [7] rfl 16 false rfl rfl rfl (by kernel_rfl) (by kernel_rfl) (by kernel_rfl) (fun qK qa wr hB qO qF hK => ?_) ?_
    · have e7 : qa.tmps[7]? = some (.int .i64 0) := qO.1.trans rfl
      clear qO qF
      go_simp
      exact hK _ _ (Below.refl _ _) rfl
    refine BOk.yes rfl [17] [] rfl 16 false rfl rfl rfl (by kernel_rfl) (by kernel_rfl) (by kernel_rfl) (fun qK qa wr hB qO qF hK => ?_) ?_
    · obtain ⟨u66, e66, r17⟩ := qF.1
      have e66 : qa.tmps[66]? = some (.int .i64 0) := (show u66 = .int .i64 0 from r17) ▸ e66
      clear r17
      clear qO qF
      go_simp
      exact hK _ _ (Below.refl _ _) (show (_ : Value) = _ from by first | rfl | (simp; done) | (simp; omega))
    refine BOk.yes rfl [18] [] rfl 16 false rfl rfl rfl (by kernel_rfl) (by kernel_rfl) (by kernel_rfl) (fun qK qa wr hB qO qF hK => ?_) ?_
    · obtain ⟨u67, e67, r18⟩ := qF.1
      have e67 : qa.tmps[67]? = some (.bool false) := (show u67 = .bool false from r18) ▸ e67
      clear r18
      clear qO qF
      go_simp
      exact hK _ _ (Below.refl _ _) rfl
    refine BOk.no rfl rfl 19 true rfl rfl rfl (by kernel_rfl) (fun _ => rfl) ?_
    refine BOk.no rfl rfl 19 true rfl rfl rfl (by kernel_rfl) (fun _ => rfl) ?_
    refine BOk.yes rfl [19] [] rfl 16 false rfl rfl rfl (by kernel_rfl) (by kernel_rfl) (by kernel_rfl) (fun qK qa wr hB qO qF hK => ?_) ?_
    · obtain ⟨u68, e68, r19⟩ := qF.1
      have e68 : qa.tmps[68]? = some (.bool false) := (show u68 = .bool false from r19) ▸ e68
      clear r19
      clear qO qF
      go_simp
      exact hK _ _ (Below.refl _ _) (show (_ : Value) = _ from by first | rfl | (simp; done) | (simp; omega))
    refine BOk.cons rfl [16, 22] [] rfl rfl (by kernel_rfl) (by kernel_rfl) (fun qK qa wr hB qO qF hK => ?_) ?_
    · obtain ⟨u65, e65, r16⟩ := qF.1
      have e65 : qa.tmps[65]? = some (.bool false) := (show u65 = .bool false from r16) ▸ e65
      clear r16
      obtain ⟨u71, e71, r22⟩ := qF.2.1
      have e71 : qa.tmps[71]? = some (.bool false) := (show u71 = .bool false from r22) ▸ e71
      clear r22
      clear qO qF
      go_simp
      exact hK _ _ (Below.refl _ _) (show (_ : Value) = _ from by first | rfl | (simp; done) | (simp; omega))
    refine BOk.cons rfl [23] [] rfl rfl (by kernel_rfl) (by kernel_rfl) (fun qK qa wr hB qO qF hK => ?_) ?_
    · obtain ⟨u72, e72, r23⟩ := qF.1
      have e72 : qa.tmps[72]? = some (.bool false) := (show u72 = .bool false from r23) ▸ e72
      clear r23
      clear qO qF
      go_simp
      exact hK _ _ (Below.refl _ _) rfl
    refine BOk.yes rfl [] [7] rfl 24 false rfl rfl rfl (by kernel_rfl) (by kernel_rfl) (by kernel_rfl) (fun qK qa wr hB qO qF hK => ?_) ?_
    · have e7 : qa.tmps[7]? = some (.int .i64 0) := qO.1.trans rfl
      clear qO qF
      go_simp
      exact hK _ _ (Below.refl _ _) rfl
    refine BOk.yes rfl [25] [] rfl 24 false rfl rfl rfl (by kernel_rfl) (by kernel_rfl) (by kernel_rfl) (fun qK qa wr hB qO qF hK => ?_) ?_
    · obtain ⟨u74, e74, r25⟩ := qF.1
      have e74 : qa.tmps[74]? = some (.int .i64 0) := (show u74 = .int .i64 0 from r25) ▸ e74
      clear r25
      clear qO qF
      go_simp
      exact hK _ _ (Below.refl _ _) (show (_ : Value) = _ from by first | rfl | (simp; done) | (simp; omega))
    refine BOk.yes rfl [26] [] rfl 24 false rfl rfl rfl (by kernel_rfl) (by kernel_rfl) (by kernel_rfl) (fun qK qa wr hB qO qF hK => ?_) ?_
    · obtain ⟨u75, e75, r26⟩ := qF.1
      have e75 : qa.tmps[75]? = some (.bool false) := (show u75 = .bool false from r26) ▸ e75
      clear r26
      clear qO qF
      go_simp
      exact hK _ _ (Below.refl _ _) rfl
    refine BOk.no rfl rfl 27 true rfl rfl rfl (by kernel_rfl) (fun _ => rfl) ?_
    refine BOk.no rfl rfl 27 true rfl rfl rfl (by kernel_rfl) (fun _ => rfl) ?_
    refine BOk.yes rfl [27] [] rfl 24 false rfl rfl rfl (by kernel_rfl) (by kernel_rfl) (by kernel_rfl) (fun qK qa wr hB qO qF hK => ?_) ?_
    · obtain ⟨u76, e76, r27⟩ := qF.1
      have e76 : qa.tmps[76]? = some (.bool false) := (show u76 = .bool false from r27) ▸ e76
      clear r27
      clear qO qF
      go_simp
      exact hK _ _ (Below.refl _ _) (show (_ : Value) = _ from by first | rfl | (simp; done) | (simp; omega))
    refine BOk.cons rfl [24, 30] [] rfl rfl (by kernel_rfl) (by kernel_rfl) (fun qK qa wr hB qO qF hK => ?_) ?_
    · obtain ⟨u73, e73, r24⟩ := qF.1
      have e73 : qa.tmps[73]? = some (.bool false) := (show u73 = .bool false from r24) ▸ e73
      clear r24
      obtain ⟨u79, e79, r30⟩ := qF.2.1
      have e79 : qa.tmps[79]? = some (.bool false) := (show u79 = .bool false from r30) ▸ e79
      clear r30
      clear qO qF
      go_simp
      exact hK _ _ (Below.refl _ _) (show (_ : Value) = _ from by first | rfl | (simp; done) | (simp; omega))
    exact BOk.nil
  intro vals wr hl hB hR
  match vals, hl with
  | [x49, x50, x51, x52, x53, x54, x55, x56, x57, x58, x59, x60, x61, x62, x63, x64, x65, x66, x67, x68, x69, x70, x71, x72, x73, x74, x75, x76, x77, x78, x79, x80], _ =>
  have r31 : x80 = .bool false := hR 31 _ rfl
  subst r31
  clear hR
  simp only [putAll, Act.put, List.setIfInBounds_toArray, List.set_cons_zero, List.set_cons_succ]
  have hbel := hbW.trans (hB.mono hbW.size)
  clear hB e1 e3 c50 c51 c60 c61 k5 k6 hbW
  have hbb := H.out.b64
  have hll := H.out.less
  have hb0 := H.out.b0
  unfold I64 at hbb
  have E9 := Lib.hid (show applyV 9 [intV 0, intV 0] = yesV false from (less_of 0 (by unfold I64; omega)).trans (by first | rfl | (congr 1; simp; try omega)))
  have HL := Lib.hid hll
  have HB := Lib.hid hbb
  clear hll hb0
  obtain ⟨hq1, hq2⟩ := hbb
  go_wp2_with fail
  refine (num_any 0 _).mono ?_
  rintro e w8 ⟨rfl, hb8⟩
  have hbel := hbel.trans (hb8.mono hbel.size)
  clear hb8
  go_wp2_with fail
  refine (num_any 0 _).mono ?_
  rintro e w9 ⟨rfl, hb9⟩
  have hbel := hbel.trans (hb9.mono hbel.size)
  clear hb9
  simp only [intV, V.v]
  go_wp2_with fail
  refine (do2 9 (intV 0) (intV 0) (intV_fits _) (intV_fits _) w9).mono ?_
  rintro e w10 ⟨rfl, hb10⟩
  have hbel : Below w.heap.size w w10 := hbel.trans (hb10.mono hbel.size)
  clear hb10
  rw [E9.out]
  simp only [yesV]
  go_wp2_with fail
  refine (rtruth_any false _).mono ?_
  rintro e w11 ⟨rfl, hb11⟩
  have hbel := hbel.trans (hb11.mono hbel.size)
  clear hb11
  simp only [yesV]
  go_wp2_with fail
  all_goals go_ret
  all_goals exact ⟨ret_bool (by have := HL.out; have := HB.out; simp; unfold wrap64 at *; omega), hbel⟩

def divR9_pos (a b q x : Int) (g5 g6 : Nat) : List Spec := [.is (.pointer (some ⟨g6, 0, none⟩)),
  .is (.int .i64 1),
  .is (.bool false),
  .is (.bool false),
  .is (.agg #[.int .i64 1, .int .u64 (un q)]),
  .is (.int .i64 b),
  .is (.agg #[.int .i64 1, .int .u64 (un b)]),
  .st (fun v w => ∃ g, v = .slice (some ⟨g, 0, none⟩) 2 2 ∧ Bk w g 24 #[.int .i64 1, .int .u64 (un q), .int .i64 1, .int .u64 (un b)]) (fun _ _ _ hb ⟨g, h1, h2⟩ => ⟨g, h1, h2.old hb⟩),
  .is (.agg #[.int .i64 1, .int .u64 (un (q * b))]),
  .is (.agg #[.int .i64 1, .int .u64 (un x)]),
  .st (fun v w => ∃ g, v = .slice (some ⟨g, 0, none⟩) 2 2 ∧ Bk w g 24 #[.int .i64 1, .int .u64 (un (q * b)), .int .i64 1, .int .u64 (un x)]) (fun _ _ _ hb ⟨g, h1, h2⟩ => ⟨g, h1, h2.old hb⟩),
  .is (.agg #[.int .i64 1, .int .u64 (un a)]),
  .is (.int .i64 a),
  .is (.agg #[.int .i64 1, .int .u64 (un a)]),
  .is (.bool false),
  .is (.bool false),
  .is (.bool false),
  .is (.int .i64 x),
  .is (.bool false),
  .is (.bool false),
  .is (undef),
  .is (undef),
  .is (.bool false),
  .is (.bool false),
  .is (.bool false),
  .is (.int .i64 x),
  .is (.bool true),
  .is (.bool true),
  .is (.int .i64 a),
  .is (.bool false),
  .is (.bool false),
  .is (.bool false)]
set_option maxRecDepth 100000 in
set_option maxHeartbeats 4000000 in
theorem walk_pos (a b q x : Int) (h : Divs a b q x) (hx : 0 < x) (w : World) :
    Calls Try.prog 10 #[.int .i64 a, .int .i64 b] w fun e w' => e = .returned (.bool true) ∧ Below w.heap.size w w' := by
  have E4 := Lib.hid h.four; have E5 := Lib.hid h.five; have E3 := Lib.hid h.back; have E1 := Lib.hid h.whole
  have hb0 : (b == 0) = false := beq_eq_false_iff_ne.2 h.b0
  have H := Lib.hid h
  have ha := h.pos hx
  clear h
  go_enter Try.func10, Try.ntmps10
  go_wp2_with fail
  refine (awake_any _).mono ?_
  rintro e w1 ⟨rfl, hb1⟩
  go_wp2_with fail
  refine (num_any a _).mono ?_
  rintro e w2 ⟨rfl, hb2⟩
  have hbel := hb1.trans (hb2.mono hb1.size)
  clear hb1 hb2
  go_wp2_with fail
  refine (num_any b _).mono ?_
  rintro e w3 ⟨rfl, hb3⟩
  have hbel := hbel.trans (hb3.mono hbel.size)
  clear hb3
  simp only [intV, V.v]
  go_wp2_with fail
  refine (do2 4 (intV a) (intV b) (intV_fits _) (intV_fits _) w3).mono ?_
  rintro e w4 ⟨rfl, hb4⟩
  have hbel : Below w.heap.size w w4 := hbel.trans (hb4.mono hbel.size)
  clear hb4
  rw [E4.out]
  go_wp2_with fail
  refine (num_any a _).mono ?_
  rintro e w5 ⟨rfl, hb5⟩
  have hbel := hbel.trans (hb5.mono hbel.size)
  clear hb5
  go_wp2_with fail
  refine (num_any b _).mono ?_
  rintro e w6 ⟨rfl, hb6⟩
  have hbel := hbel.trans (hb6.mono hbel.size)
  clear hb6
  simp only [intV, V.v]
  go_wp2_with fail
  refine (do2 5 (intV a) (intV b) (intV_fits _) (intV_fits _) w6).mono ?_
  rintro e w7 ⟨rfl, hb7⟩
  have hbel : Below w.heap.size w w7 := hbel.trans (hb7.mono hbel.size)
  clear hb7
  rw [E5.out]
  simp only [intV, none0]
  have hz := hbel.size
  go_upto_region 4 with fail
  refine wp_abs (fun W => Below w.heap.size w W ∧ Bk W w7.heap.size 24 #[.int .i64 1, .int .u64 (un q)] ∧ Bk W (w7.heap.size + 1) 24 #[.int .i64 1, .int .u64 (un x)]) ?_ ?_
  · exact ⟨(hbel.alloc hz _).alloc (by simp; omega) _, (Bk.newAt rfl _ _).alloc _, Bk.newAt (by first | rfl | simp) _ _⟩
  rintro W ⟨hbW, k5, k6⟩
  generalize w7.heap.size + 1 = g6 at *
  generalize w7.heap.size = g5 at *
  clear hbel hz
  have ⟨c50, c51, _, _⟩ := vcells k5
  have ⟨c60, c61, _, _⟩ := vcells k6
  go_wp2_with fail
  rw [un_back H.out.x64]
  have e3 := E3.out
  have e1 := E1.out
  refine wp_region_b (by kernel_rfl) (fun k => (divR9_pos a b q x g5 g6).getD k .any) (by kernel_rfl) ?_ ?_
  · refine BOk.cons rfl [] [6] rfl rfl (by kernel_rfl) (by kernel_rfl) (fun qK qa wr hB qO qF hK => ?_) ?_
    · have e6 : qa.tmps[6]? = some (.pointer (some ⟨g6, 0, none⟩)) := qO.1.trans rfl
      clear qO qF
      go_simp
      exact hK _ _ (Below.refl _ _) rfl
    refine BOk.cons rfl [0] [] rfl rfl (by kernel_rfl) (by kernel_rfl) (fun qK qa wr hB qO qF hK => ?_) ?_
    · obtain ⟨u49, e49, r0⟩ := qF.1
      have e49 : qa.tmps[49]? = some (.pointer (some ⟨g6, 0, none⟩)) := (show u49 = .pointer (some ⟨g6, 0, none⟩) from r0) ▸ e49
      clear r0
      clear qO qF
      have hc60 := (bcell hB _ _ (World.block_lt_of_cell? _ _ c60)).trans c60
      go_simp
      exact hK _ _ (Below.refl _ _) rfl
    refine BOk.cons rfl [1] [] rfl rfl (by kernel_rfl) (by kernel_rfl) (fun qK qa wr hB qO qF hK => ?_) ?_
    · obtain ⟨u50, e50, r1⟩ := qF.1
      have e50 : qa.tmps[50]? = some (.int .i64 1) := (show u50 = .int .i64 1 from r1) ▸ e50
      clear r1
      clear qO qF
      go_simp
      exact hK _ _ (Below.refl _ _) (show (_ : Value) = _ from by first | rfl | (simp; done) | (simp; omega))
    refine BOk.cons rfl [2] [] rfl rfl (by kernel_rfl) (by kernel_rfl) (fun qK qa wr hB qO qF hK => ?_) ?_
    · obtain ⟨u51, e51, r2⟩ := qF.1
      have e51 : qa.tmps[51]? = some (.bool false) := (show u51 = .bool false from r2) ▸ e51
      clear r2
      clear qO qF
      go_simp
      exact hK _ _ (Below.refl _ _) rfl
    refine BOk.yes rfl [] [5] rfl 3 false rfl rfl rfl (by kernel_rfl) (by kernel_rfl) (by kernel_rfl) (fun qK qa wr hB qO qF hK => ?_) ?_
    · have e5 : qa.tmps[5]? = some (.pointer (some ⟨g5, 0, none⟩)) := qO.1.trans rfl
      clear qO qF
      have hc50 := (bcell hB _ _ (World.block_lt_of_cell? _ _ c50)).trans c50
      have hc51 := (bcell hB _ _ (World.block_lt_of_cell? _ _ c51)).trans c51
      go_simp
      exact hK _ _ (Below.refl _ _) rfl
    refine BOk.yes rfl [] [1] rfl 3 false rfl rfl rfl (by kernel_rfl) (by kernel_rfl) (by kernel_rfl) (fun qK qa wr hB qO qF hK => ?_) ?_
    · have e1 : qa.tmps[1]? = some (.int .i64 b) := qO.1.trans rfl
      clear qO qF
      go_simp
      exact hK _ _ (Below.refl _ _) rfl
    refine BOk.yes rfl [5] [] rfl 3 false rfl rfl rfl (by kernel_rfl) (by kernel_rfl) (by kernel_rfl) (fun qK qa wr hB qO qF hK => ?_) ?_
    · obtain ⟨u54, e54, r5⟩ := qF.1
      have e54 : qa.tmps[54]? = some (.int .i64 b) := (show u54 = .int .i64 b from r5) ▸ e54
      clear r5
      clear qO qF
      go_simp
      go_at_call 24
      refine (num_any b _).mono ?_
      rintro e w2 ⟨rfl, hb2⟩
      exact hK _ _ hb2 rfl
    refine BOk.yes rfl [4, 6] [] rfl 3 false rfl rfl rfl (by kernel_rfl) (by kernel_rfl) (by kernel_rfl) (fun qK qa wr hB qO qF hK => ?_) ?_
    · obtain ⟨u53, e53, r4⟩ := qF.1
      have e53 : qa.tmps[53]? = some (.agg #[.int .i64 1, .int .u64 (un q)]) := (show u53 = .agg #[.int .i64 1, .int .u64 (un q)] from r4) ▸ e53
      clear r4
      obtain ⟨u55, e55, r6⟩ := qF.2.1
      have e55 : qa.tmps[55]? = some (.agg #[.int .i64 1, .int .u64 (un b)]) := (show u55 = .agg #[.int .i64 1, .int .u64 (un b)] from r6) ▸ e55
      clear r6
      clear qO qF
      go_simp
      exact hK _ _ ((Below.refl _ _).alloc (Nat.le_refl _) _) ⟨_, rfl, Bk.new _ _ _⟩
    refine BOk.yes rfl [7] [] rfl 3 false rfl rfl rfl (by kernel_rfl) (by kernel_rfl) (by kernel_rfl) (fun qK qa wr hB qO qF hK => ?_) ?_
    · obtain ⟨u56, e56, r7⟩ := qF.1
      obtain ⟨g56, h56, k56⟩ := (show ∃ g, u56 = .slice (some ⟨g, 0, none⟩) 2 2 ∧ Bk wr g 24 #[.int .i64 1, .int .u64 (un q), .int .i64 1, .int .u64 (un b)] from r7)
      subst h56
      have e56 : qa.tmps[56]? = some (.slice (some ⟨g56, 0, none⟩) 2 2) := e56
      clear qO qF
      go_simp
      go_at_call 23
      refine (do_bk 3 [(intV q), (intV b)] _ _ k56 rfl (by intro q hq; simp only [List.mem_cons, List.not_mem_nil, or_false] at hq; rcases hq with rfl | rfl; exact intV_fits q; exact intV_fits b) (by simp)).mono ?_
      rintro e w2 ⟨rfl, hb2⟩
      rw [e3]
      exact hK _ _ hb2 rfl
    refine BOk.yes rfl [] [6] rfl 3 false rfl rfl rfl (by kernel_rfl) (by kernel_rfl) (by kernel_rfl) (fun qK qa wr hB qO qF hK => ?_) ?_
    · have e6 : qa.tmps[6]? = some (.pointer (some ⟨g6, 0, none⟩)) := qO.1.trans rfl
      clear qO qF
      have hc60 := (bcell hB _ _ (World.block_lt_of_cell? _ _ c60)).trans c60
      have hc61 := (bcell hB _ _ (World.block_lt_of_cell? _ _ c61)).trans c61
      go_simp
      exact hK _ _ (Below.refl _ _) rfl
    refine BOk.yes rfl [8, 9] [] rfl 3 false rfl rfl rfl (by kernel_rfl) (by kernel_rfl) (by kernel_rfl) (fun qK qa wr hB qO qF hK => ?_) ?_
    · obtain ⟨u57, e57, r8⟩ := qF.1
      have e57 : qa.tmps[57]? = some (.agg #[.int .i64 1, .int .u64 (un (q * b))]) := (show u57 = .agg #[.int .i64 1, .int .u64 (un (q * b))] from r8) ▸ e57
      clear r8
      obtain ⟨u58, e58, r9⟩ := qF.2.1
      have e58 : qa.tmps[58]? = some (.agg #[.int .i64 1, .int .u64 (un x)]) := (show u58 = .agg #[.int .i64 1, .int .u64 (un x)] from r9) ▸ e58
      clear r9
      clear qO qF
      go_simp
      exact hK _ _ ((Below.refl _ _).alloc (Nat.le_refl _) _) ⟨_, rfl, Bk.new _ _ _⟩
    refine BOk.yes rfl [10] [] rfl 3 false rfl rfl rfl (by kernel_rfl) (by kernel_rfl) (by kernel_rfl) (fun qK qa wr hB qO qF hK => ?_) ?_
    · obtain ⟨u59, e59, r10⟩ := qF.1
      obtain ⟨g59, h59, k59⟩ := (show ∃ g, u59 = .slice (some ⟨g, 0, none⟩) 2 2 ∧ Bk wr g 24 #[.int .i64 1, .int .u64 (un (q * b)), .int .i64 1, .int .u64 (un x)] from r10)
      subst h59
      have e59 : qa.tmps[59]? = some (.slice (some ⟨g59, 0, none⟩) 2 2) := e59
      clear qO qF
      go_simp
      go_at_call 23
      refine (do_bk 1 [(intV (q * b)), (intV x)] _ _ k59 rfl (by intro q hq; simp only [List.mem_cons, List.not_mem_nil, or_false] at hq; rcases hq with rfl | rfl; exact intV_fits _; exact intV_fits _) (by simp)).mono ?_
      rintro e w2 ⟨rfl, hb2⟩
      rw [e1]
      exact hK _ _ hb2 rfl
    refine BOk.yes rfl [] [0] rfl 3 false rfl rfl rfl (by kernel_rfl) (by kernel_rfl) (by kernel_rfl) (fun qK qa wr hB qO qF hK => ?_) ?_
    · have e0 : qa.tmps[0]? = some (.int .i64 a) := qO.1.trans rfl
      clear qO qF
      go_simp
      exact hK _ _ (Below.refl _ _) rfl
    refine BOk.yes rfl [12] [] rfl 3 false rfl rfl rfl (by kernel_rfl) (by kernel_rfl) (by kernel_rfl) (fun qK qa wr hB qO qF hK => ?_) ?_
    · obtain ⟨u61, e61, r12⟩ := qF.1
      have e61 : qa.tmps[61]? = some (.int .i64 a) := (show u61 = .int .i64 a from r12) ▸ e61
      clear r12
      clear qO qF
      go_simp
      go_at_call 24
      refine (num_any a _).mono ?_
      rintro e w2 ⟨rfl, hb2⟩
      exact hK _ _ hb2 rfl
    refine BOk.yes rfl [11, 13] [] rfl 3 false rfl rfl rfl (by kernel_rfl) (by kernel_rfl) (by kernel_rfl) (fun qK qa wr hB qO qF hK => ?_) ?_
    · obtain ⟨u60, e60, r11⟩ := qF.1
      have e60 : qa.tmps[60]? = some (.agg #[.int .i64 1, .int .u64 (un a)]) := (show u60 = .agg #[.int .i64 1, .int .u64 (un a)] from r11) ▸ e60
      clear r11
      obtain ⟨u62, e62, r13⟩ := qF.2.1
      have e62 : qa.tmps[62]? = some (.agg #[.int .i64 1, .int .u64 (un a)]) := (show u62 = .agg #[.int .i64 1, .int .u64 (un a)] from r13) ▸ e62
      clear r13
      clear qO qF
      go_simp
      exact hK _ _ (Below.refl _ _) (show (_ : Value) = _ from by first | rfl | (simp; done) | (simp; omega))
    refine BOk.cons rfl [3, 14] [] rfl rfl (by kernel_rfl) (by kernel_rfl) (fun qK qa wr hB qO qF hK => ?_) ?_
    · obtain ⟨u52, e52, r3⟩ := qF.1
      have e52 : qa.tmps[52]? = some (.bool false) := (show u52 = .bool false from r3) ▸ e52
      clear r3
      obtain ⟨u63, e63, r14⟩ := qF.2.1
      have e63 : qa.tmps[63]? = some (.bool false) := (show u63 = .bool false from r14) ▸ e63
      clear r14
      clear qO qF
      go_simp
      exact hK _ _ (Below.refl _ _) (show (_ : Value) = _ from by first | rfl | (simp; done) | (simp; omega))
    refine BOk.cons rfl [15] [] rfl rfl (by kernel_rfl) (by kernel_rfl) (fun qK qa wr hB qO qF hK => ?_) ?_
    · obtain ⟨u64, e64, r15⟩ := qF.1
      have e64 : qa.tmps[64]? = some (.bool false) := (show u64 = .bool false from r15) ▸ e64
      clear r15
      clear qO qF
      go_simp
      exact hK _ _ (Below.refl _ _) rfl
    refine BOk.yes rfl [] [7] rfl 16 false rfl rfl rfl (by kernel_rfl) (by kernel_rfl) (by kernel_rfl) (fun qK qa wr hB qO qF hK => ?_) ?_
    · have e7 : qa.tmps[7]? = some (.int .i64 x) := qO.1.trans rfl
      clear qO qF
      go_simp
      exact hK _ _ (Below.refl _ _) rfl
    refine BOk.yes rfl [17] [] rfl 16 false rfl rfl rfl (by kernel_rfl) (by kernel_rfl) (by kernel_rfl) (fun qK qa wr hB qO qF hK => ?_) ?_
    · obtain ⟨u66, e66, r17⟩ := qF.1
      have e66 : qa.tmps[66]? = some (.int .i64 x) := (show u66 = .int .i64 x from r17) ▸ e66
      clear r17
      clear qO qF
      go_simp
      exact hK _ _ (Below.refl _ _) (show (_ : Value) = _ from by first | rfl | (simp; done) | (simp; omega))
    refine BOk.yes rfl [18] [] rfl 16 false rfl rfl rfl (by kernel_rfl) (by kernel_rfl) (by kernel_rfl) (fun qK qa wr hB qO qF hK => ?_) ?_
    · obtain ⟨u67, e67, r18⟩ := qF.1
      have e67 : qa.tmps[67]? = some (.bool false) := (show u67 = .bool false from r18) ▸ e67
      clear r18
      clear qO qF
      go_simp
      exact hK _ _ (Below.refl _ _) rfl
    refine BOk.no rfl rfl 19 true rfl rfl rfl (by kernel_rfl) (fun _ => rfl) ?_
    refine BOk.no rfl rfl 19 true rfl rfl rfl (by kernel_rfl) (fun _ => rfl) ?_
    refine BOk.yes rfl [19] [] rfl 16 false rfl rfl rfl (by kernel_rfl) (by kernel_rfl) (by kernel_rfl) (fun qK qa wr hB qO qF hK => ?_) ?_
    · obtain ⟨u68, e68, r19⟩ := qF.1
      have e68 : qa.tmps[68]? = some (.bool false) := (show u68 = .bool false from r19) ▸ e68
      clear r19
      clear qO qF
      go_simp
      exact hK _ _ (Below.refl _ _) (show (_ : Value) = _ from by first | rfl | (simp; done) | (simp; omega))
    refine BOk.cons rfl [16, 22] [] rfl rfl (by kernel_rfl) (by kernel_rfl) (fun qK qa wr hB qO qF hK => ?_) ?_
    · obtain ⟨u65, e65, r16⟩ := qF.1
      have e65 : qa.tmps[65]? = some (.bool false) := (show u65 = .bool false from r16) ▸ e65
      clear r16
      obtain ⟨u71, e71, r22⟩ := qF.2.1
      have e71 : qa.tmps[71]? = some (.bool false) := (show u71 = .bool false from r22) ▸ e71
      clear r22
      clear qO qF
      go_simp
      exact hK _ _ (Below.refl _ _) (show (_ : Value) = _ from by first | rfl | (simp; done) | (simp; omega))
    refine BOk.cons rfl [23] [] rfl rfl (by kernel_rfl) (by kernel_rfl) (fun qK qa wr hB qO qF hK => ?_) ?_
    · obtain ⟨u72, e72, r23⟩ := qF.1
      have e72 : qa.tmps[72]? = some (.bool false) := (show u72 = .bool false from r23) ▸ e72
      clear r23
      clear qO qF
      go_simp
      exact hK _ _ (Below.refl _ _) rfl
    refine BOk.yes rfl [] [7] rfl 24 false rfl rfl rfl (by kernel_rfl) (by kernel_rfl) (by kernel_rfl) (fun qK qa wr hB qO qF hK => ?_) ?_
    · have e7 : qa.tmps[7]? = some (.int .i64 x) := qO.1.trans rfl
      clear qO qF
      go_simp
      exact hK _ _ (Below.refl _ _) rfl
    refine BOk.yes rfl [25] [] rfl 24 false rfl rfl rfl (by kernel_rfl) (by kernel_rfl) (by kernel_rfl) (fun qK qa wr hB qO qF hK => ?_) ?_
    · obtain ⟨u74, e74, r25⟩ := qF.1
      have e74 : qa.tmps[74]? = some (.int .i64 x) := (show u74 = .int .i64 x from r25) ▸ e74
      clear r25
      clear qO qF
      go_simp
      exact hK _ _ (Below.refl _ _) (show (_ : Value) = _ from by first | rfl | (simp; done) | (simp; omega))
    refine BOk.yes rfl [26] [] rfl 24 false rfl rfl rfl (by kernel_rfl) (by kernel_rfl) (by kernel_rfl) (fun qK qa wr hB qO qF hK => ?_) ?_
    · obtain ⟨u75, e75, r26⟩ := qF.1
      have e75 : qa.tmps[75]? = some (.bool true) := (show u75 = .bool true from r26) ▸ e75
      clear r26
      clear qO qF
      go_simp
      exact hK _ _ (Below.refl _ _) rfl
    refine BOk.yes rfl [] [0] rfl 27 true rfl rfl rfl (by kernel_rfl) (by kernel_rfl) (by kernel_rfl) (fun qK qa wr hB qO qF hK => ?_) ?_
    · have e0 : qa.tmps[0]? = some (.int .i64 a) := qO.1.trans rfl
      clear qO qF
      go_simp
      exact hK _ _ (Below.refl _ _) rfl
    refine BOk.yes rfl [28] [] rfl 27 true rfl rfl rfl (by kernel_rfl) (by kernel_rfl) (by kernel_rfl) (fun qK qa wr hB qO qF hK => ?_) ?_
    · obtain ⟨u77, e77, r28⟩ := qF.1
      have e77 : qa.tmps[77]? = some (.int .i64 a) := (show u77 = .int .i64 a from r28) ▸ e77
      clear r28
      clear qO qF
      go_simp
      exact hK _ _ (Below.refl _ _) (show (_ : Value) = _ from by first | rfl | (simp; done) | (simp; omega))
    refine BOk.yes rfl [27, 29] [] rfl 24 false rfl rfl rfl (by kernel_rfl) (by kernel_rfl) (by kernel_rfl) (fun qK qa wr hB qO qF hK => ?_) ?_
    · obtain ⟨u76, e76, r27⟩ := qF.1
      have e76 : qa.tmps[76]? = some (.bool true) := (show u76 = .bool true from r27) ▸ e76
      clear r27
      obtain ⟨u78, e78, r29⟩ := qF.2.1
      have e78 : qa.tmps[78]? = some (.bool false) := (show u78 = .bool false from r29) ▸ e78
      clear r29
      clear qO qF
      go_simp
      exact hK _ _ (Below.refl _ _) (show (_ : Value) = _ from by first | rfl | (simp; done) | (simp; omega))
    refine BOk.cons rfl [24, 30] [] rfl rfl (by kernel_rfl) (by kernel_rfl) (fun qK qa wr hB qO qF hK => ?_) ?_
    · obtain ⟨u73, e73, r24⟩ := qF.1
      have e73 : qa.tmps[73]? = some (.bool false) := (show u73 = .bool false from r24) ▸ e73
      clear r24
      obtain ⟨u79, e79, r30⟩ := qF.2.1
      have e79 : qa.tmps[79]? = some (.bool false) := (show u79 = .bool false from r30) ▸ e79
      clear r30
      clear qO qF
      go_simp
      exact hK _ _ (Below.refl _ _) (show (_ : Value) = _ from by first | rfl | (simp; done) | (simp; omega))
    exact BOk.nil
  intro vals wr hl hB hR
  match vals, hl with
  | [x49, x50, x51, x52, x53, x54, x55, x56, x57, x58, x59, x60, x61, x62, x63, x64, x65, x66, x67, x68, x69, x70, x71, x72, x73, x74, x75, x76, x77, x78, x79, x80], _ =>
  have r31 : x80 = .bool false := hR 31 _ rfl
  subst r31
  clear hR
  simp only [putAll, Act.put, List.setIfInBounds_toArray, List.set_cons_zero, List.set_cons_succ]
  have hbel := hbW.trans (hB.mono hbW.size)
  clear hB e1 e3 c50 c51 c60 c61 k5 k6 hbW
  have hbb := H.out.b64
  have hll := H.out.less
  have hb0 := H.out.b0
  unfold I64 at hbb
  have hx1 : -9223372036854775808 < x := by omega
  have hx2 : x < 9223372036854775808 := by omega
  have E9 := Lib.hid (show applyV 9 [intV (-x), intV 0] = yesV true from (less_of (-x) (by unfold I64; omega)).trans (by first | rfl | (congr 1; simp; try omega)))
  have hne : (x != 0) = true := by rw [bne_iff_ne]; omega
  have HL := Lib.hid hll
  have HB := Lib.hid hbb
  clear hll hb0
  obtain ⟨hq1, hq2⟩ := hbb
  go_wp2_with fail
  refine (num_any (-x) _).mono ?_
  rintro e w8 ⟨rfl, hb8⟩
  have hbel := hbel.trans (hb8.mono hbel.size)
  clear hb8
  go_wp2_with fail
  refine (num_any 0 _).mono ?_
  rintro e w9 ⟨rfl, hb9⟩
  have hbel := hbel.trans (hb9.mono hbel.size)
  clear hb9
  simp only [intV, V.v]
  go_wp2_with fail
  refine (do2 9 (intV (-x)) (intV 0) (intV_fits _) (intV_fits _) w9).mono ?_
  rintro e w10 ⟨rfl, hb10⟩
  have hbel : Below w.heap.size w w10 := hbel.trans (hb10.mono hbel.size)
  clear hb10
  rw [E9.out]
  simp only [yesV]
  go_wp2_with fail
  refine (rtruth_any true _).mono ?_
  rintro e w11 ⟨rfl, hb11⟩
  have hbel := hbel.trans (hb11.mono hbel.size)
  clear hb11
  simp only [yesV]
  go_wp2_with fail
  all_goals go_ret
  all_goals exact ⟨ret_bool (by have := HL.out; have := HB.out; simp; unfold wrap64 at *; omega), hbel⟩

theorem walk (a b : Int) (w : World) (ha : (Lit.int .i64 a).wf = true) (hb : (Lit.int .i64 b).wf = true) :
    Calls Try.prog 10 #[.int .i64 a, .int .i64 b] w fun e w' => e = .returned (.bool true) ∧ Below w.heap.size w w' := by
  have ha := I64_wf ha
  have hb := I64_wf hb
  by_cases h0 : b = 0
  · subst h0; exact walk_zero a ha w
  by_cases hl : a = -9223372036854775808 ∧ b = -1
  · obtain ⟨rfl, rfl⟩ := hl
    exact walk_least w
  obtain ⟨q, x, h⟩ := divs ha hb h0 hl
  rcases Int.lt_trichotomy x 0 with hx | rfl | hx
  · exact walk_neg a b q x h hx w
  · exact walk_nil a b q h w
  · exact walk_pos a b q x h hx w

theorem own : ownKnob Try.prog.godebug = none := by kernel_rfl
theorem laidOut : laidOutB Try.prog = true := by kernel_rfl
theorem rec0 : (Try.f10.params.toList.all fun t => Try.prog.readableRec t && decide (t < Try.prog.types.size)) = true := by kernel_rfl
set_option maxRecDepth 100000 in
theorem lifted (os : Os) (started : os.Started) (H : Type) (enc : TypeId × Value → H) :
    ReturnsInHanded {} Try.checked os 10 .any (Rows.valueDividesSpec.pre6 enc Try.prog Try.f10 Rows.valueDividesRow.domain false) (Rows.valueDividesSpec.post enc Try.prog Try.f10 false true false false) := by
  refine law_step (C := Try.checked) (tb := 4) own started (by kernel_rfl) Try.func10
    (ChangeSpec.witness6 (enc := enc) (C := Try.checked) false ⟨#[], #[.int .i64 0, .int .i64 0], []⟩ 8 (by kernel_rfl) (by kernel_rfl) (by kernel_rfl) (by kernel_rfl)) laidOut ?_ rfl Try.underlying4 rfl ?_ ?_
  · intro t ht
    have := List.all_eq_true.1 rec0 t ht
    simp only [Bool.and_eq_true, decide_eq_true_eq] at this
    exact this
  · intro ds hd
    match ds, hd with
    | [d0, d1], _ => exact ⟨rfl, rfl, rfl⟩
  intro W base args ds p hval hA hsz
  rw [Try.params10] at hA hval hsz
  obtain ⟨v0, vs0, d0, ds0, p0, q0, hargs, rfl, rfl, h0, r0⟩ := trodAll_cons hA
  obtain ⟨v1, vs1, d1, ds1, p1, q1, rfl, rfl, rfl, h1, r1⟩ := trodAll_cons r0
  obtain ⟨rfl, rfl, rfl⟩ := trodAll_nil r1
  obtain rfl : args = #[v0, v1] := by cases args; simp_all
  obtain ⟨n0, rfl, _, _, hn0⟩ := open_int Try.underlying2 (hval 0 2 v0 rfl rfl) h0
  obtain ⟨n1, rfl, _, _, hn1⟩ := open_int Try.underlying2 (hval 1 2 v1 rfl rfl) h1
  exact walk n0 n1 W hn0 hn1

theorem valueDivides_holds : Rows.ValueDividesSaid :=
  OpenClaim.holds_of_wide 10 Try.f10 rfl rfl rfl rfl rfl rfl rfl ⟨rfl, rfl, rfl, rfl, rfl⟩ rfl rfl rfl rfl rfl (by kernel_rfl) Try.func10 (by kernel_rfl)
    (of_decide_eq_true (by kernel_rfl)) (by unfold Func.isWrapper; first | (rw [if_pos (by decide +kernel)]; kernel_rfl) | (rw [if_neg (by decide +kernel)]; exact ⟨rfl, rfl⟩))
    (fun os started H enc _ => lifted os started H enc)
#print axioms valueDivides_holds
end Go.Proofs.Ytlejjchaooeabaa.valueDivides
