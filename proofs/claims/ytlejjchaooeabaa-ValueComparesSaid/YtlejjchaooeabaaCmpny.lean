/- A case of the walk of ValueCompares. No conditions. -/
import Derived.Test.YtlejjchaooeabaaCmpP
import Derived.Deep.DeepCutAuto
namespace Go.Proofs.Ytlejjchaooeabaa.valueCompares
open Go.RowKit
set_option linter.unusedSimpArgs false
set_option linter.unusedVariables false
def cmpR3_ny (x y : V) (p q r u8 u10 u12 : Nat) (D D2 : V) (w : World) (Bq : Nat) : List Spec := [.is (.agg #[.int .i64 x.k, .int .u64 x.b]),
  .is (.agg #[.int .i64 y.k, .int .u64 y.b]),
  .st (fun v w => ∃ g, v = .slice (some ⟨g, 0, none⟩) 2 2 ∧ Bk w g 24 #[.int .i64 x.k, .int .u64 x.b, .int .i64 y.k, .int .u64 y.b]) (fun _ _ _ hb ⟨g, h1, h2⟩ => ⟨g, h1, h2.old hb⟩),
  .is (.agg #[.int .i64 2, .int .u64 p]),
  .is (.agg #[.int .i64 x.k, .int .u64 x.b]),
  .is (.agg #[.int .i64 y.k, .int .u64 y.b]),
  .st (fun v w => ∃ g, v = .slice (some ⟨g, 0, none⟩) 2 2 ∧ Bk w g 24 #[.int .i64 x.k, .int .u64 x.b, .int .i64 y.k, .int .u64 y.b]) (fun _ _ _ hb ⟨g, h1, h2⟩ => ⟨g, h1, h2.old hb⟩),
  .is (.agg #[.int .i64 2, .int .u64 q]),
  .is (.agg #[.int .i64 x.k, .int .u64 x.b]),
  .is (.agg #[.int .i64 y.k, .int .u64 y.b]),
  .st (fun v w => ∃ g, v = .slice (some ⟨g, 0, none⟩) 2 2 ∧ Bk w g 24 #[.int .i64 x.k, .int .u64 x.b, .int .i64 y.k, .int .u64 y.b]) (fun _ _ _ hb ⟨g, h1, h2⟩ => ⟨g, h1, h2.old hb⟩),
  .is (.agg #[.int .i64 2, .int .u64 r]),
  .st (fun v w => ∃ g, v = .pointer (some ⟨g, 0, none⟩) ∧ Bq ≤ g ∧ Bk w g 24 #[.int .i64 0, .int .u64 0]) (fun _ _ _ hb ⟨g, h1, h0, h2⟩ => ⟨g, h1, h0, h2.old hb⟩),
  .st (fun v w => ∃ g, v = .pointer (some ⟨g, 0, none⟩) ∧ Bq ≤ g ∧ Bk w g 24 #[.int .i64 0, .int .u64 0]) (fun _ _ _ hb ⟨g, h1, h0, h2⟩ => ⟨g, h1, h0, h2.old hb⟩),
  .st (fun v w => ∃ g, v = .pointer (some ⟨g, 0, none⟩) ∧ Bq ≤ g ∧ Bk w g 24 #[.int .i64 0, .int .u64 0]) (fun _ _ _ hb ⟨g, h1, h0, h2⟩ => ⟨g, h1, h0, h2.old hb⟩)]
def cmpR7_ny (x y : V) (p q r u8 u10 u12 : Nat) (D D2 : V) (w : World) : List Spec := [.is (.agg #[.int .i64 x.k, .int .u64 x.b]),
  .st (fun v w => ∃ g, v = .slice (some ⟨g, 0, none⟩) 1 1 ∧ Bk w g 24 #[.int .i64 x.k, .int .u64 x.b]) (fun _ _ _ hb ⟨g, h1, h2⟩ => ⟨g, h1, h2.old hb⟩),
  .is (.agg #[.int .i64 D.k, .int .u64 D.b]),
  .is (.agg #[.int .i64 2, .int .u64 1]),
  .is (.bool false),
  .is (.bool false),
  .is (.agg #[.int .i64 y.k, .int .u64 y.b]),
  .st (fun v w => ∃ g, v = .slice (some ⟨g, 0, none⟩) 1 1 ∧ Bk w g 24 #[.int .i64 y.k, .int .u64 y.b]) (fun _ _ _ hb ⟨g, h1, h2⟩ => ⟨g, h1, h2.old hb⟩),
  .is (.agg #[.int .i64 2, .int .u64 1]),
  .is (.agg #[.int .i64 2, .int .u64 1]),
  .is (.bool true),
  .is (.bool true),
  .is (.bool true)]
def cmpR8_ny (x y : V) (p q r u8 u10 u12 : Nat) (D D2 : V) (w : World) (g5 g6 g7 : Nat) : List Spec := [.is (.int .i64 ((p : Int) + (q : Int) + (r : Int))),
  .is (.bool false),
  .is (.bool true),
  .is (.bool false),
  .is (.bool true),
  .is (.bool true),
  .is (.int .i64 ((p : Int) + (q : Int) + (r : Int))),
  .is (.bool true),
  .is (.bool true),
  .is (.bool true),
  .is (.bool true),
  .is (.bool true),
  .is (.agg #[.int .i64 x.k, .int .u64 x.b]),
  .is (.agg #[.int .i64 y.k, .int .u64 y.b]),
  .st (fun v w => ∃ g, v = .slice (some ⟨g, 0, none⟩) 2 2 ∧ Bk w g 24 #[.int .i64 x.k, .int .u64 x.b, .int .i64 y.k, .int .u64 y.b]) (fun _ _ _ hb ⟨g, h1, h2⟩ => ⟨g, h1, h2.old hb⟩),
  .is (.agg #[.int .i64 2, .int .u64 u8]),
  .is (.agg #[.int .i64 2, .int .u64 q]),
  .st (fun v w => ∃ g, v = .slice (some ⟨g, 0, none⟩) 1 1 ∧ Bk w g 24 #[.int .i64 2, .int .u64 q]) (fun _ _ _ hb ⟨g, h1, h2⟩ => ⟨g, h1, h2.old hb⟩),
  .is (.agg #[.int .i64 2, .int .u64 u8]),
  .is (.bool true),
  .is (.bool true),
  .is (.bool true),
  .is (.agg #[.int .i64 x.k, .int .u64 x.b]),
  .is (.agg #[.int .i64 y.k, .int .u64 y.b]),
  .st (fun v w => ∃ g, v = .slice (some ⟨g, 0, none⟩) 2 2 ∧ Bk w g 24 #[.int .i64 x.k, .int .u64 x.b, .int .i64 y.k, .int .u64 y.b]) (fun _ _ _ hb ⟨g, h1, h2⟩ => ⟨g, h1, h2.old hb⟩),
  .is (.agg #[.int .i64 2, .int .u64 u10]),
  .is (.agg #[.int .i64 2, .int .u64 p]),
  .is (.agg #[.int .i64 2, .int .u64 q]),
  .st (fun v w => ∃ g, v = .slice (some ⟨g, 0, none⟩) 2 2 ∧ Bk w g 24 #[.int .i64 2, .int .u64 p, .int .i64 2, .int .u64 q]) (fun _ _ _ hb ⟨g, h1, h2⟩ => ⟨g, h1, h2.old hb⟩),
  .is (.agg #[.int .i64 2, .int .u64 u10]),
  .is (.bool true),
  .is (.bool true),
  .is (.bool true),
  .is (.agg #[.int .i64 x.k, .int .u64 x.b]),
  .is (.agg #[.int .i64 y.k, .int .u64 y.b]),
  .st (fun v w => ∃ g, v = .slice (some ⟨g, 0, none⟩) 2 2 ∧ Bk w g 24 #[.int .i64 x.k, .int .u64 x.b, .int .i64 y.k, .int .u64 y.b]) (fun _ _ _ hb ⟨g, h1, h2⟩ => ⟨g, h1, h2.old hb⟩),
  .is (.agg #[.int .i64 2, .int .u64 u12]),
  .is (.agg #[.int .i64 2, .int .u64 r]),
  .is (.agg #[.int .i64 2, .int .u64 q]),
  .st (fun v w => ∃ g, v = .slice (some ⟨g, 0, none⟩) 2 2 ∧ Bk w g 24 #[.int .i64 2, .int .u64 r, .int .i64 2, .int .u64 q]) (fun _ _ _ hb ⟨g, h1, h2⟩ => ⟨g, h1, h2.old hb⟩),
  .is (.agg #[.int .i64 2, .int .u64 u12]),
  .is (.bool true),
  .is (.bool true),
  .is (.bool true)]
set_option maxRecDepth 100000 in
set_option maxHeartbeats 8000000 in
theorem walk_ny (x y : V) (p q r u8 u10 u12 : Nat) (D D2 : V) (hx : x.fits) (hy : y.fits) (e9 : applyV 9 [x, y] = (V.mk 2 p)) (e7 : applyV 7 [x, y] = (V.mk 2 q)) (e11 : applyV 11 [x, y] = (V.mk 2 r)) (hp : (V.mk 2 p).fits) (hq : (V.mk 2 q).fits) (hr : (V.mk 2 r).fits) (hu8 : (V.mk 2 u8).fits) (hu10 : (V.mk 2 u10).fits) (hu12 : (V.mk 2 u12).fits) (hD : D.fits) (hD2 : D2.fits) (hp1 : (p : Int) ≤ 1) (hq1 : (q : Int) ≤ 1) (hr1 : (r : Int) ≤ 1) (e17 : applyV 17 [x] = D) (e18 : applyV 17 [y] = D2) (e8 : applyV 8 [x, y] = V.mk 2 u8) (e15 : applyV 15 [V.mk 2 q] = V.mk 2 u8) (e10 : applyV 10 [x, y] = V.mk 2 u10) (e14 : applyV 14 [V.mk 2 p, V.mk 2 q] = V.mk 2 u10) (e12 : applyV 12 [x, y] = V.mk 2 u12) (e16 : applyV 14 [V.mk 2 r, V.mk 2 q] = V.mk 2 u12) (s1 : ((p : Int) + (q : Int) + (r : Int) == 1) = false) (s0 : ((p : Int) + (q : Int) + (r : Int) == 0) = true) (n1 : ¬ (D.k = 2 ∧ D.b = 1)) (n2 : D2 = V.mk 2 1) (w : World) :
    Calls Try.prog 11 #[x.v, y.v] w fun e w' => e = .returned (.bool true) ∧ Below w.heap.size w w' := by
  unfold V.v
  have He9 := Lib.hid e9; have He7 := Lib.hid e7; have He11 := Lib.hid e11; have He17 := Lib.hid e17; have He18 := Lib.hid e18; have He8 := Lib.hid e8; have He15 := Lib.hid e15; have He10 := Lib.hid e10; have He14 := Lib.hid e14; have He12 := Lib.hid e12; have He16 := Lib.hid e16; have Hn1 := Lib.hid n1; have Hs1 := Lib.hid s1; have Hs0 := Lib.hid s0; have Hn2 := Lib.hid n2
  clear e9 e7 e11 e17 e18 e8 e15 e10 e14 e12 e16 n1 s1 s0 n2
  go_enter Try.func11, Try.ntmps11
  go_wp2_with fail
  refine (awake_any _).mono ?_
  rintro e w1 ⟨rfl, hb1⟩
  have k2 : Bk ((w.alloc (.cells #[.int .i64 x.k, .int .u64 x.b] 24)).alloc (.cells #[.int .i64 y.k, .int .u64 y.b] 24)) w.heap.size 24 #[.int .i64 x.k, .int .u64 x.b] := (Bk.new w _ _).alloc _
  have k3 : Bk ((w.alloc (.cells #[.int .i64 x.k, .int .u64 x.b] 24)).alloc (.cells #[.int .i64 y.k, .int .u64 y.b] 24)) (w.heap.size + 1) 24 #[.int .i64 y.k, .int .u64 y.b] := Bk.newAt (by simp) _ _
  have hbW : Below w.heap.size w ((w.alloc (.cells #[.int .i64 x.k, .int .u64 x.b] 24)).alloc (.cells #[.int .i64 y.k, .int .u64 y.b] 24)) := ((Below.refl _ _).alloc (by simp) _).alloc (by simp) _
  have k2 := k2.old hb1
  have k3 := k3.old hb1
  have hbW := hbW.trans (hb1.mono hbW.size)
  have hz : w.heap.size + 1 < w1.heap.size := k3.lt
  clear hb1
  go_wp2_with fail
  refine wp_abs (fun W => W = w1) rfl ?_
  intro W hW
  subst hW
  have ⟨c20, c21, _, _⟩ := vcells k2
  have ⟨c30, c31, _, _⟩ := vcells k3
  have e9 := He9.out; have e7 := He7.out; have e11 := He11.out
  refine wp_region_t 15 (fun k => k == 12 || k == 13 || k == 14) (by kernel_rfl) (fun k => (cmpR3_ny x y p q r u8 u10 u12 D D2 w W.heap.size).getD k .any) (by kernel_rfl) ?_ ?_
  · refine BOk.cons rfl [] [2] rfl rfl (by kernel_rfl) (by kernel_rfl) (fun qK qa wr hB qO qF hK => ?_) ?_
    · have e2 : qa.tmps[2]? = some (.pointer (some ⟨w.heap.size, 0, none⟩)) := qO.1.trans rfl
      clear qO qF
      have hc20 := (bcell hB _ _ (World.block_lt_of_cell? _ _ c20)).trans c20
      have hc21 := (bcell hB _ _ (World.block_lt_of_cell? _ _ c21)).trans c21
      go_simp
      exact hK _ _ (Below.refl _ _) rfl
    refine BOk.cons rfl [] [3] rfl rfl (by kernel_rfl) (by kernel_rfl) (fun qK qa wr hB qO qF hK => ?_) ?_
    · have e3 : qa.tmps[3]? = some (.pointer (some ⟨w.heap.size + 1, 0, none⟩)) := qO.1.trans rfl
      clear qO qF
      have hc30 := (bcell hB _ _ (World.block_lt_of_cell? _ _ c30)).trans c30
      have hc31 := (bcell hB _ _ (World.block_lt_of_cell? _ _ c31)).trans c31
      go_simp
      exact hK _ _ (Below.refl _ _) rfl
    refine BOk.cons rfl [0, 1] [] rfl rfl (by kernel_rfl) (by kernel_rfl) (fun qK qa wr hB qO qF hK => ?_) ?_
    · obtain ⟨u12, e12, r0⟩ := qF.1
      have e12 : qa.tmps[12]? = some (.agg #[.int .i64 x.k, .int .u64 x.b]) := (show u12 = .agg #[.int .i64 x.k, .int .u64 x.b] from r0) ▸ e12
      clear r0
      obtain ⟨u13, e13, r1⟩ := qF.2.1
      have e13 : qa.tmps[13]? = some (.agg #[.int .i64 y.k, .int .u64 y.b]) := (show u13 = .agg #[.int .i64 y.k, .int .u64 y.b] from r1) ▸ e13
      clear r1
      clear qO qF
      go_simp
      exact hK _ _ ((Below.refl _ _).alloc (Nat.le_refl _) _) ⟨_, rfl, Bk.new _ _ _⟩
    refine BOk.cons rfl [2] [] rfl rfl (by kernel_rfl) (by kernel_rfl) (fun qK qa wr hB qO qF hK => ?_) ?_
    · obtain ⟨u14, e14, r2⟩ := qF.1
      obtain ⟨g14, h14, k14⟩ := (show ∃ g, u14 = .slice (some ⟨g, 0, none⟩) 2 2 ∧ Bk wr g 24 #[.int .i64 x.k, .int .u64 x.b, .int .i64 y.k, .int .u64 y.b] from r2)
      subst h14
      have e14 : qa.tmps[14]? = some (.slice (some ⟨g14, 0, none⟩) 2 2) := e14
      clear qO qF
      go_simp
      go_at_call 23
      refine (do_bk 9 [x, y] _ _ k14 rfl (by intro q hq; simp only [List.mem_cons, List.not_mem_nil, or_false] at hq; rcases hq with rfl | rfl; exact hx; exact hy) (by simp)).mono ?_
      rintro e w2 ⟨rfl, hb2⟩
      rw [e9]
      exact hK _ _ hb2 rfl
    refine BOk.cons rfl [] [2] rfl rfl (by kernel_rfl) (by kernel_rfl) (fun qK qa wr hB qO qF hK => ?_) ?_
    · have e2 : qa.tmps[2]? = some (.pointer (some ⟨w.heap.size, 0, none⟩)) := qO.1.trans rfl
      clear qO qF
      have hc20 := (bcell hB _ _ (World.block_lt_of_cell? _ _ c20)).trans c20
      have hc21 := (bcell hB _ _ (World.block_lt_of_cell? _ _ c21)).trans c21
      go_simp
      exact hK _ _ (Below.refl _ _) rfl
    refine BOk.cons rfl [] [3] rfl rfl (by kernel_rfl) (by kernel_rfl) (fun qK qa wr hB qO qF hK => ?_) ?_
    · have e3 : qa.tmps[3]? = some (.pointer (some ⟨w.heap.size + 1, 0, none⟩)) := qO.1.trans rfl
      clear qO qF
      have hc30 := (bcell hB _ _ (World.block_lt_of_cell? _ _ c30)).trans c30
      have hc31 := (bcell hB _ _ (World.block_lt_of_cell? _ _ c31)).trans c31
      go_simp
      exact hK _ _ (Below.refl _ _) rfl
    refine BOk.cons rfl [4, 5] [] rfl rfl (by kernel_rfl) (by kernel_rfl) (fun qK qa wr hB qO qF hK => ?_) ?_
    · obtain ⟨u16, e16, r4⟩ := qF.1
      have e16 : qa.tmps[16]? = some (.agg #[.int .i64 x.k, .int .u64 x.b]) := (show u16 = .agg #[.int .i64 x.k, .int .u64 x.b] from r4) ▸ e16
      clear r4
      obtain ⟨u17, e17, r5⟩ := qF.2.1
      have e17 : qa.tmps[17]? = some (.agg #[.int .i64 y.k, .int .u64 y.b]) := (show u17 = .agg #[.int .i64 y.k, .int .u64 y.b] from r5) ▸ e17
      clear r5
      clear qO qF
      go_simp
      exact hK _ _ ((Below.refl _ _).alloc (Nat.le_refl _) _) ⟨_, rfl, Bk.new _ _ _⟩
    refine BOk.cons rfl [6] [] rfl rfl (by kernel_rfl) (by kernel_rfl) (fun qK qa wr hB qO qF hK => ?_) ?_
    · obtain ⟨u18, e18, r6⟩ := qF.1
      obtain ⟨g18, h18, k18⟩ := (show ∃ g, u18 = .slice (some ⟨g, 0, none⟩) 2 2 ∧ Bk wr g 24 #[.int .i64 x.k, .int .u64 x.b, .int .i64 y.k, .int .u64 y.b] from r6)
      subst h18
      have e18 : qa.tmps[18]? = some (.slice (some ⟨g18, 0, none⟩) 2 2) := e18
      clear qO qF
      go_simp
      go_at_call 23
      refine (do_bk 7 [x, y] _ _ k18 rfl (by intro q hq; simp only [List.mem_cons, List.not_mem_nil, or_false] at hq; rcases hq with rfl | rfl; exact hx; exact hy) (by simp)).mono ?_
      rintro e w2 ⟨rfl, hb2⟩
      rw [e7]
      exact hK _ _ hb2 rfl
    refine BOk.cons rfl [] [2] rfl rfl (by kernel_rfl) (by kernel_rfl) (fun qK qa wr hB qO qF hK => ?_) ?_
    · have e2 : qa.tmps[2]? = some (.pointer (some ⟨w.heap.size, 0, none⟩)) := qO.1.trans rfl
      clear qO qF
      have hc20 := (bcell hB _ _ (World.block_lt_of_cell? _ _ c20)).trans c20
      have hc21 := (bcell hB _ _ (World.block_lt_of_cell? _ _ c21)).trans c21
      go_simp
      exact hK _ _ (Below.refl _ _) rfl
    refine BOk.cons rfl [] [3] rfl rfl (by kernel_rfl) (by kernel_rfl) (fun qK qa wr hB qO qF hK => ?_) ?_
    · have e3 : qa.tmps[3]? = some (.pointer (some ⟨w.heap.size + 1, 0, none⟩)) := qO.1.trans rfl
      clear qO qF
      have hc30 := (bcell hB _ _ (World.block_lt_of_cell? _ _ c30)).trans c30
      have hc31 := (bcell hB _ _ (World.block_lt_of_cell? _ _ c31)).trans c31
      go_simp
      exact hK _ _ (Below.refl _ _) rfl
    refine BOk.cons rfl [8, 9] [] rfl rfl (by kernel_rfl) (by kernel_rfl) (fun qK qa wr hB qO qF hK => ?_) ?_
    · obtain ⟨u20, e20, r8⟩ := qF.1
      have e20 : qa.tmps[20]? = some (.agg #[.int .i64 x.k, .int .u64 x.b]) := (show u20 = .agg #[.int .i64 x.k, .int .u64 x.b] from r8) ▸ e20
      clear r8
      obtain ⟨u21, e21, r9⟩ := qF.2.1
      have e21 : qa.tmps[21]? = some (.agg #[.int .i64 y.k, .int .u64 y.b]) := (show u21 = .agg #[.int .i64 y.k, .int .u64 y.b] from r9) ▸ e21
      clear r9
      clear qO qF
      go_simp
      exact hK _ _ ((Below.refl _ _).alloc (Nat.le_refl _) _) ⟨_, rfl, Bk.new _ _ _⟩
    refine BOk.cons rfl [10] [] rfl rfl (by kernel_rfl) (by kernel_rfl) (fun qK qa wr hB qO qF hK => ?_) ?_
    · obtain ⟨u22, e22, r10⟩ := qF.1
      obtain ⟨g22, h22, k22⟩ := (show ∃ g, u22 = .slice (some ⟨g, 0, none⟩) 2 2 ∧ Bk wr g 24 #[.int .i64 x.k, .int .u64 x.b, .int .i64 y.k, .int .u64 y.b] from r10)
      subst h22
      have e22 : qa.tmps[22]? = some (.slice (some ⟨g22, 0, none⟩) 2 2) := e22
      clear qO qF
      go_simp
      go_at_call 23
      refine (do_bk 11 [x, y] _ _ k22 rfl (by intro q hq; simp only [List.mem_cons, List.not_mem_nil, or_false] at hq; rcases hq with rfl | rfl; exact hx; exact hy) (by simp)).mono ?_
      rintro e w2 ⟨rfl, hb2⟩
      rw [e11]
      exact hK _ _ hb2 rfl
    refine BOk.fresh rfl [] [] rfl rfl (by kernel_rfl) (by kernel_rfl) (fun qK qa wr hB qO qF hK => ?_) ?_
    · clear qO qF
      go_simp
      exact hK _ _ ((Below.refl _ _).alloc (Nat.le_refl _) _) ⟨_, rfl, hB.size, Bk.new _ _ _⟩ ⟨_, rfl, by simp, by simp⟩
    refine BOk.fresh rfl [] [] rfl rfl (by kernel_rfl) (by kernel_rfl) (fun qK qa wr hB qO qF hK => ?_) ?_
    · clear qO qF
      go_simp
      exact hK _ _ ((Below.refl _ _).alloc (Nat.le_refl _) _) ⟨_, rfl, hB.size, Bk.new _ _ _⟩ ⟨_, rfl, by simp, by simp⟩
    refine BOk.fresh rfl [] [] rfl rfl (by kernel_rfl) (by kernel_rfl) (fun qK qa wr hB qO qF hK => ?_) ?_
    · clear qO qF
      go_simp
      exact hK _ _ ((Below.refl _ _).alloc (Nat.le_refl _) _) ⟨_, rfl, hB.size, Bk.new _ _ _⟩ ⟨_, rfl, by simp, by simp⟩
    exact BOk.nil
  intro vals wr hl hB hR hS
  match vals, hl with
  | [z12, z13, z14, z15, z16, z17, z18, z19, z20, z21, z22, z23, z5, z6, z7], _ =>
  have r3 : z15 = .agg #[.int .i64 2, .int .u64 p] := hR 3 _ rfl
  subst r3
  have r7 : z19 = .agg #[.int .i64 2, .int .u64 q] := hR 7 _ rfl
  subst r7
  have r11 : z23 = .agg #[.int .i64 2, .int .u64 r] := hR 11 _ rfl
  subst r11
  obtain ⟨g5, r12, n5, k5⟩ := (show ∃ g, z5 = .pointer (some ⟨g, 0, none⟩) ∧ W.heap.size ≤ g ∧ Bk wr g 24 #[.int .i64 0, .int .u64 0] from hR 12 _ rfl)
  subst r12
  obtain ⟨g6, r13, n6, k6⟩ := (show ∃ g, z6 = .pointer (some ⟨g, 0, none⟩) ∧ W.heap.size ≤ g ∧ Bk wr g 24 #[.int .i64 0, .int .u64 0] from hR 13 _ rfl)
  subst r13
  obtain ⟨g7, r14, n7, k7⟩ := (show ∃ g, z7 = .pointer (some ⟨g, 0, none⟩) ∧ W.heap.size ≤ g ∧ Bk wr g 24 #[.int .i64 0, .int .u64 0] from hR 14 _ rfl)
  subst r14
  have d5_6 : g5 ≠ g6 := fun e => hS 12 13 _ _ (by decide) rfl rfl rfl rfl (by rw [e])
  have d5_7 : g5 ≠ g7 := fun e => hS 12 14 _ _ (by decide) rfl rfl rfl rfl (by rw [e])
  have d6_7 : g6 ≠ g7 := fun e => hS 13 14 _ _ (by decide) rfl rfl rfl rfl (by rw [e])
  clear hS
  clear hR
  simp only [List.take_succ_cons, List.take_zero, List.drop_succ_cons, List.drop_zero, List.toList_toArray, List.cons_append, List.nil_append, putAll, Act.put, List.setIfInBounds_toArray, List.set_cons_zero, List.set_cons_succ]
  clear e9 e7 e11 c20 c21 c30 c31
  have k2 := k2.old hB
  have k3 := k3.old hB
  have hbW := hbW.trans (hB.mono hbW.size)
  have ⟨_, _, f50, f51⟩ := vcells k5
  have ⟨_, _, _, _⟩ := vcells k5
  have ⟨_, _, f60, f61⟩ := vcells k6
  have ⟨_, _, _, _⟩ := vcells k6
  have ⟨_, _, f70, f71⟩ := vcells k7
  have ⟨_, _, _, _⟩ := vcells k7
  have ⟨z50, z51, _, _⟩ := vcells k5
  have ⟨z60, z61, _, _⟩ := vcells k6
  have ⟨z70, z71, _, _⟩ := vcells k7
  refine wpList_plain rfl (fun _ hK => ?_)
  go_simp
  refine hK _ _ ?_
  clear hK
  refine wpList_plain rfl (fun _ hK => ?_)
  go_simp
  refine hK _ _ ?_
  clear hK
  refine wpList_plain rfl (fun _ hK => ?_)
  go_simp
  refine hK _ _ ?_
  clear hK
  refine wpList_nil ?_
  have j5 : Bk (((((((wr).setCell ⟨g5, 0, none⟩ (.int .i64 2)).setCell ⟨g5, 1, none⟩ (.int .u64 p)).setCell ⟨g6, 0, none⟩ (.int .i64 2)).setCell ⟨g6, 1, none⟩ (.int .u64 q)).setCell ⟨g7, 0, none⟩ (.int .i64 2)).setCell ⟨g7, 1, none⟩ (.int .u64 r)) g5 24 #[.int .i64 2, .int .u64 p] := (((((vput k5 _ _).far d5_6 _).far d5_6 _).far d5_7 _).far d5_7 _)
  have j6 : Bk (((((((wr).setCell ⟨g5, 0, none⟩ (.int .i64 2)).setCell ⟨g5, 1, none⟩ (.int .u64 p)).setCell ⟨g6, 0, none⟩ (.int .i64 2)).setCell ⟨g6, 1, none⟩ (.int .u64 q)).setCell ⟨g7, 0, none⟩ (.int .i64 2)).setCell ⟨g7, 1, none⟩ (.int .u64 r)) g6 24 #[.int .i64 2, .int .u64 q] := (((vput ((k6.far (Ne.symm d5_6) _).far (Ne.symm d5_6) _) _ _).far d6_7 _).far d6_7 _)
  have j7 : Bk (((((((wr).setCell ⟨g5, 0, none⟩ (.int .i64 2)).setCell ⟨g5, 1, none⟩ (.int .u64 p)).setCell ⟨g6, 0, none⟩ (.int .i64 2)).setCell ⟨g6, 1, none⟩ (.int .u64 q)).setCell ⟨g7, 0, none⟩ (.int .i64 2)).setCell ⟨g7, 1, none⟩ (.int .u64 r)) g7 24 #[.int .i64 2, .int .u64 r] := (vput ((((k7.far (Ne.symm d5_7) _).far (Ne.symm d5_7) _).far (Ne.symm d6_7) _).far (Ne.symm d6_7) _) _ _)
  have j2 : Bk (((((((wr).setCell ⟨g5, 0, none⟩ (.int .i64 2)).setCell ⟨g5, 1, none⟩ (.int .u64 p)).setCell ⟨g6, 0, none⟩ (.int .i64 2)).setCell ⟨g6, 1, none⟩ (.int .u64 q)).setCell ⟨g7, 0, none⟩ (.int .i64 2)).setCell ⟨g7, 1, none⟩ (.int .u64 r)) w.heap.size 24 #[.int .i64 x.k, .int .u64 x.b] := ((((((k2.far (by simp; omega) _).far (by simp; omega) _).far (by simp; omega) _).far (by simp; omega) _).far (by simp; omega) _).far (by simp; omega) _)
  have j3 : Bk (((((((wr).setCell ⟨g5, 0, none⟩ (.int .i64 2)).setCell ⟨g5, 1, none⟩ (.int .u64 p)).setCell ⟨g6, 0, none⟩ (.int .i64 2)).setCell ⟨g6, 1, none⟩ (.int .u64 q)).setCell ⟨g7, 0, none⟩ (.int .i64 2)).setCell ⟨g7, 1, none⟩ (.int .u64 r)) (w.heap.size + 1) 24 #[.int .i64 y.k, .int .u64 y.b] := ((((((k3.far (by simp; omega) _).far (by simp; omega) _).far (by simp; omega) _).far (by simp; omega) _).far (by simp; omega) _).far (by simp; omega) _)
  have hbW : Below w.heap.size w (((((((wr).setCell ⟨g5, 0, none⟩ (.int .i64 2)).setCell ⟨g5, 1, none⟩ (.int .u64 p)).setCell ⟨g6, 0, none⟩ (.int .i64 2)).setCell ⟨g6, 1, none⟩ (.int .u64 q)).setCell ⟨g7, 0, none⟩ (.int .i64 2)).setCell ⟨g7, 1, none⟩ (.int .u64 r)) := by repeat (first | exact hbW | refine Below.setCell ?_ (by simp; omega) _)
  clear z50 z51 z60 z61 z70 z71 f50 f51 f60 f61 f70 f71 k2 k3 k5 k6 k7 hB
  clear n5 n6 n7 hz
  generalize ((((((wr).setCell ⟨g5, 0, none⟩ (.int .i64 2)).setCell ⟨g5, 1, none⟩ (.int .u64 p)).setCell ⟨g6, 0, none⟩ (.int .i64 2)).setCell ⟨g6, 1, none⟩ (.int .u64 q)).setCell ⟨g7, 0, none⟩ (.int .i64 2)).setCell ⟨g7, 1, none⟩ (.int .u64 r) = W2 at *
  have ⟨c50, c51, _, _⟩ := vcells j5
  have ⟨c60, c61, _, _⟩ := vcells j6
  have ⟨c70, c71, _, _⟩ := vcells j7
  have ⟨c20, c21, _, _⟩ := vcells j2
  have ⟨c30, c31, _, _⟩ := vcells j3
  have e17 := He17.out
  have k1 : ¬ (D.k = 2 ∧ (D.b : Int) = 1) := by have := Hn1.out; omega
  have e18 := He18.out
  rw [Hn2.out] at e18
  have s1 := Hs1.out
  have s0 := Hs0.out
  go_upto_region 7 with fail
  clear c50 c51 c60 c61 c70 c71
  refine wp_region_s (fun k => (cmpR7_ny x y p q r u8 u10 u12 D D2 w).getD k .any) (by kernel_rfl) ?_ ?_
  · refine BOk.cons rfl [] [2] rfl rfl (by kernel_rfl) (by kernel_rfl) (fun qK qa wr hB qO qF hK => ?_) ?_
    · have e2 : qa.tmps[2]? = some (.pointer (some ⟨w.heap.size, 0, none⟩)) := qO.1.trans rfl
      clear qO qF
      have hc20 := (bcell hB _ _ (World.block_lt_of_cell? _ _ c20)).trans c20
      have hc21 := (bcell hB _ _ (World.block_lt_of_cell? _ _ c21)).trans c21
      go_simp
      exact hK _ _ (Below.refl _ _) rfl
    refine BOk.cons rfl [0] [] rfl rfl (by kernel_rfl) (by kernel_rfl) (fun qK qa wr hB qO qF hK => ?_) ?_
    · obtain ⟨u49, e49, r0⟩ := qF.1
      have e49 : qa.tmps[49]? = some (.agg #[.int .i64 x.k, .int .u64 x.b]) := (show u49 = .agg #[.int .i64 x.k, .int .u64 x.b] from r0) ▸ e49
      clear r0
      clear qO qF
      go_simp
      exact hK _ _ ((Below.refl _ _).alloc (Nat.le_refl _) _) ⟨_, rfl, Bk.new _ _ _⟩
    refine BOk.cons rfl [1] [] rfl rfl (by kernel_rfl) (by kernel_rfl) (fun qK qa wr hB qO qF hK => ?_) ?_
    · obtain ⟨u50, e50, r1⟩ := qF.1
      obtain ⟨g50, h50, k50⟩ := (show ∃ g, u50 = .slice (some ⟨g, 0, none⟩) 1 1 ∧ Bk wr g 24 #[.int .i64 x.k, .int .u64 x.b] from r1)
      subst h50
      have e50 : qa.tmps[50]? = some (.slice (some ⟨g50, 0, none⟩) 1 1) := e50
      clear qO qF
      go_simp
      go_at_call 23
      refine (do_bk 17 [x] _ _ k50 rfl (by intro q hq; simp only [List.mem_cons, List.not_mem_nil, or_false] at hq; subst hq; exact hx) (by simp)).mono ?_
      rintro e w2 ⟨rfl, hb2⟩
      rw [e17]
      exact hK _ _ hb2 rfl
    refine BOk.cons rfl [] [] rfl rfl (by kernel_rfl) (by kernel_rfl) (fun qK qa wr hB qO qF hK => ?_) ?_
    · clear qO qF
      go_simp
      go_at_call 25
      refine (rtruth_any true _).mono ?_
      rintro e w2 ⟨rfl, hb2⟩
      exact hK _ _ hb2 rfl
    refine BOk.cons rfl [2, 3] [] rfl rfl (by kernel_rfl) (by kernel_rfl) (fun qK qa wr hB qO qF hK => ?_) ?_
    · obtain ⟨u51, e51, r2⟩ := qF.1
      have e51 : qa.tmps[51]? = some (.agg #[.int .i64 D.k, .int .u64 D.b]) := (show u51 = .agg #[.int .i64 D.k, .int .u64 D.b] from r2) ▸ e51
      clear r2
      obtain ⟨u52, e52, r3⟩ := qF.2.1
      have e52 : qa.tmps[52]? = some (.agg #[.int .i64 2, .int .u64 1]) := (show u52 = .agg #[.int .i64 2, .int .u64 1] from r3) ▸ e52
      clear r3
      clear qO qF
      go_simp
      repeat' split
      all_goals first | (exfalso; exact k1 ⟨by assumption, by assumption⟩) | exact hK _ _ (Below.refl _ _) rfl
    refine BOk.cons rfl [4] [] rfl rfl (by kernel_rfl) (by kernel_rfl) (fun qK qa wr hB qO qF hK => ?_) ?_
    · obtain ⟨u53, e53, r4⟩ := qF.1
      have e53 : qa.tmps[53]? = some (.bool false) := (show u53 = .bool false from r4) ▸ e53
      clear r4
      clear qO qF
      go_simp
      exact hK _ _ (Below.refl _ _) rfl
    refine BOk.yes rfl [] [3] rfl 5 false rfl rfl rfl (by kernel_rfl) (by kernel_rfl) (by kernel_rfl) (fun qK qa wr hB qO qF hK => ?_) ?_
    · have e3 : qa.tmps[3]? = some (.pointer (some ⟨w.heap.size + 1, 0, none⟩)) := qO.1.trans rfl
      clear qO qF
      have hc30 := (bcell hB _ _ (World.block_lt_of_cell? _ _ c30)).trans c30
      have hc31 := (bcell hB _ _ (World.block_lt_of_cell? _ _ c31)).trans c31
      go_simp
      exact hK _ _ (Below.refl _ _) rfl
    refine BOk.yes rfl [6] [] rfl 5 false rfl rfl rfl (by kernel_rfl) (by kernel_rfl) (by kernel_rfl) (fun qK qa wr hB qO qF hK => ?_) ?_
    · obtain ⟨u55, e55, r6⟩ := qF.1
      have e55 : qa.tmps[55]? = some (.agg #[.int .i64 y.k, .int .u64 y.b]) := (show u55 = .agg #[.int .i64 y.k, .int .u64 y.b] from r6) ▸ e55
      clear r6
      clear qO qF
      go_simp
      exact hK _ _ ((Below.refl _ _).alloc (Nat.le_refl _) _) ⟨_, rfl, Bk.new _ _ _⟩
    refine BOk.yes rfl [7] [] rfl 5 false rfl rfl rfl (by kernel_rfl) (by kernel_rfl) (by kernel_rfl) (fun qK qa wr hB qO qF hK => ?_) ?_
    · obtain ⟨u56, e56, r7⟩ := qF.1
      obtain ⟨g56, h56, k56⟩ := (show ∃ g, u56 = .slice (some ⟨g, 0, none⟩) 1 1 ∧ Bk wr g 24 #[.int .i64 y.k, .int .u64 y.b] from r7)
      subst h56
      have e56 : qa.tmps[56]? = some (.slice (some ⟨g56, 0, none⟩) 1 1) := e56
      clear qO qF
      go_simp
      go_at_call 23
      refine (do_bk 17 [y] _ _ k56 rfl (by intro q hq; simp only [List.mem_cons, List.not_mem_nil, or_false] at hq; subst hq; exact hy) (by simp)).mono ?_
      rintro e w2 ⟨rfl, hb2⟩
      rw [e18]
      exact hK _ _ hb2 rfl
    refine BOk.yes rfl [] [] rfl 5 false rfl rfl rfl (by kernel_rfl) (by kernel_rfl) (by kernel_rfl) (fun qK qa wr hB qO qF hK => ?_) ?_
    · clear qO qF
      go_simp
      go_at_call 25
      refine (rtruth_any true _).mono ?_
      rintro e w2 ⟨rfl, hb2⟩
      exact hK _ _ hb2 rfl
    refine BOk.yes rfl [8, 9] [] rfl 5 false rfl rfl rfl (by kernel_rfl) (by kernel_rfl) (by kernel_rfl) (fun qK qa wr hB qO qF hK => ?_) ?_
    · obtain ⟨u57, e57, r8⟩ := qF.1
      have e57 : qa.tmps[57]? = some (.agg #[.int .i64 2, .int .u64 1]) := (show u57 = .agg #[.int .i64 2, .int .u64 1] from r8) ▸ e57
      clear r8
      obtain ⟨u58, e58, r9⟩ := qF.2.1
      have e58 : qa.tmps[58]? = some (.agg #[.int .i64 2, .int .u64 1]) := (show u58 = .agg #[.int .i64 2, .int .u64 1] from r9) ▸ e58
      clear r9
      clear qO qF
      go_simp
      exact hK _ _ (Below.refl _ _) rfl
    refine BOk.cons rfl [5, 10] [] rfl rfl (by kernel_rfl) (by kernel_rfl) (fun qK qa wr hB qO qF hK => ?_) ?_
    · obtain ⟨u54, e54, r5⟩ := qF.1
      have e54 : qa.tmps[54]? = some (.bool false) := (show u54 = .bool false from r5) ▸ e54
      clear r5
      obtain ⟨u59, e59, r10⟩ := qF.2.1
      have e59 : qa.tmps[59]? = some (.bool true) := (show u59 = .bool true from r10) ▸ e59
      clear r10
      clear qO qF
      go_simp
      refine hK _ _ (Below.refl _ _) ?_
      show (_ : Value) = _
      first | rfl | (simp; done) | (simp; omega)
    refine BOk.cons rfl [11] [] rfl rfl (by kernel_rfl) (by kernel_rfl) (fun qK qa wr hB qO qF hK => ?_) ?_
    · obtain ⟨u60, e60, r11⟩ := qF.1
      have e60 : qa.tmps[60]? = some (.bool true) := (show u60 = .bool true from r11) ▸ e60
      clear r11
      clear qO qF
      go_simp
      exact hK _ _ (Below.refl _ _) rfl
    exact BOk.nil
  intro vals wr hl hB hR
  match vals, hl with
  | [vp49, vp50, vp51, vp52, vp53, vp54, vp55, vp56, vp57, vp58, vp59, vp60, vp9], _ =>
  have r12 : vp9 = .bool true := hR 12 _ rfl
  subst r12
  clear hR
  simp only [List.cons_append, List.nil_append, putAll, Act.put, List.setIfInBounds_toArray, List.set_cons_zero, List.set_cons_succ]
  have j2 := j2.old hB; have j3 := j3.old hB; have j5 := j5.old hB; have j6 := j6.old hB; have j7 := j7.old hB
  have hbW := hbW.trans (hB.mono hbW.size)
  clear hB c20 c21 c30 c31 e17 e18 k1
  go_wp2_with fail
  have ⟨c50, c51, _, _⟩ := vcells j5
  have ⟨c60, c61, _, _⟩ := vcells j6
  have ⟨c70, c71, _, _⟩ := vcells j7
  have ⟨c20, c21, _, _⟩ := vcells j2
  have ⟨c30, c31, _, _⟩ := vcells j3
  have e8 := He8.out; have e15 := He15.out; have e10 := He10.out; have e14 := He14.out; have e12 := He12.out; have e16 := He16.out
  refine wp_region_b (by kernel_rfl) (fun k => (cmpR8_ny x y p q r u8 u10 u12 D D2 w g5 g6 g7).getD k .any) (by kernel_rfl) ?_ ?_
  · refine BOk.cons rfl [] [8] rfl rfl (by kernel_rfl) (by kernel_rfl) (fun qK qa wr hB qO qF hK => ?_) ?_
    · have e8 : qa.tmps[8]? = some (.int .i64 ((p : Int) + (q : Int) + (r : Int))) := qO.1.trans rfl
      clear qO qF
      go_simp
      exact hK _ _ (Below.refl _ _) rfl
    refine BOk.cons rfl [0] [] rfl rfl (by kernel_rfl) (by kernel_rfl) (fun qK qa wr hB qO qF hK => ?_) ?_
    · obtain ⟨u61, e61, r0⟩ := qF.1
      have e61 : qa.tmps[61]? = some (.int .i64 ((p : Int) + (q : Int) + (r : Int))) := (show u61 = .int .i64 ((p : Int) + (q : Int) + (r : Int)) from r0) ▸ e61
      clear r0
      clear qO qF
      go_simp
      refine hK _ _ (Below.refl _ _) ?_
      show (_ : Value) = _
      first | rfl | (simp; done) | (simp; omega)
    refine BOk.cons rfl [] [9] rfl rfl (by kernel_rfl) (by kernel_rfl) (fun qK qa wr hB qO qF hK => ?_) ?_
    · have e9 : qa.tmps[9]? = some (.bool true) := qO.1.trans rfl
      clear qO qF
      go_simp
      exact hK _ _ (Below.refl _ _) rfl
    refine BOk.cons rfl [2] [] rfl rfl (by kernel_rfl) (by kernel_rfl) (fun qK qa wr hB qO qF hK => ?_) ?_
    · obtain ⟨u63, e63, r2⟩ := qF.1
      have e63 : qa.tmps[63]? = some (.bool true) := (show u63 = .bool true from r2) ▸ e63
      clear r2
      clear qO qF
      go_simp
      exact hK _ _ (Below.refl _ _) rfl
    refine BOk.cons rfl [1, 3] [] rfl rfl (by kernel_rfl) (by kernel_rfl) (fun qK qa wr hB qO qF hK => ?_) ?_
    · obtain ⟨u62, e62, r1⟩ := qF.1
      have e62 : qa.tmps[62]? = some (.bool false) := (show u62 = .bool false from r1) ▸ e62
      clear r1
      obtain ⟨u64, e64, r3⟩ := qF.2.1
      have e64 : qa.tmps[64]? = some (.bool false) := (show u64 = .bool false from r3) ▸ e64
      clear r3
      clear qO qF
      go_simp
      refine hK _ _ (Below.refl _ _) ?_
      show (_ : Value) = _
      first | rfl | (simp; done) | (simp; omega)
    refine BOk.cons rfl [4] [] rfl rfl (by kernel_rfl) (by kernel_rfl) (fun qK qa wr hB qO qF hK => ?_) ?_
    · obtain ⟨u65, e65, r4⟩ := qF.1
      have e65 : qa.tmps[65]? = some (.bool true) := (show u65 = .bool true from r4) ▸ e65
      clear r4
      clear qO qF
      go_simp
      exact hK _ _ (Below.refl _ _) rfl
    refine BOk.yes rfl [] [8] rfl 5 true rfl rfl rfl (by kernel_rfl) (by kernel_rfl) (by kernel_rfl) (fun qK qa wr hB qO qF hK => ?_) ?_
    · have e8 : qa.tmps[8]? = some (.int .i64 ((p : Int) + (q : Int) + (r : Int))) := qO.1.trans rfl
      clear qO qF
      go_simp
      exact hK _ _ (Below.refl _ _) rfl
    refine BOk.yes rfl [6] [] rfl 5 true rfl rfl rfl (by kernel_rfl) (by kernel_rfl) (by kernel_rfl) (fun qK qa wr hB qO qF hK => ?_) ?_
    · obtain ⟨u67, e67, r6⟩ := qF.1
      have e67 : qa.tmps[67]? = some (.int .i64 ((p : Int) + (q : Int) + (r : Int))) := (show u67 = .int .i64 ((p : Int) + (q : Int) + (r : Int)) from r6) ▸ e67
      clear r6
      clear qO qF
      go_simp
      refine hK _ _ (Below.refl _ _) ?_
      show (_ : Value) = _
      first | rfl | (simp; done) | (simp; omega)
    refine BOk.yes rfl [] [9] rfl 5 true rfl rfl rfl (by kernel_rfl) (by kernel_rfl) (by kernel_rfl) (fun qK qa wr hB qO qF hK => ?_) ?_
    · have e9 : qa.tmps[9]? = some (.bool true) := qO.1.trans rfl
      clear qO qF
      go_simp
      exact hK _ _ (Below.refl _ _) rfl
    refine BOk.yes rfl [7, 8] [] rfl 5 true rfl rfl rfl (by kernel_rfl) (by kernel_rfl) (by kernel_rfl) (fun qK qa wr hB qO qF hK => ?_) ?_
    · obtain ⟨u68, e68, r7⟩ := qF.1
      have e68 : qa.tmps[68]? = some (.bool true) := (show u68 = .bool true from r7) ▸ e68
      clear r7
      obtain ⟨u69, e69, r8⟩ := qF.2.1
      have e69 : qa.tmps[69]? = some (.bool true) := (show u69 = .bool true from r8) ▸ e69
      clear r8
      clear qO qF
      go_simp
      refine hK _ _ (Below.refl _ _) ?_
      show (_ : Value) = _
      first | rfl | (simp; done) | (simp; omega)
    refine BOk.cons rfl [5, 9] [] rfl rfl (by kernel_rfl) (by kernel_rfl) (fun qK qa wr hB qO qF hK => ?_) ?_
    · obtain ⟨u66, e66, r5⟩ := qF.1
      have e66 : qa.tmps[66]? = some (.bool true) := (show u66 = .bool true from r5) ▸ e66
      clear r5
      obtain ⟨u70, e70, r9⟩ := qF.2.1
      have e70 : qa.tmps[70]? = some (.bool true) := (show u70 = .bool true from r9) ▸ e70
      clear r9
      clear qO qF
      go_simp
      refine hK _ _ (Below.refl _ _) ?_
      show (_ : Value) = _
      first | rfl | (simp; done) | (simp; omega)
    refine BOk.cons rfl [10] [] rfl rfl (by kernel_rfl) (by kernel_rfl) (fun qK qa wr hB qO qF hK => ?_) ?_
    · obtain ⟨u71, e71, r10⟩ := qF.1
      have e71 : qa.tmps[71]? = some (.bool true) := (show u71 = .bool true from r10) ▸ e71
      clear r10
      clear qO qF
      go_simp
      exact hK _ _ (Below.refl _ _) rfl
    refine BOk.yes rfl [] [2] rfl 11 true rfl rfl rfl (by kernel_rfl) (by kernel_rfl) (by kernel_rfl) (fun qK qa wr hB qO qF hK => ?_) ?_
    · have e2 : qa.tmps[2]? = some (.pointer (some ⟨w.heap.size, 0, none⟩)) := qO.1.trans rfl
      clear qO qF
      have hc20 := (bcell hB _ _ (World.block_lt_of_cell? _ _ c20)).trans c20
      have hc21 := (bcell hB _ _ (World.block_lt_of_cell? _ _ c21)).trans c21
      go_simp
      exact hK _ _ (Below.refl _ _) rfl
    refine BOk.yes rfl [] [3] rfl 11 true rfl rfl rfl (by kernel_rfl) (by kernel_rfl) (by kernel_rfl) (fun qK qa wr hB qO qF hK => ?_) ?_
    · have e3 : qa.tmps[3]? = some (.pointer (some ⟨w.heap.size + 1, 0, none⟩)) := qO.1.trans rfl
      clear qO qF
      have hc30 := (bcell hB _ _ (World.block_lt_of_cell? _ _ c30)).trans c30
      have hc31 := (bcell hB _ _ (World.block_lt_of_cell? _ _ c31)).trans c31
      go_simp
      exact hK _ _ (Below.refl _ _) rfl
    refine BOk.yes rfl [12, 13] [] rfl 11 true rfl rfl rfl (by kernel_rfl) (by kernel_rfl) (by kernel_rfl) (fun qK qa wr hB qO qF hK => ?_) ?_
    · obtain ⟨u73, e73, r12⟩ := qF.1
      have e73 : qa.tmps[73]? = some (.agg #[.int .i64 x.k, .int .u64 x.b]) := (show u73 = .agg #[.int .i64 x.k, .int .u64 x.b] from r12) ▸ e73
      clear r12
      obtain ⟨u74, e74, r13⟩ := qF.2.1
      have e74 : qa.tmps[74]? = some (.agg #[.int .i64 y.k, .int .u64 y.b]) := (show u74 = .agg #[.int .i64 y.k, .int .u64 y.b] from r13) ▸ e74
      clear r13
      clear qO qF
      go_simp
      exact hK _ _ ((Below.refl _ _).alloc (Nat.le_refl _) _) ⟨_, rfl, Bk.new _ _ _⟩
    refine BOk.yes rfl [14] [] rfl 11 true rfl rfl rfl (by kernel_rfl) (by kernel_rfl) (by kernel_rfl) (fun qK qa wr hB qO qF hK => ?_) ?_
    · obtain ⟨u75, e75, r14⟩ := qF.1
      obtain ⟨g75, h75, k75⟩ := (show ∃ g, u75 = .slice (some ⟨g, 0, none⟩) 2 2 ∧ Bk wr g 24 #[.int .i64 x.k, .int .u64 x.b, .int .i64 y.k, .int .u64 y.b] from r14)
      subst h75
      have e75 : qa.tmps[75]? = some (.slice (some ⟨g75, 0, none⟩) 2 2) := e75
      clear qO qF
      go_simp
      go_at_call 23
      refine (do_bk 8 [x, y] _ _ k75 rfl (by intro q hq; simp only [List.mem_cons, List.not_mem_nil, or_false] at hq; rcases hq with rfl | rfl; exact hx; exact hy) (by simp)).mono ?_
      rintro e w2 ⟨rfl, hb2⟩
      rw [e8]
      exact hK _ _ hb2 rfl
    refine BOk.yes rfl [] [6] rfl 11 true rfl rfl rfl (by kernel_rfl) (by kernel_rfl) (by kernel_rfl) (fun qK qa wr hB qO qF hK => ?_) ?_
    · have e6 : qa.tmps[6]? = some (.pointer (some ⟨g6, 0, none⟩)) := qO.1.trans rfl
      clear qO qF
      have hc60 := (bcell hB _ _ (World.block_lt_of_cell? _ _ c60)).trans c60
      have hc61 := (bcell hB _ _ (World.block_lt_of_cell? _ _ c61)).trans c61
      go_simp
      exact hK _ _ (Below.refl _ _) rfl
    refine BOk.yes rfl [16] [] rfl 11 true rfl rfl rfl (by kernel_rfl) (by kernel_rfl) (by kernel_rfl) (fun qK qa wr hB qO qF hK => ?_) ?_
    · obtain ⟨u77, e77, r16⟩ := qF.1
      have e77 : qa.tmps[77]? = some (.agg #[.int .i64 2, .int .u64 q]) := (show u77 = .agg #[.int .i64 2, .int .u64 q] from r16) ▸ e77
      clear r16
      clear qO qF
      go_simp
      exact hK _ _ ((Below.refl _ _).alloc (Nat.le_refl _) _) ⟨_, rfl, Bk.new _ _ _⟩
    refine BOk.yes rfl [17] [] rfl 11 true rfl rfl rfl (by kernel_rfl) (by kernel_rfl) (by kernel_rfl) (fun qK qa wr hB qO qF hK => ?_) ?_
    · obtain ⟨u78, e78, r17⟩ := qF.1
      obtain ⟨g78, h78, k78⟩ := (show ∃ g, u78 = .slice (some ⟨g, 0, none⟩) 1 1 ∧ Bk wr g 24 #[.int .i64 2, .int .u64 q] from r17)
      subst h78
      have e78 : qa.tmps[78]? = some (.slice (some ⟨g78, 0, none⟩) 1 1) := e78
      clear qO qF
      go_simp
      go_at_call 23
      refine (do_bk 15 [(V.mk 2 q)] _ _ k78 rfl (by intro q hq; simp only [List.mem_cons, List.not_mem_nil, or_false] at hq; subst hq; exact hq) (by simp)).mono ?_
      rintro e w2 ⟨rfl, hb2⟩
      rw [e15]
      exact hK _ _ hb2 rfl
    refine BOk.yes rfl [15, 18] [] rfl 11 true rfl rfl rfl (by kernel_rfl) (by kernel_rfl) (by kernel_rfl) (fun qK qa wr hB qO qF hK => ?_) ?_
    · obtain ⟨u76, e76, r15⟩ := qF.1
      have e76 : qa.tmps[76]? = some (.agg #[.int .i64 2, .int .u64 u8]) := (show u76 = .agg #[.int .i64 2, .int .u64 u8] from r15) ▸ e76
      clear r15
      obtain ⟨u79, e79, r18⟩ := qF.2.1
      have e79 : qa.tmps[79]? = some (.agg #[.int .i64 2, .int .u64 u8]) := (show u79 = .agg #[.int .i64 2, .int .u64 u8] from r18) ▸ e79
      clear r18
      clear qO qF
      go_simp
      refine hK _ _ (Below.refl _ _) ?_
      show (_ : Value) = _
      first | rfl | (simp; done) | (simp; omega)
    refine BOk.cons rfl [11, 19] [] rfl rfl (by kernel_rfl) (by kernel_rfl) (fun qK qa wr hB qO qF hK => ?_) ?_
    · obtain ⟨u72, e72, r11⟩ := qF.1
      have e72 : qa.tmps[72]? = some (.bool true) := (show u72 = .bool true from r11) ▸ e72
      clear r11
      obtain ⟨u80, e80, r19⟩ := qF.2.1
      have e80 : qa.tmps[80]? = some (.bool true) := (show u80 = .bool true from r19) ▸ e80
      clear r19
      clear qO qF
      go_simp
      refine hK _ _ (Below.refl _ _) ?_
      show (_ : Value) = _
      first | rfl | (simp; done) | (simp; omega)
    refine BOk.cons rfl [20] [] rfl rfl (by kernel_rfl) (by kernel_rfl) (fun qK qa wr hB qO qF hK => ?_) ?_
    · obtain ⟨u81, e81, r20⟩ := qF.1
      have e81 : qa.tmps[81]? = some (.bool true) := (show u81 = .bool true from r20) ▸ e81
      clear r20
      clear qO qF
      go_simp
      exact hK _ _ (Below.refl _ _) rfl
    refine BOk.yes rfl [] [2] rfl 21 true rfl rfl rfl (by kernel_rfl) (by kernel_rfl) (by kernel_rfl) (fun qK qa wr hB qO qF hK => ?_) ?_
    · have e2 : qa.tmps[2]? = some (.pointer (some ⟨w.heap.size, 0, none⟩)) := qO.1.trans rfl
      clear qO qF
      have hc20 := (bcell hB _ _ (World.block_lt_of_cell? _ _ c20)).trans c20
      have hc21 := (bcell hB _ _ (World.block_lt_of_cell? _ _ c21)).trans c21
      go_simp
      exact hK _ _ (Below.refl _ _) rfl
    refine BOk.yes rfl [] [3] rfl 21 true rfl rfl rfl (by kernel_rfl) (by kernel_rfl) (by kernel_rfl) (fun qK qa wr hB qO qF hK => ?_) ?_
    · have e3 : qa.tmps[3]? = some (.pointer (some ⟨w.heap.size + 1, 0, none⟩)) := qO.1.trans rfl
      clear qO qF
      have hc30 := (bcell hB _ _ (World.block_lt_of_cell? _ _ c30)).trans c30
      have hc31 := (bcell hB _ _ (World.block_lt_of_cell? _ _ c31)).trans c31
      go_simp
      exact hK _ _ (Below.refl _ _) rfl
    refine BOk.yes rfl [22, 23] [] rfl 21 true rfl rfl rfl (by kernel_rfl) (by kernel_rfl) (by kernel_rfl) (fun qK qa wr hB qO qF hK => ?_) ?_
    · obtain ⟨u83, e83, r22⟩ := qF.1
      have e83 : qa.tmps[83]? = some (.agg #[.int .i64 x.k, .int .u64 x.b]) := (show u83 = .agg #[.int .i64 x.k, .int .u64 x.b] from r22) ▸ e83
      clear r22
      obtain ⟨u84, e84, r23⟩ := qF.2.1
      have e84 : qa.tmps[84]? = some (.agg #[.int .i64 y.k, .int .u64 y.b]) := (show u84 = .agg #[.int .i64 y.k, .int .u64 y.b] from r23) ▸ e84
      clear r23
      clear qO qF
      go_simp
      exact hK _ _ ((Below.refl _ _).alloc (Nat.le_refl _) _) ⟨_, rfl, Bk.new _ _ _⟩
    refine BOk.yes rfl [24] [] rfl 21 true rfl rfl rfl (by kernel_rfl) (by kernel_rfl) (by kernel_rfl) (fun qK qa wr hB qO qF hK => ?_) ?_
    · obtain ⟨u85, e85, r24⟩ := qF.1
      obtain ⟨g85, h85, k85⟩ := (show ∃ g, u85 = .slice (some ⟨g, 0, none⟩) 2 2 ∧ Bk wr g 24 #[.int .i64 x.k, .int .u64 x.b, .int .i64 y.k, .int .u64 y.b] from r24)
      subst h85
      have e85 : qa.tmps[85]? = some (.slice (some ⟨g85, 0, none⟩) 2 2) := e85
      clear qO qF
      go_simp
      go_at_call 23
      refine (do_bk 10 [x, y] _ _ k85 rfl (by intro q hq; simp only [List.mem_cons, List.not_mem_nil, or_false] at hq; rcases hq with rfl | rfl; exact hx; exact hy) (by simp)).mono ?_
      rintro e w2 ⟨rfl, hb2⟩
      rw [e10]
      exact hK _ _ hb2 rfl
    refine BOk.yes rfl [] [5] rfl 21 true rfl rfl rfl (by kernel_rfl) (by kernel_rfl) (by kernel_rfl) (fun qK qa wr hB qO qF hK => ?_) ?_
    · have e5 : qa.tmps[5]? = some (.pointer (some ⟨g5, 0, none⟩)) := qO.1.trans rfl
      clear qO qF
      have hc50 := (bcell hB _ _ (World.block_lt_of_cell? _ _ c50)).trans c50
      have hc51 := (bcell hB _ _ (World.block_lt_of_cell? _ _ c51)).trans c51
      go_simp
      exact hK _ _ (Below.refl _ _) rfl
    refine BOk.yes rfl [] [6] rfl 21 true rfl rfl rfl (by kernel_rfl) (by kernel_rfl) (by kernel_rfl) (fun qK qa wr hB qO qF hK => ?_) ?_
    · have e6 : qa.tmps[6]? = some (.pointer (some ⟨g6, 0, none⟩)) := qO.1.trans rfl
      clear qO qF
      have hc60 := (bcell hB _ _ (World.block_lt_of_cell? _ _ c60)).trans c60
      have hc61 := (bcell hB _ _ (World.block_lt_of_cell? _ _ c61)).trans c61
      go_simp
      exact hK _ _ (Below.refl _ _) rfl
    refine BOk.yes rfl [26, 27] [] rfl 21 true rfl rfl rfl (by kernel_rfl) (by kernel_rfl) (by kernel_rfl) (fun qK qa wr hB qO qF hK => ?_) ?_
    · obtain ⟨u87, e87, r26⟩ := qF.1
      have e87 : qa.tmps[87]? = some (.agg #[.int .i64 2, .int .u64 p]) := (show u87 = .agg #[.int .i64 2, .int .u64 p] from r26) ▸ e87
      clear r26
      obtain ⟨u88, e88, r27⟩ := qF.2.1
      have e88 : qa.tmps[88]? = some (.agg #[.int .i64 2, .int .u64 q]) := (show u88 = .agg #[.int .i64 2, .int .u64 q] from r27) ▸ e88
      clear r27
      clear qO qF
      go_simp
      exact hK _ _ ((Below.refl _ _).alloc (Nat.le_refl _) _) ⟨_, rfl, Bk.new _ _ _⟩
    refine BOk.yes rfl [28] [] rfl 21 true rfl rfl rfl (by kernel_rfl) (by kernel_rfl) (by kernel_rfl) (fun qK qa wr hB qO qF hK => ?_) ?_
    · obtain ⟨u89, e89, r28⟩ := qF.1
      obtain ⟨g89, h89, k89⟩ := (show ∃ g, u89 = .slice (some ⟨g, 0, none⟩) 2 2 ∧ Bk wr g 24 #[.int .i64 2, .int .u64 p, .int .i64 2, .int .u64 q] from r28)
      subst h89
      have e89 : qa.tmps[89]? = some (.slice (some ⟨g89, 0, none⟩) 2 2) := e89
      clear qO qF
      go_simp
      go_at_call 23
      refine (do_bk 14 [(V.mk 2 p), (V.mk 2 q)] _ _ k89 rfl (by intro q hq; simp only [List.mem_cons, List.not_mem_nil, or_false] at hq; rcases hq with rfl | rfl; exact hp; exact hq) (by simp)).mono ?_
      rintro e w2 ⟨rfl, hb2⟩
      rw [e14]
      exact hK _ _ hb2 rfl
    refine BOk.yes rfl [25, 29] [] rfl 21 true rfl rfl rfl (by kernel_rfl) (by kernel_rfl) (by kernel_rfl) (fun qK qa wr hB qO qF hK => ?_) ?_
    · obtain ⟨u86, e86, r25⟩ := qF.1
      have e86 : qa.tmps[86]? = some (.agg #[.int .i64 2, .int .u64 u10]) := (show u86 = .agg #[.int .i64 2, .int .u64 u10] from r25) ▸ e86
      clear r25
      obtain ⟨u90, e90, r29⟩ := qF.2.1
      have e90 : qa.tmps[90]? = some (.agg #[.int .i64 2, .int .u64 u10]) := (show u90 = .agg #[.int .i64 2, .int .u64 u10] from r29) ▸ e90
      clear r29
      clear qO qF
      go_simp
      refine hK _ _ (Below.refl _ _) ?_
      show (_ : Value) = _
      first | rfl | (simp; done) | (simp; omega)
    refine BOk.cons rfl [21, 30] [] rfl rfl (by kernel_rfl) (by kernel_rfl) (fun qK qa wr hB qO qF hK => ?_) ?_
    · obtain ⟨u82, e82, r21⟩ := qF.1
      have e82 : qa.tmps[82]? = some (.bool true) := (show u82 = .bool true from r21) ▸ e82
      clear r21
      obtain ⟨u91, e91, r30⟩ := qF.2.1
      have e91 : qa.tmps[91]? = some (.bool true) := (show u91 = .bool true from r30) ▸ e91
      clear r30
      clear qO qF
      go_simp
      refine hK _ _ (Below.refl _ _) ?_
      show (_ : Value) = _
      first | rfl | (simp; done) | (simp; omega)
    refine BOk.cons rfl [31] [] rfl rfl (by kernel_rfl) (by kernel_rfl) (fun qK qa wr hB qO qF hK => ?_) ?_
    · obtain ⟨u92, e92, r31⟩ := qF.1
      have e92 : qa.tmps[92]? = some (.bool true) := (show u92 = .bool true from r31) ▸ e92
      clear r31
      clear qO qF
      go_simp
      exact hK _ _ (Below.refl _ _) rfl
    refine BOk.yes rfl [] [2] rfl 32 true rfl rfl rfl (by kernel_rfl) (by kernel_rfl) (by kernel_rfl) (fun qK qa wr hB qO qF hK => ?_) ?_
    · have e2 : qa.tmps[2]? = some (.pointer (some ⟨w.heap.size, 0, none⟩)) := qO.1.trans rfl
      clear qO qF
      have hc20 := (bcell hB _ _ (World.block_lt_of_cell? _ _ c20)).trans c20
      have hc21 := (bcell hB _ _ (World.block_lt_of_cell? _ _ c21)).trans c21
      go_simp
      exact hK _ _ (Below.refl _ _) rfl
    refine BOk.yes rfl [] [3] rfl 32 true rfl rfl rfl (by kernel_rfl) (by kernel_rfl) (by kernel_rfl) (fun qK qa wr hB qO qF hK => ?_) ?_
    · have e3 : qa.tmps[3]? = some (.pointer (some ⟨w.heap.size + 1, 0, none⟩)) := qO.1.trans rfl
      clear qO qF
      have hc30 := (bcell hB _ _ (World.block_lt_of_cell? _ _ c30)).trans c30
      have hc31 := (bcell hB _ _ (World.block_lt_of_cell? _ _ c31)).trans c31
      go_simp
      exact hK _ _ (Below.refl _ _) rfl
    refine BOk.yes rfl [33, 34] [] rfl 32 true rfl rfl rfl (by kernel_rfl) (by kernel_rfl) (by kernel_rfl) (fun qK qa wr hB qO qF hK => ?_) ?_
    · obtain ⟨u94, e94, r33⟩ := qF.1
      have e94 : qa.tmps[94]? = some (.agg #[.int .i64 x.k, .int .u64 x.b]) := (show u94 = .agg #[.int .i64 x.k, .int .u64 x.b] from r33) ▸ e94
      clear r33
      obtain ⟨u95, e95, r34⟩ := qF.2.1
      have e95 : qa.tmps[95]? = some (.agg #[.int .i64 y.k, .int .u64 y.b]) := (show u95 = .agg #[.int .i64 y.k, .int .u64 y.b] from r34) ▸ e95
      clear r34
      clear qO qF
      go_simp
      exact hK _ _ ((Below.refl _ _).alloc (Nat.le_refl _) _) ⟨_, rfl, Bk.new _ _ _⟩
    refine BOk.yes rfl [35] [] rfl 32 true rfl rfl rfl (by kernel_rfl) (by kernel_rfl) (by kernel_rfl) (fun qK qa wr hB qO qF hK => ?_) ?_
    · obtain ⟨u96, e96, r35⟩ := qF.1
      obtain ⟨g96, h96, k96⟩ := (show ∃ g, u96 = .slice (some ⟨g, 0, none⟩) 2 2 ∧ Bk wr g 24 #[.int .i64 x.k, .int .u64 x.b, .int .i64 y.k, .int .u64 y.b] from r35)
      subst h96
      have e96 : qa.tmps[96]? = some (.slice (some ⟨g96, 0, none⟩) 2 2) := e96
      clear qO qF
      go_simp
      go_at_call 23
      refine (do_bk 12 [x, y] _ _ k96 rfl (by intro q hq; simp only [List.mem_cons, List.not_mem_nil, or_false] at hq; rcases hq with rfl | rfl; exact hx; exact hy) (by simp)).mono ?_
      rintro e w2 ⟨rfl, hb2⟩
      rw [e12]
      exact hK _ _ hb2 rfl
    refine BOk.yes rfl [] [7] rfl 32 true rfl rfl rfl (by kernel_rfl) (by kernel_rfl) (by kernel_rfl) (fun qK qa wr hB qO qF hK => ?_) ?_
    · have e7 : qa.tmps[7]? = some (.pointer (some ⟨g7, 0, none⟩)) := qO.1.trans rfl
      clear qO qF
      have hc70 := (bcell hB _ _ (World.block_lt_of_cell? _ _ c70)).trans c70
      have hc71 := (bcell hB _ _ (World.block_lt_of_cell? _ _ c71)).trans c71
      go_simp
      exact hK _ _ (Below.refl _ _) rfl
    refine BOk.yes rfl [] [6] rfl 32 true rfl rfl rfl (by kernel_rfl) (by kernel_rfl) (by kernel_rfl) (fun qK qa wr hB qO qF hK => ?_) ?_
    · have e6 : qa.tmps[6]? = some (.pointer (some ⟨g6, 0, none⟩)) := qO.1.trans rfl
      clear qO qF
      have hc60 := (bcell hB _ _ (World.block_lt_of_cell? _ _ c60)).trans c60
      have hc61 := (bcell hB _ _ (World.block_lt_of_cell? _ _ c61)).trans c61
      go_simp
      exact hK _ _ (Below.refl _ _) rfl
    refine BOk.yes rfl [37, 38] [] rfl 32 true rfl rfl rfl (by kernel_rfl) (by kernel_rfl) (by kernel_rfl) (fun qK qa wr hB qO qF hK => ?_) ?_
    · obtain ⟨u98, e98, r37⟩ := qF.1
      have e98 : qa.tmps[98]? = some (.agg #[.int .i64 2, .int .u64 r]) := (show u98 = .agg #[.int .i64 2, .int .u64 r] from r37) ▸ e98
      clear r37
      obtain ⟨u99, e99, r38⟩ := qF.2.1
      have e99 : qa.tmps[99]? = some (.agg #[.int .i64 2, .int .u64 q]) := (show u99 = .agg #[.int .i64 2, .int .u64 q] from r38) ▸ e99
      clear r38
      clear qO qF
      go_simp
      exact hK _ _ ((Below.refl _ _).alloc (Nat.le_refl _) _) ⟨_, rfl, Bk.new _ _ _⟩
    refine BOk.yes rfl [39] [] rfl 32 true rfl rfl rfl (by kernel_rfl) (by kernel_rfl) (by kernel_rfl) (fun qK qa wr hB qO qF hK => ?_) ?_
    · obtain ⟨u100, e100, r39⟩ := qF.1
      obtain ⟨g100, h100, k100⟩ := (show ∃ g, u100 = .slice (some ⟨g, 0, none⟩) 2 2 ∧ Bk wr g 24 #[.int .i64 2, .int .u64 r, .int .i64 2, .int .u64 q] from r39)
      subst h100
      have e100 : qa.tmps[100]? = some (.slice (some ⟨g100, 0, none⟩) 2 2) := e100
      clear qO qF
      go_simp
      go_at_call 23
      refine (do_bk 14 [(V.mk 2 r), (V.mk 2 q)] _ _ k100 rfl (by intro q hq; simp only [List.mem_cons, List.not_mem_nil, or_false] at hq; rcases hq with rfl | rfl; exact hr; exact hq) (by simp)).mono ?_
      rintro e w2 ⟨rfl, hb2⟩
      rw [e16]
      exact hK _ _ hb2 rfl
    refine BOk.yes rfl [36, 40] [] rfl 32 true rfl rfl rfl (by kernel_rfl) (by kernel_rfl) (by kernel_rfl) (fun qK qa wr hB qO qF hK => ?_) ?_
    · obtain ⟨u97, e97, r36⟩ := qF.1
      have e97 : qa.tmps[97]? = some (.agg #[.int .i64 2, .int .u64 u12]) := (show u97 = .agg #[.int .i64 2, .int .u64 u12] from r36) ▸ e97
      clear r36
      obtain ⟨u101, e101, r40⟩ := qF.2.1
      have e101 : qa.tmps[101]? = some (.agg #[.int .i64 2, .int .u64 u12]) := (show u101 = .agg #[.int .i64 2, .int .u64 u12] from r40) ▸ e101
      clear r40
      clear qO qF
      go_simp
      refine hK _ _ (Below.refl _ _) ?_
      show (_ : Value) = _
      first | rfl | (simp; done) | (simp; omega)
    refine BOk.cons rfl [32, 41] [] rfl rfl (by kernel_rfl) (by kernel_rfl) (fun qK qa wr hB qO qF hK => ?_) ?_
    · obtain ⟨u93, e93, r32⟩ := qF.1
      have e93 : qa.tmps[93]? = some (.bool true) := (show u93 = .bool true from r32) ▸ e93
      clear r32
      obtain ⟨u102, e102, r41⟩ := qF.2.1
      have e102 : qa.tmps[102]? = some (.bool true) := (show u102 = .bool true from r41) ▸ e102
      clear r41
      clear qO qF
      go_simp
      refine hK _ _ (Below.refl _ _) ?_
      show (_ : Value) = _
      first | rfl | (simp; done) | (simp; omega)
    refine BOk.cons rfl [42] [] rfl rfl (by kernel_rfl) (by kernel_rfl) (fun qK qa wr hB qO qF hK => ?_) ?_
    · obtain ⟨u103, e103, r42⟩ := qF.1
      have e103 : qa.tmps[103]? = some (.bool true) := (show u103 = .bool true from r42) ▸ e103
      clear r42
      clear qO qF
      go_simp
      exact hK _ _ (Below.refl _ _) rfl
    exact BOk.nil
  intro vals wr hl hB hR
  obtain ⟨qc0, qd0, rfl, hc0, hd0⟩ := split_len 24 20 vals (by first | exact hl | simpa using hl)
  match qc0, hc0 with
  | [vq61, vq62, vq63, vq64, vq65, vq66, vq67, vq68, vq69, vq70, vq71, vq72, vq73, vq74, vq75, vq76, vq77, vq78, vq79, vq80, vq81, vq82, vq83, vq84], _ =>
  match qd0, hd0 with
  | [vq85, vq86, vq87, vq88, vq89, vq90, vq91, vq92, vq93, vq94, vq95, vq96, vq97, vq98, vq99, vq100, vq101, vq102, vq103, vq4], _ =>
  have r43 : vq4 = .bool true := hR 43 _ rfl
  subst r43
  clear hR
  simp only [List.cons_append, List.nil_append, putAll, Act.put, List.setIfInBounds_toArray, List.set_cons_zero, List.set_cons_succ]
  go_wp2_with fail
  go_ret
  exact ⟨rfl, hbW.trans (hB.mono hbW.size)⟩

end Go.Proofs.Ytlejjchaooeabaa.valueCompares
