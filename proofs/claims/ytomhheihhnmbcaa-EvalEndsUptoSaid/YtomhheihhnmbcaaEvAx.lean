/- Layer 9: the law's awake. No conditions. -/
import Derived.Test.YtomhheihhnmbcaaEvAw
namespace Go.Proofs.Ytomhheihhnmbcaa
open Go.RowKit
set_option linter.unusedVariables false
set_option linter.unusedSimpArgs false

def evAwake (A : Option Addr) (c QG1 QGK QGT : Nat) : List Spec := [.is (.agg #[.slice A 3 c, .slice (some ⟨QG1, 0, none⟩) 1 1, .int .i64 2]),
  .is (.agg #[.int .i64 1, .int .u64 12]),
  .is (.agg #[.int .i64 1, .int .u64 12]),
  .is (.bool true),
  .is (.bool true),
  .is (.agg #[.slice A 3 c, .slice (some ⟨QG1, 0, none⟩) 1 1, .int .i64 2]),
  .is (.agg #[.int .i64 0, .int .u64 0]),
  .is (.int .i64 0),
  .is (.bool true),
  .is (.bool true),
  .is (.bool true),
  .is (.agg #[.slice A 3 c, .slice (some ⟨QG1, 0, none⟩) 1 1, .int .i64 2]),
  .is (.agg #[.int .i64 1, .int .u64 7]),
  .is (.int .u64 7),
  .is (.bool true),
  .is (.bool true),
  .is (.bool true),
  .is (.agg #[.slice A 3 c, .slice (some ⟨QG1, 0, none⟩) 1 1, .int .i64 2]),
  .is (.agg #[.int .i64 1, .int .u64 9]),
  .is (.int .u64 9),
  .is (.bool true),
  .is (.bool true),
  .is (.bool true),
  .is (.agg #[.slice A 3 c, .slice (some ⟨QG1, 0, none⟩) 1 1, .int .i64 2]),
  .is (.agg #[.int .i64 1, .int .u64 0]),
  .is (.int .i64 1),
  .is (.bool true),
  .is (.bool true),
  .is (.bool true)]

def awK (A : Option Addr) (c g0 g1 : Nat) (es : List EventV) : LookV := ⟨A, c, es, some ⟨g1, 0, none⟩, 1, [⟨some ⟨g0, 0, none⟩, 2, [0, 1]⟩], 2⟩
theorem aw_val {A : Option Addr} {c g0 g1 : Nat} {es : List EventV} (h : es.length = 3) : (awK A c g0 g1 es).val = .agg #[.slice A 3 c, .slice (some ⟨g1, 0, none⟩) 1 1, .int .i64 2] := by
  unfold LookV.val awK
  simp only [h, List.length_cons, List.length_nil]
theorem mean_bad : applyV 4 [⟨1, 12⟩, applyV 16 [⟨1, 2⟩]] = none0 := by rfl
theorem sum_good : addV (intV 5) (intV 7) = ⟨1, 12⟩ := by
  unfold addV
  rw [int_two 1 (by unfold I64; omega) (by unfold I64; omega) (by omega)]
  rfl
theorem aw_vals {A : Option Addr} {c g0 g1 : Nat} {es : List EventV} {w : World} {B : Nat} (h : EvIs [5, 7, 9] es w B) :
    doV (awK A c g0 g1 es) 28 0 0 = ⟨1, 12⟩ ∧ doV (awK A c g0 g1 es) 31 0 0 = none0 ∧ doV (awK A c g0 g1 es) 27 0 0 = ⟨1, 7⟩ ∧ doV (awK A c g0 g1 es) 41 0 0 = ⟨1, 9⟩ ∧ doV (awK A c g0 g1 es) 25 1 0 = ⟨1, 0⟩ := by
  have a0 : attrL es 0 0 = intV 5 := h.attr (i := 0) (by decide)
  have a1 : attrL es 1 0 = intV 7 := h.attr (i := 1) (by decide)
  have a2 : attrL es 2 0 = intV 9 := h.attr (i := 2) (by decide)
  have hm : (hasL (awK A c g0 g1 es).bs 0).map (fun at_ => attrL es at_ 0) = [intV 5, intV 7] := by
    show [attrL es 0 0, attrL es 1 0] = _
    rw [a0, a1]
  refine ⟨?_, ?_, ?_, ?_, ?_⟩
  · show aggV 28 ((hasL (awK A c g0 g1 es).bs 0).map (fun at_ => attrL es at_ 0)) = _
    rw [hm]
    exact sum_good
  · show aggV 31 ((hasL (awK A c g0 g1 es).bs 0).map (fun at_ => attrL es at_ 0)) = _
    rw [hm]
    show applyV 4 [addV (intV 5) (intV 7), applyV 16 [⟨1, 2⟩]] = none0
    rw [sum_good]
    exact mean_bad
  · show aggV 27 ((hasL (awK A c g0 g1 es).bs 0).map (fun at_ => attrL es at_ 0)) = _
    rw [hm]
    rfl
  · exact a2
  · rfl
set_option maxRecDepth 100000 in
set_option maxHeartbeats 2000000 in
theorem awake_any (w : World) : Calls Try.prog 8 #[] w fun e w' => e = .returned (.bool true) ∧ Below w.heap.size w w' := by
  have hints := ints_any [5, 7, 9] (some ⟨w.heap.size, 0, none⟩) 3 (w.alloc (.cells #[.int .i64 5, .int .i64 7, .int .i64 9] 2)) (bk_rd (Bk.new w 2 #[.int .i64 5, .int .i64 7, .int .i64 9])) (by decide)
  have HI := Lib.hid hints
  clear hints
  go_enter Try.func8, Try.ntmps8
  go_wp2_with fail
  refine HI.out.mono ?_
  rintro e w1 ⟨A, c, es, rfl, hes, hown, hb1⟩
  have hbe : Below w.heap.size w w1 := ((Below.refl _ _).alloc (Nat.le_refl _) _).trans (hb1.mono (by simp))
  clear hb1 HI
  go_wp2_with fail
  simp only [List.length_cons, List.length_nil, Nat.zero_add, Nat.reduceAdd] at hown
  have hlen : es.length = 3 := hes.len
  have hz := hbe.size
  have HV := aw_vals (A := A) (c := c) (g0 := w1.heap.size) (g1 := w1.heap.size + 1) hes
  obtain ⟨v0, v1, v2, v3, v4⟩ := HV
  have HV280 := Lib.hid v0
  have HV310 := Lib.hid v1
  have HV270 := Lib.hid v2
  have HV410 := Lib.hid v3
  have HV251 := Lib.hid v4
  clear v0 v1 v2 v3 v4
  have hb4 : Below w1.heap.size w1 ((((w1.alloc (.cells #[.int .i64 0, .int .i64 1] 3)).alloc (.cells #[.slice (some ⟨w1.heap.size, 0, none⟩) 2 2] 23)).alloc (.cells #[.slice A 3 c, .slice (some ⟨w1.heap.size + 1, 0, none⟩) 1 1, .int .i64 2] 28)).alloc (.cells #[.int .i64 1, .int .u64 12] 31)) := bel4 w1 _ _ _ _
  have kb0 := (((Bk.new w1 3 #[.int .i64 0, .int .i64 1]).alloc (.cells #[.slice (some ⟨w1.heap.size, 0, none⟩) 2 2] 23)).alloc (.cells #[.slice A 3 c, .slice (some ⟨w1.heap.size + 1, 0, none⟩) 1 1, .int .i64 2] 28)).alloc (.cells #[.int .i64 1, .int .u64 12] 31)
  have kb1 := ((Bk.newAt (w := w1.alloc (.cells #[.int .i64 0, .int .i64 1] 3)) (g := w1.heap.size + 1) (by simp) 23 #[.slice (some ⟨w1.heap.size, 0, none⟩) 2 2]).alloc (.cells #[.slice A 3 c, .slice (some ⟨w1.heap.size + 1, 0, none⟩) 1 1, .int .i64 2] 28)).alloc (.cells #[.int .i64 1, .int .u64 12] 31)
  have kk0 := (Bk.newAt (w := (w1.alloc (.cells #[.int .i64 0, .int .i64 1] 3)).alloc (.cells #[.slice (some ⟨w1.heap.size, 0, none⟩) 2 2] 23)) (g := w1.heap.size + 2) (by simp) 28 #[.slice A 3 c, .slice (some ⟨w1.heap.size + 1, 0, none⟩) 1 1, .int .i64 2]).alloc (.cells #[.int .i64 1, .int .u64 12] 31)
  have kt := Bk.newAt (w := ((w1.alloc (.cells #[.int .i64 0, .int .i64 1] 3)).alloc (.cells #[.slice (some ⟨w1.heap.size, 0, none⟩) 2 2] 23)).alloc (.cells #[.slice A 3 c, .slice (some ⟨w1.heap.size + 1, 0, none⟩) 1 1, .int .i64 2] 28)) (g := w1.heap.size + 3) (by simp) 31 #[.int .i64 1, .int .u64 12]
  have hes4 := hes.keep fun g n h => (((h.alloc (.cells #[.int .i64 0, .int .i64 1] 3)).alloc (.cells #[.slice (some ⟨w1.heap.size, 0, none⟩) 2 2] 23)).alloc (.cells #[.slice A 3 c, .slice (some ⟨w1.heap.size + 1, 0, none⟩) 1 1, .int .i64 2] 28)).alloc (.cells #[.int .i64 1, .int .u64 12] 31)
  have hown4 := (((hown.alloc (.cells #[.int .i64 0, .int .i64 1] 3)).alloc (.cells #[.slice (some ⟨w1.heap.size, 0, none⟩) 2 2] 23)).alloc (.cells #[.slice A 3 c, .slice (some ⟨w1.heap.size + 1, 0, none⟩) 1 1, .int .i64 2] 28)).alloc (.cells #[.int .i64 1, .int .u64 12] 31)
  have hok : (awK A c w1.heap.size (w1.heap.size + 1) es).ok ((((w1.alloc (.cells #[.int .i64 0, .int .i64 1] 3)).alloc (.cells #[.slice (some ⟨w1.heap.size, 0, none⟩) 2 2] 23)).alloc (.cells #[.slice A 3 c, .slice (some ⟨w1.heap.size + 1, 0, none⟩) 1 1, .int .i64 2] 28)).alloc (.cells #[.int .i64 1, .int .u64 12] 31)) ((((w1.alloc (.cells #[.int .i64 0, .int .i64 1] 3)).alloc (.cells #[.slice (some ⟨w1.heap.size, 0, none⟩) 2 2] 23)).alloc (.cells #[.slice A 3 c, .slice (some ⟨w1.heap.size + 1, 0, none⟩) 1 1, .int .i64 2] 28)).alloc (.cells #[.int .i64 1, .int .u64 12] 31)).heap.size :=
    ⟨own_rd hown4, by show es.length ≤ _; omega, hes4.ok, bk_rd kb1, by show 1 ≤ _; omega, fun e he => by
      obtain rfl : e = ⟨some ⟨w1.heap.size, 0, none⟩, 2, [0, 1]⟩ := by simpa [awK] using he
      exact ⟨bk_rd kb0, by show 2 ≤ _; omega⟩⟩
  have hdo : ∀ (op pos a : Int) (w' : World), Below ((((w1.alloc (.cells #[.int .i64 0, .int .i64 1] 3)).alloc (.cells #[.slice (some ⟨w1.heap.size, 0, none⟩) 2 2] 23)).alloc (.cells #[.slice A 3 c, .slice (some ⟨w1.heap.size + 1, 0, none⟩) 1 1, .int .i64 2] 28)).alloc (.cells #[.int .i64 1, .int .u64 12] 31)).heap.size ((((w1.alloc (.cells #[.int .i64 0, .int .i64 1] 3)).alloc (.cells #[.slice (some ⟨w1.heap.size, 0, none⟩) 2 2] 23)).alloc (.cells #[.slice A 3 c, .slice (some ⟨w1.heap.size + 1, 0, none⟩) 1 1, .int .i64 2] 28)).alloc (.cells #[.int .i64 1, .int .u64 12] 31)) w' → Calls Try.prog 9 #[.int .i64 op, .int .i64 pos, .int .i64 a, .agg #[.slice A 3 c, .slice (some ⟨w1.heap.size + 1, 0, none⟩) 1 1, .int .i64 2]] w' fun e w2 => e = .returned (doV (awK A c w1.heap.size (w1.heap.size + 1) es) op pos a).v ∧ Below w'.heap.size w' w2 := by
    intro op pos a w' hw
    have := do_any (awK A c w1.heap.size (w1.heap.size + 1) es) op pos a w' (hok.old hw)
    rwa [aw_val hlen] at this
  have hbW : Below w.heap.size w ((((w1.alloc (.cells #[.int .i64 0, .int .i64 1] 3)).alloc (.cells #[.slice (some ⟨w1.heap.size, 0, none⟩) 2 2] 23)).alloc (.cells #[.slice A 3 c, .slice (some ⟨w1.heap.size + 1, 0, none⟩) 1 1, .int .i64 2] 28)).alloc (.cells #[.int .i64 1, .int .u64 12] 31)) := hbe.trans (hb4.mono hz)
  have k0 := kk0.cell 0
  have k1 := kk0.cell 1
  have k2 := kk0.cell 2
  have t0 := kt.cell 0
  have t1 := kt.cell 1
  have HDO := Lib.hid hdo
  have HW := Lib.hid (Below.refl ((((w1.alloc (.cells #[.int .i64 0, .int .i64 1] 3)).alloc (.cells #[.slice (some ⟨w1.heap.size, 0, none⟩) 2 2] 23)).alloc (.cells #[.slice A 3 c, .slice (some ⟨w1.heap.size + 1, 0, none⟩) 1 1, .int .i64 2] 28)).alloc (.cells #[.int .i64 1, .int .u64 12] 31)).heap.size ((((w1.alloc (.cells #[.int .i64 0, .int .i64 1] 3)).alloc (.cells #[.slice (some ⟨w1.heap.size, 0, none⟩) 2 2] 23)).alloc (.cells #[.slice A 3 c, .slice (some ⟨w1.heap.size + 1, 0, none⟩) 1 1, .int .i64 2] 28)).alloc (.cells #[.int .i64 1, .int .u64 12] 31)))
  clear hdo hok hown4 hes4 kb0 kb1 kk0 kt hb4 hes hown hbe
  refine wp_region_b (by kernel_rfl) (fun qk => (evAwake A c (w1.heap.size + 1) (w1.heap.size + 2) (w1.heap.size + 3)).getD qk .any) (by kernel_rfl) ?_ ?_
  · refine BOk.cons rfl [] [1] rfl rfl (by kernel_rfl) (by kernel_rfl) (fun qK qa wr hB qO qF hK => ?_) ?_
    · have e1 : qa.tmps[1]? = some (.pointer (some ⟨w1.heap.size + 2, 0, none⟩)) := qO.1.trans rfl
      clear qO qF
      have hk0 := (bcell hB _ _ (World.block_lt_of_cell? _ _ k0)).trans k0
      have hk1 := (bcell hB _ _ (World.block_lt_of_cell? _ _ k1)).trans k1
      have hk2 := (bcell hB _ _ (World.block_lt_of_cell? _ _ k2)).trans k2
      go_simp
      exact hK _ _ (Below.refl _ _) rfl
    refine BOk.cons rfl [0] [] rfl rfl (by kernel_rfl) (by kernel_rfl) (fun qK qa wr hB qO qF hK => ?_) ?_
    · obtain ⟨u9, e9, r0⟩ := qF.1
      have e9 : qa.tmps[9]? = some (.agg #[.slice A 3 c, .slice (some ⟨w1.heap.size + 1, 0, none⟩) 1 1, .int .i64 2]) := (show u9 = .agg #[.slice A 3 c, .slice (some ⟨w1.heap.size + 1, 0, none⟩) 1 1, .int .i64 2] from r0) ▸ e9
      clear r0
      clear qO qF
      go_simp
      go_at_call 9
      refine (HDO.out 28 0 0 _ (HW.out.trans (hB.mono HW.out.size))).mono ?_
      rintro e w2 ⟨rfl, hb2⟩
      rw [HV280.out]
      exact hK _ _ hb2 rfl
    refine BOk.cons rfl [] [2] rfl rfl (by kernel_rfl) (by kernel_rfl) (fun qK qa wr hB qO qF hK => ?_) ?_
    · have e2 : qa.tmps[2]? = some (.pointer (some ⟨w1.heap.size + 3, 0, none⟩)) := qO.1.trans rfl
      clear qO qF
      have ht0 := (bcell hB _ _ (World.block_lt_of_cell? _ _ t0)).trans t0
      have ht1 := (bcell hB _ _ (World.block_lt_of_cell? _ _ t1)).trans t1
      go_simp
      exact hK _ _ (Below.refl _ _) rfl
    refine BOk.cons rfl [1, 2] [] rfl rfl (by kernel_rfl) (by kernel_rfl) (fun qK qa wr hB qO qF hK => ?_) ?_
    · obtain ⟨u10, e10, r1⟩ := qF.1
      have e10 : qa.tmps[10]? = some (.agg #[.int .i64 1, .int .u64 12]) := (show u10 = .agg #[.int .i64 1, .int .u64 12] from r1) ▸ e10
      clear r1
      obtain ⟨u11, e11, r2⟩ := qF.2.1
      have e11 : qa.tmps[11]? = some (.agg #[.int .i64 1, .int .u64 12]) := (show u11 = .agg #[.int .i64 1, .int .u64 12] from r2) ▸ e11
      clear r2
      clear qO qF
      go_simp
      refine hK _ _ (Below.refl _ _) ?_
      show (_ : Value) = _
      first | rfl | (simp; done) | (simp; omega)
    refine BOk.cons rfl [3] [] rfl rfl (by kernel_rfl) (by kernel_rfl) (fun qK qa wr hB qO qF hK => ?_) ?_
    · obtain ⟨u12, e12, r3⟩ := qF.1
      have e12 : qa.tmps[12]? = some (.bool true) := (show u12 = .bool true from r3) ▸ e12
      clear r3
      clear qO qF
      go_simp
      exact hK _ _ (Below.refl _ _) rfl
    refine BOk.yes rfl [] [1] rfl 4 true rfl rfl rfl (by kernel_rfl) (by kernel_rfl) (by kernel_rfl) (fun qK qa wr hB qO qF hK => ?_) ?_
    · have e1 : qa.tmps[1]? = some (.pointer (some ⟨w1.heap.size + 2, 0, none⟩)) := qO.1.trans rfl
      clear qO qF
      have hk0 := (bcell hB _ _ (World.block_lt_of_cell? _ _ k0)).trans k0
      have hk1 := (bcell hB _ _ (World.block_lt_of_cell? _ _ k1)).trans k1
      have hk2 := (bcell hB _ _ (World.block_lt_of_cell? _ _ k2)).trans k2
      go_simp
      exact hK _ _ (Below.refl _ _) rfl
    refine BOk.yes rfl [5] [] rfl 4 true rfl rfl rfl (by kernel_rfl) (by kernel_rfl) (by kernel_rfl) (fun qK qa wr hB qO qF hK => ?_) ?_
    · obtain ⟨u14, e14, r5⟩ := qF.1
      have e14 : qa.tmps[14]? = some (.agg #[.slice A 3 c, .slice (some ⟨w1.heap.size + 1, 0, none⟩) 1 1, .int .i64 2]) := (show u14 = .agg #[.slice A 3 c, .slice (some ⟨w1.heap.size + 1, 0, none⟩) 1 1, .int .i64 2] from r5) ▸ e14
      clear r5
      clear qO qF
      go_simp
      go_at_call 9
      refine (HDO.out 31 0 0 _ (HW.out.trans (hB.mono HW.out.size))).mono ?_
      rintro e w2 ⟨rfl, hb2⟩
      rw [HV310.out]
      exact hK _ _ hb2 rfl
    refine BOk.yes rfl [6] [] rfl 4 true rfl rfl rfl (by kernel_rfl) (by kernel_rfl) (by kernel_rfl) (fun qK qa wr hB qO qF hK => ?_) ?_
    · obtain ⟨u15, e15, r6⟩ := qF.1
      have e15 : qa.tmps[15]? = some (.agg #[.int .i64 0, .int .u64 0]) := (show u15 = .agg #[.int .i64 0, .int .u64 0] from r6) ▸ e15
      clear r6
      clear qO qF
      go_simp
      exact hK _ _ (Below.refl _ _) rfl
    refine BOk.yes rfl [7] [] rfl 4 true rfl rfl rfl (by kernel_rfl) (by kernel_rfl) (by kernel_rfl) (fun qK qa wr hB qO qF hK => ?_) ?_
    · obtain ⟨u16, e16, r7⟩ := qF.1
      have e16 : qa.tmps[16]? = some (.int .i64 0) := (show u16 = .int .i64 0 from r7) ▸ e16
      clear r7
      clear qO qF
      go_simp
      refine hK _ _ (Below.refl _ _) ?_
      show (_ : Value) = _
      first | rfl | (simp; done) | (simp; omega)
    refine BOk.cons rfl [4, 8] [] rfl rfl (by kernel_rfl) (by kernel_rfl) (fun qK qa wr hB qO qF hK => ?_) ?_
    · obtain ⟨u13, e13, r4⟩ := qF.1
      have e13 : qa.tmps[13]? = some (.bool true) := (show u13 = .bool true from r4) ▸ e13
      clear r4
      obtain ⟨u17, e17, r8⟩ := qF.2.1
      have e17 : qa.tmps[17]? = some (.bool true) := (show u17 = .bool true from r8) ▸ e17
      clear r8
      clear qO qF
      go_simp
      refine hK _ _ (Below.refl _ _) ?_
      show (_ : Value) = _
      first | rfl | (simp; done) | (simp; omega)
    refine BOk.cons rfl [9] [] rfl rfl (by kernel_rfl) (by kernel_rfl) (fun qK qa wr hB qO qF hK => ?_) ?_
    · obtain ⟨u18, e18, r9⟩ := qF.1
      have e18 : qa.tmps[18]? = some (.bool true) := (show u18 = .bool true from r9) ▸ e18
      clear r9
      clear qO qF
      go_simp
      exact hK _ _ (Below.refl _ _) rfl
    refine BOk.yes rfl [] [1] rfl 10 true rfl rfl rfl (by kernel_rfl) (by kernel_rfl) (by kernel_rfl) (fun qK qa wr hB qO qF hK => ?_) ?_
    · have e1 : qa.tmps[1]? = some (.pointer (some ⟨w1.heap.size + 2, 0, none⟩)) := qO.1.trans rfl
      clear qO qF
      have hk0 := (bcell hB _ _ (World.block_lt_of_cell? _ _ k0)).trans k0
      have hk1 := (bcell hB _ _ (World.block_lt_of_cell? _ _ k1)).trans k1
      have hk2 := (bcell hB _ _ (World.block_lt_of_cell? _ _ k2)).trans k2
      go_simp
      exact hK _ _ (Below.refl _ _) rfl
    refine BOk.yes rfl [11] [] rfl 10 true rfl rfl rfl (by kernel_rfl) (by kernel_rfl) (by kernel_rfl) (fun qK qa wr hB qO qF hK => ?_) ?_
    · obtain ⟨u20, e20, r11⟩ := qF.1
      have e20 : qa.tmps[20]? = some (.agg #[.slice A 3 c, .slice (some ⟨w1.heap.size + 1, 0, none⟩) 1 1, .int .i64 2]) := (show u20 = .agg #[.slice A 3 c, .slice (some ⟨w1.heap.size + 1, 0, none⟩) 1 1, .int .i64 2] from r11) ▸ e20
      clear r11
      clear qO qF
      go_simp
      go_at_call 9
      refine (HDO.out 27 0 0 _ (HW.out.trans (hB.mono HW.out.size))).mono ?_
      rintro e w2 ⟨rfl, hb2⟩
      rw [HV270.out]
      exact hK _ _ hb2 rfl
    refine BOk.yes rfl [12] [] rfl 10 true rfl rfl rfl (by kernel_rfl) (by kernel_rfl) (by kernel_rfl) (fun qK qa wr hB qO qF hK => ?_) ?_
    · obtain ⟨u21, e21, r12⟩ := qF.1
      have e21 : qa.tmps[21]? = some (.agg #[.int .i64 1, .int .u64 7]) := (show u21 = .agg #[.int .i64 1, .int .u64 7] from r12) ▸ e21
      clear r12
      clear qO qF
      go_simp
      exact hK _ _ (Below.refl _ _) rfl
    refine BOk.yes rfl [13] [] rfl 10 true rfl rfl rfl (by kernel_rfl) (by kernel_rfl) (by kernel_rfl) (fun qK qa wr hB qO qF hK => ?_) ?_
    · obtain ⟨u22, e22, r13⟩ := qF.1
      have e22 : qa.tmps[22]? = some (.int .u64 7) := (show u22 = .int .u64 7 from r13) ▸ e22
      clear r13
      clear qO qF
      go_simp
      refine hK _ _ (Below.refl _ _) ?_
      show (_ : Value) = _
      first | rfl | (simp; done) | (simp; omega)
    refine BOk.cons rfl [10, 14] [] rfl rfl (by kernel_rfl) (by kernel_rfl) (fun qK qa wr hB qO qF hK => ?_) ?_
    · obtain ⟨u19, e19, r10⟩ := qF.1
      have e19 : qa.tmps[19]? = some (.bool true) := (show u19 = .bool true from r10) ▸ e19
      clear r10
      obtain ⟨u23, e23, r14⟩ := qF.2.1
      have e23 : qa.tmps[23]? = some (.bool true) := (show u23 = .bool true from r14) ▸ e23
      clear r14
      clear qO qF
      go_simp
      refine hK _ _ (Below.refl _ _) ?_
      show (_ : Value) = _
      first | rfl | (simp; done) | (simp; omega)
    refine BOk.cons rfl [15] [] rfl rfl (by kernel_rfl) (by kernel_rfl) (fun qK qa wr hB qO qF hK => ?_) ?_
    · obtain ⟨u24, e24, r15⟩ := qF.1
      have e24 : qa.tmps[24]? = some (.bool true) := (show u24 = .bool true from r15) ▸ e24
      clear r15
      clear qO qF
      go_simp
      exact hK _ _ (Below.refl _ _) rfl
    refine BOk.yes rfl [] [1] rfl 16 true rfl rfl rfl (by kernel_rfl) (by kernel_rfl) (by kernel_rfl) (fun qK qa wr hB qO qF hK => ?_) ?_
    · have e1 : qa.tmps[1]? = some (.pointer (some ⟨w1.heap.size + 2, 0, none⟩)) := qO.1.trans rfl
      clear qO qF
      have hk0 := (bcell hB _ _ (World.block_lt_of_cell? _ _ k0)).trans k0
      have hk1 := (bcell hB _ _ (World.block_lt_of_cell? _ _ k1)).trans k1
      have hk2 := (bcell hB _ _ (World.block_lt_of_cell? _ _ k2)).trans k2
      go_simp
      exact hK _ _ (Below.refl _ _) rfl
    refine BOk.yes rfl [17] [] rfl 16 true rfl rfl rfl (by kernel_rfl) (by kernel_rfl) (by kernel_rfl) (fun qK qa wr hB qO qF hK => ?_) ?_
    · obtain ⟨u26, e26, r17⟩ := qF.1
      have e26 : qa.tmps[26]? = some (.agg #[.slice A 3 c, .slice (some ⟨w1.heap.size + 1, 0, none⟩) 1 1, .int .i64 2]) := (show u26 = .agg #[.slice A 3 c, .slice (some ⟨w1.heap.size + 1, 0, none⟩) 1 1, .int .i64 2] from r17) ▸ e26
      clear r17
      clear qO qF
      go_simp
      go_at_call 9
      refine (HDO.out 41 0 0 _ (HW.out.trans (hB.mono HW.out.size))).mono ?_
      rintro e w2 ⟨rfl, hb2⟩
      rw [HV410.out]
      exact hK _ _ hb2 rfl
    refine BOk.yes rfl [18] [] rfl 16 true rfl rfl rfl (by kernel_rfl) (by kernel_rfl) (by kernel_rfl) (fun qK qa wr hB qO qF hK => ?_) ?_
    · obtain ⟨u27, e27, r18⟩ := qF.1
      have e27 : qa.tmps[27]? = some (.agg #[.int .i64 1, .int .u64 9]) := (show u27 = .agg #[.int .i64 1, .int .u64 9] from r18) ▸ e27
      clear r18
      clear qO qF
      go_simp
      exact hK _ _ (Below.refl _ _) rfl
    refine BOk.yes rfl [19] [] rfl 16 true rfl rfl rfl (by kernel_rfl) (by kernel_rfl) (by kernel_rfl) (fun qK qa wr hB qO qF hK => ?_) ?_
    · obtain ⟨u28, e28, r19⟩ := qF.1
      have e28 : qa.tmps[28]? = some (.int .u64 9) := (show u28 = .int .u64 9 from r19) ▸ e28
      clear r19
      clear qO qF
      go_simp
      refine hK _ _ (Below.refl _ _) ?_
      show (_ : Value) = _
      first | rfl | (simp; done) | (simp; omega)
    refine BOk.cons rfl [16, 20] [] rfl rfl (by kernel_rfl) (by kernel_rfl) (fun qK qa wr hB qO qF hK => ?_) ?_
    · obtain ⟨u25, e25, r16⟩ := qF.1
      have e25 : qa.tmps[25]? = some (.bool true) := (show u25 = .bool true from r16) ▸ e25
      clear r16
      obtain ⟨u29, e29, r20⟩ := qF.2.1
      have e29 : qa.tmps[29]? = some (.bool true) := (show u29 = .bool true from r20) ▸ e29
      clear r20
      clear qO qF
      go_simp
      refine hK _ _ (Below.refl _ _) ?_
      show (_ : Value) = _
      first | rfl | (simp; done) | (simp; omega)
    refine BOk.cons rfl [21] [] rfl rfl (by kernel_rfl) (by kernel_rfl) (fun qK qa wr hB qO qF hK => ?_) ?_
    · obtain ⟨u30, e30, r21⟩ := qF.1
      have e30 : qa.tmps[30]? = some (.bool true) := (show u30 = .bool true from r21) ▸ e30
      clear r21
      clear qO qF
      go_simp
      exact hK _ _ (Below.refl _ _) rfl
    refine BOk.yes rfl [] [1] rfl 22 true rfl rfl rfl (by kernel_rfl) (by kernel_rfl) (by kernel_rfl) (fun qK qa wr hB qO qF hK => ?_) ?_
    · have e1 : qa.tmps[1]? = some (.pointer (some ⟨w1.heap.size + 2, 0, none⟩)) := qO.1.trans rfl
      clear qO qF
      have hk0 := (bcell hB _ _ (World.block_lt_of_cell? _ _ k0)).trans k0
      have hk1 := (bcell hB _ _ (World.block_lt_of_cell? _ _ k1)).trans k1
      have hk2 := (bcell hB _ _ (World.block_lt_of_cell? _ _ k2)).trans k2
      go_simp
      exact hK _ _ (Below.refl _ _) rfl
    refine BOk.yes rfl [23] [] rfl 22 true rfl rfl rfl (by kernel_rfl) (by kernel_rfl) (by kernel_rfl) (fun qK qa wr hB qO qF hK => ?_) ?_
    · obtain ⟨u32, e32, r23⟩ := qF.1
      have e32 : qa.tmps[32]? = some (.agg #[.slice A 3 c, .slice (some ⟨w1.heap.size + 1, 0, none⟩) 1 1, .int .i64 2]) := (show u32 = .agg #[.slice A 3 c, .slice (some ⟨w1.heap.size + 1, 0, none⟩) 1 1, .int .i64 2] from r23) ▸ e32
      clear r23
      clear qO qF
      go_simp
      go_at_call 9
      refine (HDO.out 25 1 0 _ (HW.out.trans (hB.mono HW.out.size))).mono ?_
      rintro e w2 ⟨rfl, hb2⟩
      rw [HV251.out]
      exact hK _ _ hb2 rfl
    refine BOk.yes rfl [24] [] rfl 22 true rfl rfl rfl (by kernel_rfl) (by kernel_rfl) (by kernel_rfl) (fun qK qa wr hB qO qF hK => ?_) ?_
    · obtain ⟨u33, e33, r24⟩ := qF.1
      have e33 : qa.tmps[33]? = some (.agg #[.int .i64 1, .int .u64 0]) := (show u33 = .agg #[.int .i64 1, .int .u64 0] from r24) ▸ e33
      clear r24
      clear qO qF
      go_simp
      exact hK _ _ (Below.refl _ _) rfl
    refine BOk.yes rfl [25] [] rfl 22 true rfl rfl rfl (by kernel_rfl) (by kernel_rfl) (by kernel_rfl) (fun qK qa wr hB qO qF hK => ?_) ?_
    · obtain ⟨u34, e34, r25⟩ := qF.1
      have e34 : qa.tmps[34]? = some (.int .i64 1) := (show u34 = .int .i64 1 from r25) ▸ e34
      clear r25
      clear qO qF
      go_simp
      refine hK _ _ (Below.refl _ _) ?_
      show (_ : Value) = _
      first | rfl | (simp; done) | (simp; omega)
    refine BOk.cons rfl [22, 26] [] rfl rfl (by kernel_rfl) (by kernel_rfl) (fun qK qa wr hB qO qF hK => ?_) ?_
    · obtain ⟨u31, e31, r22⟩ := qF.1
      have e31 : qa.tmps[31]? = some (.bool true) := (show u31 = .bool true from r22) ▸ e31
      clear r22
      obtain ⟨u35, e35, r26⟩ := qF.2.1
      have e35 : qa.tmps[35]? = some (.bool true) := (show u35 = .bool true from r26) ▸ e35
      clear r26
      clear qO qF
      go_simp
      refine hK _ _ (Below.refl _ _) ?_
      show (_ : Value) = _
      first | rfl | (simp; done) | (simp; omega)
    refine BOk.cons rfl [27] [] rfl rfl (by kernel_rfl) (by kernel_rfl) (fun qK qa wr hB qO qF hK => ?_) ?_
    · obtain ⟨u36, e36, r27⟩ := qF.1
      have e36 : qa.tmps[36]? = some (.bool true) := (show u36 = .bool true from r27) ▸ e36
      clear r27
      clear qO qF
      go_simp
      exact hK _ _ (Below.refl _ _) rfl
    exact BOk.nil
  intro vals wr hl hB hR
  match vals, hl with
  | [z9, z10, z11, z12, z13, z14, z15, z16, z17, z18, z19, z20, z21, z22, z23, z24, z25, z26, z27, z28, z29, z30, z31, z32, z33, z34, z35, z36, z0], _ =>
  have r28 : z0 = .bool true := hR 28 _ rfl
  subst r28
  clear hR
  simp only [List.cons_append, List.nil_append, putAll, Act.put, List.setIfInBounds_toArray, List.set_cons_zero, List.set_cons_succ]
  go_wp2_with fail
  go_ret
  exact ⟨rfl, hbW.trans (hB.mono hbW.size)⟩
end Go.Proofs.Ytomhheihhnmbcaa
