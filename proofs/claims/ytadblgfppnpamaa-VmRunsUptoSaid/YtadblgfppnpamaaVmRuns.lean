/- VmRuns holds of what is of bounded bulk. No conditions. -/
import Derived.Test.YtadblgfppnpamaaLawB
import Derived.Test.YtadblgfppnpamaaVmRd
import Derived.Test.YtadblgfppnpamaaVmAw
import Derived.Test.YtadblgfppnpamaaVmF
import Derived.Test.YtadblgfppnpamaaVmTw
import Derived.Test.YtadblgfppnpamaaVmSm
namespace Go.Proofs.Ytadblgfppnpamaa.vmRuns
open Go.ChangeShapes Go.WideShapes Go.ChangeAt Go.RowKit
open Go.ChangeMaps (open_string shut_string)
set_option linter.unusedSimpArgs false
set_option linter.unusedVariables false

def regRuns (nr ns : Int) (Ai : Option Addr) (ci : Nat) (li : List InputV) (Ak : Option Addr) (ck : Nat) (lk : List V) (Al : Option Addr) (cl : Nat) (ll : List InsV) (Bi : Option Addr) (di : Nat) (Bk_ : Option Addr) (dk : Nat) (Bl : Option Addr) (dl : Nat) (A1 : Option Addr) (c1 : Nat) (l1 : List V) (Y : V) (W0 w2 w3 : World) : List Spec := [.is (.bool true),
  .is (.bool true),
  .is (.agg #[.int .i64 Y.k, .int .u64 Y.b]),
  .is (.agg #[.int .i64 nr, .int .i64 ns, .slice Ai li.length ci, .slice Ak lk.length ck, .slice Al ll.length cl]),
  .is (.slice A1 l1.length c1),
  .is (.agg #[.int .i64 Y.k, .int .u64 Y.b]),
  .is (.bool true),
  .is (.bool true),
  .is (.bool true),
  .is (.agg #[.int .i64 nr, .int .i64 ns, .slice Bi li.length di, .slice Bk_ lk.length dk, .slice Bl ll.length dl]),
  .is (.agg #[.int .i64 nr, .int .i64 ns, .slice Ai li.length ci, .slice Ak lk.length ck, .slice Al ll.length cl]),
  .is (.bool true),
  .is (.bool true),
  .is (.bool true)]

theorem eql_RV (a b : Int) (w : World) : (binOp .eql 33 (.agg #[.int .i64 a, .int .u64 b]) (.agg #[.int .i64 a, .int .u64 b])).run Try.prog w = .ok (.bool true) w := by
  have h1 : Try.prog.stoodInHeld 33 = false := by kernel_rfl
  simp [go_sem, h1]
set_option maxRecDepth 100000 in
set_option maxHeartbeats 4000000 in
theorem walk (W0 : World) (x0 : CodeV) (hc0 : x0.li.length ≤ x0.ci ∧ x0.lk.length ≤ x0.ck ∧ x0.ll.length ≤ x0.cl) (hq0 : x0.ok W0 W0.heap.size)
    (A1 : Option Addr) (c1 : Nat) (l1 : List V) (hc1 : l1.length ≤ c1) (hl1 : l1.length ≤ 1048576) (hr1 : Rd W0 W0.heap.size A1 (l1.flatMap V.cells)) (hq1 : ∀ x ∈ l1, x.fits) :
    Calls Try.prog 3 #[x0.val, .slice A1 l1.length c1] W0 fun e W' => e = .returned (.bool true) ∧ Below W0.heap.size W0 W' := by
  have hv : x0.val = .agg #[.int .i64 x0.nr, .int .i64 x0.ns, .slice x0.Ai x0.li.length x0.ci, .slice x0.Ak x0.lk.length x0.ck, .slice x0.Al x0.ll.length x0.cl] := rfl
  obtain ⟨nr, ns, Ai, ci, li, Ak, ck, lk, Al, cl, ll⟩ := x0
  simp only at hv
  have kc := Bk.new W0 26 #[.int .i64 nr, .int .i64 ns, .slice Ai li.length ci, .slice Ak lk.length ck, .slice Al ll.length cl]
  have hb0 : Below W0.heap.size W0 (W0.alloc (.cells #[.int .i64 nr, .int .i64 ns, .slice Ai li.length ci, .slice Ak lk.length ck, .slice Al ll.length cl] 26)) := (Below.refl _ _).alloc (Nat.le_refl _) _
  have k0 := kc.cell 0
  have k1 := kc.cell 1
  have k2 := kc.cell 2
  have k3 := kc.cell 3
  have k4 := kc.cell 4
  rw [hv]
  clear hv
  by_cases hbig : 3000 < ll.length
  · have HB := Lib.hid hb0
    clear kc hb0 hq0 hr1
    go_enter Try.func3, Try.ntmps3
    go_wp2_with (go_at_call 7; refine (awake_any _).mono ?_; rintro e w1 ⟨rfl, hb1⟩)
    go_ret
    exact ⟨rfl, HB.out.trans (hb1.mono HB.out.size)⟩
  obtain ⟨iV, hV, hV0, hV1, hV2⟩ := info_parts infoVa
  have hq := hq0.old hb0
  have KC := Lib.hid kc
  have HB := Lib.hid hb0
  have HQ := Lib.hid hq0
  have HQ1 := Lib.hid hq
  have htw := twin_any ⟨nr, ns, Ai, ci, li, Ak, ck, lk, Al, cl, ll⟩ _ HQ1.out
  have HTW := Lib.hid htw
  clear kc hb0 hq0 hq htw
  go_enter Try.func3, Try.ntmps3
  go_wp2_with fail
  refine HTW.out.mono ?_
  rintro e w1 ⟨⟨nr2, ns2, Bi, di, li2, Bk_, dk, lk2, Bl, dl, ll2⟩, rfl, ⟨e1, e2, e3, e4, e5, o1, o2, o3⟩, hb1⟩
  simp only at e1 e2 e3 e4 e5
  subst nr2; subst ns2; subst li2; subst lk2; subst ll2
  have HB1 := Lib.hid (HB.out.trans (hb1.mono HB.out.size))
  have KC1 := Lib.hid (KC.out.old hb1)
  have HO1 := Lib.hid o1
  have HO2 := Lib.hid o2
  have HO3 := Lib.hid o3
  clear o1 o2 o3 hb1 HTW HQ1 HB KC k0 k1 k2 k3 k4
  unfold CodeV.val
  go_wp2_with (at_builtin; refine wpList_append_rd rfl _ _ 23 rfl W0.heap.size 31 iV _ 2 16 Try.underlying23 hV hV0 hV1 hV2 rfl (by decide) (.slice none 0 0) 0 [] rfl (World.ownsRow_nil _ _ _ _) W0.heap.size A1 l1.length c1 (l1.flatMap V.cells) rfl (hr1.below HB1.out) (flat_len (n := 2) V.cells (fun _ => rfl) l1) one_va (by unfold maxLen; omega) (by omega) HB1.out.size ?_; intro A2 c2 w2 ho hg _; refine Hid.out ?_)
  refine Lib.hid ?_
  have hb12 : Below w1.heap.size w1 w2 := ⟨hg.os, hg.tape, hg.output, hg.size, fun k hk => hg.block k hk (by simp [Value.ownBlock])⟩
  simp only [Nat.zero_add, List.nil_append] at ho ⊢
  have hrd2 := own_rd ho
  have hok : (⟨nr, ns, Bi, di, li, Bk_, dk, lk, Bl, dl, ll⟩ : CodeV).ok w2 w2.heap.size := ⟨own_rd (own_old HO1.out hb12), own_rd (own_old HO2.out hb12), own_rd (own_old HO3.out hb12), HQ.out.ni, HQ.out.nk, HQ.out.nl, HQ.out.fi, HQ.out.fk, HQ.out.fl, HQ.out.fr, HQ.out.fs⟩
  have HB2 := Lib.hid (HB1.out.trans (hb12.mono HB1.out.size))
  have KC2 := Lib.hid (KC1.out.old hb12)
  have bt : Below w2.heap.size w2 (w2.alloc (.cells #[.int .i64 nr, .int .i64 ns, .slice Bi li.length di, .slice Bk_ lk.length dk, .slice Bl ll.length dl] 26)) := (Below.refl _ _).alloc (Nat.le_refl _) _
  have kt := Bk.new w2 26 #[.int .i64 nr, .int .i64 ns, .slice Bi li.length di, .slice Bk_ lk.length dk, .slice Bl ll.length dl]
  have t0 := kt.cell 0
  have t1 := kt.cell 1
  have t2 := kt.cell 2
  have t3 := kt.cell 3
  have t4 := kt.cell 4
  have HOK := Lib.hid (hok.old bt)
  have HR2 := Lib.hid ((hrd2.below bt).more bt.size)
  have HB3 := Lib.hid (HB2.out.trans (bt.mono HB2.out.size))
  have KC3 := Lib.hid (KC2.out.old bt)
  have KT := Lib.hid kt
  have hrun := run_any ⟨nr, ns, Bi, di, li, Bk_, dk, lk, Bl, dl, ll⟩ A2 c2 l1 _ HOK.out HR2.out hq1 hl1
  have hrv : runV ⟨nr, ns, Bi, di, li, Bk_, dk, lk, Bl, dl, ll⟩ l1 = runV ⟨nr, ns, Ai, ci, li, Ak, ck, lk, Al, cl, ll⟩ l1 := rfl
  rw [hrv] at hrun
  obtain ⟨Y, hY⟩ : ∃ Y, runV ⟨nr, ns, Ai, ci, li, Ak, ck, lk, Al, cl, ll⟩ l1 = Y := ⟨_, rfl⟩
  rw [hY] at hrun
  have HRUN := Lib.hid hrun
  clear hb12 ho hg hrd2 hok HB1 KC1 HO1 HO2 HO3 HB2 KC2 bt kt hrun hrv
  go_wp2_with fail
  refine HRUN.out.mono ?_
  rintro e w3 ⟨rfl, hb3⟩
  unfold V.v
  have by_ : Below w3.heap.size w3 (w3.alloc (.cells #[.int .i64 Y.k, .int .u64 Y.b] 31)) := (Below.refl _ _).alloc (Nat.le_refl _) _
  have hb4 := hb3.trans (by_.mono hb3.size)
  have ky := Bk.new w3 31 #[.int .i64 Y.k, .int .u64 Y.b]
  have HR2 := Lib.hid ((HR2.out.below hb4).more hb4.size)
  have HB4 := Lib.hid (HB3.out.trans (hb4.mono HB3.out.size))
  have KC := Lib.hid (KC3.out.old hb4)
  have KT := Lib.hid (KT.out.old hb4)
  have KY := Lib.hid ky
  have HOK := Lib.hid (HOK.out.old hb4)
  clear hb3 by_ hb4 ky HRUN KC3 HB3 t0 t1 t2 t3 t4
  go_wp2_with fail
  go_loopw [23] (fun i wr => ∃ k : Nat, k ≤ l1.length ∧ i = .int .i64 k ∧ Below (w3.alloc (.cells #[.int .i64 Y.k, .int .u64 Y.b] 31)).heap.size (w3.alloc (.cells #[.int .i64 Y.k, .int .u64 Y.b] 31)) wr) (fun i _ => l1.length - (intOf i).toNat)
  case atStart => exact ⟨0, Nat.zero_le _, rfl, Below.refl _ _⟩
  case round =>
    obtain ⟨k, hk, rfl, hbe⟩ := hrel
    rename World => wl
    by_cases hlt : k < l1.length
    · as_aux_lemma =>
      obtain ⟨b1, o1, rfl, hb1, hx1⟩ := (HR2.out.below hbe).elem (f := V.cells) (n := 2) (fun _ => rfl) (by omega) hlt
      obtain ⟨b2, o2, rfl, hb2, hx2⟩ := (hr1.below (HB4.out.trans (hbe.mono HB4.out.size))).elem (f := V.cells) (n := 2) (fun _ => rfl) (by omega) hlt
      generalize l1[k] = x at *
      have p0 : wl.cell? ⟨b1, o1 + k * 2, none⟩ = some (.int .i64 x.k) := hx1 0 _ rfl
      have p1 : wl.cell? ⟨b1, o1 + k * 2 + 1, none⟩ = some (.int .u64 x.b) := hx1 1 _ rfl
      have q0 : wl.cell? ⟨b2, o2 + k * 2, none⟩ = some (.int .i64 x.k) := hx2 0 _ rfl
      have q1 : wl.cell? ⟨b2, o2 + k * 2 + 1, none⟩ = some (.int .u64 x.b) := hx2 1 _ rfl
      have hneq := neq_va x.k x.b
      have HX := Lib.hid hbe
      clear hx1 hx2 hbe
      go_wp2_with fail
      go_region
      go_wp2_with fail
      go_roundw
      case rel => exact ⟨k + 1, by omega, by go_num, Below.drew HX.out⟩
      case measure => simp [intOf]; omega
    · obtain rfl : k = l1.length := by omega
      have HB5 := Lib.hid (HB4.out.trans (hbe.mono HB4.out.size))
      have kc := KC.out.old hbe
      have kt := KT.out.old hbe
      have ky := KY.out.old hbe
      have hok := HOK.out.old hbe
      have hqq := HQ.out.old HB5.out
      have hrr : ∀ w' : World, Below wl.heap.size wl w' → Calls Try.prog 10 #[.agg #[.int .i64 nr, .int .i64 ns, .slice Ai li.length ci, .slice Ak lk.length ck, .slice Al ll.length cl], .slice A1 l1.length c1] w' fun e w2 => e = .returned (.agg #[.int .i64 Y.k, .int .u64 Y.b]) ∧ Below w'.heap.size w' w2 := by
        intro w' hw
        have hw2 := HB5.out.trans (hw.mono HB5.out.size)
        have := rrun_any ⟨nr, ns, Ai, ci, li, Ak, ck, lk, Al, cl, ll⟩ A1 c1 l1 w' (hqq.old hw) ((hr1.below hw2).more hw2.size) hq1 hl1 (by show ll.length ≤ 3000; omega)
        rw [← runV_runR, hY] at this
        exact this
      have hsm : ∀ w' : World, Below wl.heap.size wl w' → Calls Try.prog 11 #[.agg #[.int .i64 nr, .int .i64 ns, .slice Bi li.length di, .slice Bk_ lk.length dk, .slice Bl ll.length dl], .agg #[.int .i64 nr, .int .i64 ns, .slice Ai li.length ci, .slice Ak lk.length ck, .slice Al ll.length cl]] w' fun e w2 => e = .returned (.bool true) ∧ Below w'.heap.size w' w2 := by
        intro w' hw
        exact same_any ⟨nr, ns, Bi, di, li, Bk_, dk, lk, Bl, dl, ll⟩ ⟨nr, ns, Ai, ci, li, Ak, ck, lk, Al, cl, ll⟩ w' (hok.old hw) (hqq.old hw) rfl rfl rfl rfl rfl
      have heq := eql_RV Y.k Y.b
      have HRR := Lib.hid hrr
      have HSM := Lib.hid hsm
      have k0 := kc.cell 0
      have k1 := kc.cell 1
      have k2 := kc.cell 2
      have k3 := kc.cell 3
      have k4 := kc.cell 4
      have t0 := kt.cell 0
      have t1 := kt.cell 1
      have t2 := kt.cell 2
      have t3 := kt.cell 3
      have t4 := kt.cell 4
      have y0 := ky.cell 0
      have y1 := ky.cell 1
      clear kc kt ky hok hqq hrr hsm hbe HR2 HOK KC KT KY HB4 hr1 hY
      go_wp2_with fail
      refine wp_region_b (by kernel_rfl) (fun qk => (regRuns nr ns Ai ci li Ak ck lk Al cl ll Bi di Bk_ dk Bl dl A1 c1 l1 Y W0 w2 w3).getD qk .any) (by kernel_rfl) ?_ ?_
      · refine BOk.cons rfl [] [] rfl rfl (by kernel_rfl) (by kernel_rfl) (fun qK qa wr hB qO qF hK => ?_) ?_
        · clear qO qF
          go_simp
          go_at_call 7
          refine (awake_any _).mono ?_
          rintro e w2 ⟨rfl, hb2⟩
          exact hK _ _ hb2 rfl
        refine BOk.cons rfl [0] [] rfl rfl (by kernel_rfl) (by kernel_rfl) (fun qK qa wr hB qO qF hK => ?_) ?_
        · have e36 : qa.tmps[36]? = some (.bool true) := fis qF.1 rfl rfl
          clear qO qF
          go_simp
          exact hK _ _ (Below.refl _ _) (by first | rfl | (show (_ : Value) = _; simp_all; done))
        refine BOk.yes rfl [] [7] rfl 1 true rfl rfl rfl (by kernel_rfl) (by kernel_rfl) (by kernel_rfl) (fun qK qa wr hB qO qF hK => ?_) ?_
        · have e7 : qa.tmps[7]? = some (.pointer (some ⟨w3.heap.size, 0, none⟩)) := qO.1.trans rfl
          clear qO qF
          have hy0 := (bcell hB _ _ (World.block_lt_of_cell? _ _ y0)).trans y0
          have hy1 := (bcell hB _ _ (World.block_lt_of_cell? _ _ y1)).trans y1
          go_simp
          exact hK _ _ (Below.refl _ _) rfl
        refine BOk.yes rfl [] [2] rfl 1 true rfl rfl rfl (by kernel_rfl) (by kernel_rfl) (by kernel_rfl) (fun qK qa wr hB qO qF hK => ?_) ?_
        · have e2 : qa.tmps[2]? = some (.pointer (some ⟨W0.heap.size, 0, none⟩)) := qO.1.trans rfl
          clear qO qF
          have hk0 := (bcell hB _ _ (World.block_lt_of_cell? _ _ k0)).trans k0
          have hk1 := (bcell hB _ _ (World.block_lt_of_cell? _ _ k1)).trans k1
          have hk2 := (bcell hB _ _ (World.block_lt_of_cell? _ _ k2)).trans k2
          have hk3 := (bcell hB _ _ (World.block_lt_of_cell? _ _ k3)).trans k3
          have hk4 := (bcell hB _ _ (World.block_lt_of_cell? _ _ k4)).trans k4
          go_simp
          exact hK _ _ (Below.refl _ _) rfl
        refine BOk.yes rfl [] [1] rfl 1 true rfl rfl rfl (by kernel_rfl) (by kernel_rfl) (by kernel_rfl) (fun qK qa wr hB qO qF hK => ?_) ?_
        · have e1 : qa.tmps[1]? = some (.slice A1 l1.length c1) := qO.1.trans rfl
          clear qO qF
          go_simp
          exact hK _ _ (Below.refl _ _) rfl
        refine BOk.yes rfl [3, 4] [] rfl 1 true rfl rfl rfl (by kernel_rfl) (by kernel_rfl) (by kernel_rfl) (fun qK qa wr hB qO qF hK => ?_) ?_
        · have e39 : qa.tmps[39]? = some (.agg #[.int .i64 nr, .int .i64 ns, .slice Ai li.length ci, .slice Ak lk.length ck, .slice Al ll.length cl]) := fis qF.1 rfl rfl
          have e40 : qa.tmps[40]? = some (.slice A1 l1.length c1) := fis qF.2.1 rfl rfl
          clear qO qF
          go_simp
          go_at_call 10
          refine (HRR.out _ hB).mono ?_
          rintro e w2 ⟨rfl, hb2⟩
          exact hK _ _ hb2 rfl
        refine BOk.yes rfl [2, 5] [] rfl 1 true rfl rfl rfl (by kernel_rfl) (by kernel_rfl) (by kernel_rfl) (fun qK qa wr hB qO qF hK => ?_) ?_
        · have e38 : qa.tmps[38]? = some (.agg #[.int .i64 Y.k, .int .u64 Y.b]) := fis qF.1 rfl rfl
          have e41 : qa.tmps[41]? = some (.agg #[.int .i64 Y.k, .int .u64 Y.b]) := fis qF.2.1 rfl rfl
          clear qO qF
          go_simp
          refine hK _ _ (Below.refl _ _) ?_
          show (_ : Value) = _
          first | rfl | (simp; done) | (simp; omega)
        refine BOk.cons rfl [1, 6] [] rfl rfl (by kernel_rfl) (by kernel_rfl) (fun qK qa wr hB qO qF hK => ?_) ?_
        · have e37 : qa.tmps[37]? = some (.bool true) := fis qF.1 rfl rfl
          have e42 : qa.tmps[42]? = some (.bool true) := fis qF.2.1 rfl rfl
          clear qO qF
          go_simp
          refine hK _ _ (Below.refl _ _) ?_
          show (_ : Value) = _
          first | rfl | (simp; done) | (simp; omega)
        refine BOk.cons rfl [7] [] rfl rfl (by kernel_rfl) (by kernel_rfl) (fun qK qa wr hB qO qF hK => ?_) ?_
        · have e43 : qa.tmps[43]? = some (.bool true) := fis qF.1 rfl rfl
          clear qO qF
          go_simp
          exact hK _ _ (Below.refl _ _) (by first | rfl | (show (_ : Value) = _; simp_all; done))
        refine BOk.yes rfl [] [5] rfl 8 true rfl rfl rfl (by kernel_rfl) (by kernel_rfl) (by kernel_rfl) (fun qK qa wr hB qO qF hK => ?_) ?_
        · have e5 : qa.tmps[5]? = some (.pointer (some ⟨w2.heap.size, 0, none⟩)) := qO.1.trans rfl
          clear qO qF
          have ht0 := (bcell hB _ _ (World.block_lt_of_cell? _ _ t0)).trans t0
          have ht1 := (bcell hB _ _ (World.block_lt_of_cell? _ _ t1)).trans t1
          have ht2 := (bcell hB _ _ (World.block_lt_of_cell? _ _ t2)).trans t2
          have ht3 := (bcell hB _ _ (World.block_lt_of_cell? _ _ t3)).trans t3
          have ht4 := (bcell hB _ _ (World.block_lt_of_cell? _ _ t4)).trans t4
          go_simp
          exact hK _ _ (Below.refl _ _) rfl
        refine BOk.yes rfl [] [2] rfl 8 true rfl rfl rfl (by kernel_rfl) (by kernel_rfl) (by kernel_rfl) (fun qK qa wr hB qO qF hK => ?_) ?_
        · have e2 : qa.tmps[2]? = some (.pointer (some ⟨W0.heap.size, 0, none⟩)) := qO.1.trans rfl
          clear qO qF
          have hk0 := (bcell hB _ _ (World.block_lt_of_cell? _ _ k0)).trans k0
          have hk1 := (bcell hB _ _ (World.block_lt_of_cell? _ _ k1)).trans k1
          have hk2 := (bcell hB _ _ (World.block_lt_of_cell? _ _ k2)).trans k2
          have hk3 := (bcell hB _ _ (World.block_lt_of_cell? _ _ k3)).trans k3
          have hk4 := (bcell hB _ _ (World.block_lt_of_cell? _ _ k4)).trans k4
          go_simp
          exact hK _ _ (Below.refl _ _) rfl
        refine BOk.yes rfl [9, 10] [] rfl 8 true rfl rfl rfl (by kernel_rfl) (by kernel_rfl) (by kernel_rfl) (fun qK qa wr hB qO qF hK => ?_) ?_
        · have e45 : qa.tmps[45]? = some (.agg #[.int .i64 nr, .int .i64 ns, .slice Bi li.length di, .slice Bk_ lk.length dk, .slice Bl ll.length dl]) := fis qF.1 rfl rfl
          have e46 : qa.tmps[46]? = some (.agg #[.int .i64 nr, .int .i64 ns, .slice Ai li.length ci, .slice Ak lk.length ck, .slice Al ll.length cl]) := fis qF.2.1 rfl rfl
          clear qO qF
          go_simp
          go_at_call 11
          refine (HSM.out _ hB).mono ?_
          rintro e w2 ⟨rfl, hb2⟩
          exact hK _ _ hb2 rfl
        refine BOk.cons rfl [8, 11] [] rfl rfl (by kernel_rfl) (by kernel_rfl) (fun qK qa wr hB qO qF hK => ?_) ?_
        · have e44 : qa.tmps[44]? = some (.bool true) := fis qF.1 rfl rfl
          have e47 : qa.tmps[47]? = some (.bool true) := fis qF.2.1 rfl rfl
          clear qO qF
          go_simp
          refine hK _ _ (Below.refl _ _) ?_
          show (_ : Value) = _
          first | rfl | (simp; done) | (simp; omega)
        refine BOk.cons rfl [12] [] rfl rfl (by kernel_rfl) (by kernel_rfl) (fun qK qa wr hB qO qF hK => ?_) ?_
        · have e48 : qa.tmps[48]? = some (.bool true) := fis qF.1 rfl rfl
          clear qO qF
          go_simp
          exact hK _ _ (Below.refl _ _) (by first | rfl | (show (_ : Value) = _; simp_all; done))
        exact BOk.nil
      intro vals wr hl hB hR
      match vals, hl with
      | [z36, z37, z38, z39, z40, z41, z42, z43, z44, z45, z46, z47, z48, z4], _ =>
      have r13 : z4 = .bool true := hR 13 _ rfl
      subst r13
      clear hR
      simp only [List.cons_append, List.nil_append, putAll, Act.put, List.setIfInBounds_toArray, List.set_cons_zero, List.set_cons_succ]
      go_wp2_with fail
      go_ret
      exact ⟨rfl, HB5.out.trans (hB.mono HB5.out.size)⟩

theorem own : ownKnob Try.prog.godebug = none := by kernel_rfl
theorem laidOut : laidOutB Try.prog = true := by kernel_rfl
theorem rec0 : (Try.f3.params.toList.all fun t => Try.prog.readableRec t && decide (t < Try.prog.types.size)) = true := by kernel_rfl
set_option maxRecDepth 100000 in
theorem lifted (os : Os) (started : os.Started) (H : Type) (enc : TypeId × Value → H) (F : Stop.Interp) :
    ReturnsInHanded {} Try.checked os 3 .any ((Rows.OpenSpec.upto Rows.vmRunsSpec).pre6 enc Try.prog Try.f3 Rows.vmRunsUptoRow.domain false) (((Rows.OpenSpec.upto Rows.vmRunsSpec).at F).post enc Try.prog Try.f3 false true false false) := by
  refine law_stepB (C := Try.checked) (s := Rows.vmRunsSpec) (tb := 4) own started (by kernel_rfl) Try.func3
    (OpenSpec.witness (enc := enc) (C := Try.checked) (s := Rows.OpenSpec.upto Rows.vmRunsSpec) (k := Rows.uptoSmall) rfl false ⟨#[], #[.agg #[.int .i64 0, .int .i64 0, .slice none 0 0, .slice none 0 0, .slice none 0 0], .slice none 0 0], []⟩ 8 (by kernel_rfl) (by kernel_rfl) (by kernel_rfl)
      (x := ([.agg [.lit (.int .i64 0), .lit (.int .i64 0), .nil, .nil, .nil], .nil], [], [])) (by kernel_rfl) rfl (by kernel_rfl)) laidOut ?_ rfl Try.underlying4 rfl ?_ ?_
  · intro t ht
    have := List.all_eq_true.1 rec0 t ht
    simp only [Bool.and_eq_true, decide_eq_true_eq] at this
    exact this
  · intro ds hd
    match ds, hd with
    | [d0, d1], _ => exact ⟨rfl, rfl, rfl⟩
  intro W base args ds p hval hA hsz hbk
  rw [Try.params3] at hA hval hsz
  obtain ⟨v0, vs0, d0, ds0, p0, q0, hargs, rfl, rfl, h0, r0⟩ := trodAll_cons hA
  obtain ⟨v1, vs1, d1, ds1, p1, q1, rfl, rfl, rfl, h1, r1⟩ := trodAll_cons r0
  obtain ⟨rfl, rfl, rfl⟩ := trodAll_nil r1
  obtain rfl : args = #[v0, v1] := by cases args; simp_all
  obtain ⟨x0, rfl, hc0, hq0⟩ := openB_code (hval 0 26 v0 rfl rfl) h0 (weights_each (i := 0) hsz rfl rfl) (Nat.le_trans (bulk_part (by simp)) hbk)
  obtain ⟨A1, c1, l1, rfl, hc1, hl1, hr1, hq1⟩ := openB_vals (hval 1 23 v1 rfl rfl) h1 (weights_each (i := 1) hsz rfl rfl) (Nat.le_trans (bulk_part (by simp)) hbk)
  exact walk W x0 hc0 hq0 A1 c1 l1 hc1 hl1 hr1 hq1

theorem vmRuns_holds : Rows.VmRunsUptoSaid :=
  OpenClaim.holds_of_cond 3 Try.f3 rfl rfl rfl rfl rfl rfl rfl ⟨rfl, rfl, rfl, rfl, rfl⟩ rfl rfl rfl rfl rfl (by kernel_rfl) Try.func3 (by kernel_rfl)
    (of_decide_eq_true (by kernel_rfl)) (by unfold Func.isWrapper; first | (rw [if_pos (by decide +kernel)]; kernel_rfl) | (rw [if_neg (by decide +kernel)]; exact ⟨rfl, rfl⟩))
    (fun os started H enc _ F => lifted os started H enc F)
#print axioms vmRuns_holds
end Go.Proofs.Ytadblgfppnpamaa.vmRuns
