/- VmGoods holds of what is of bounded bulk. No conditions. -/
import Derived.Test.YtadblgfppnpamaaLawB
import Derived.Test.YtadblgfppnpamaaVmRd
import Derived.Test.YtadblgfppnpamaaVmAw
import Derived.Test.YtadblgfppnpamaaVmK
namespace Go.Proofs.Ytadblgfppnpamaa.vmGoods
open Go.ChangeShapes Go.WideShapes Go.ChangeAt Go.RowKit
open Go.ChangeMaps (open_string shut_string)
set_option linter.unusedSimpArgs false
set_option linter.unusedVariables false

def regGoods (nr ns : Int) (Ai : Option Addr) (ci : Nat) (li : List InputV) (Ak : Option Addr) (ck : Nat) (lk : List V) (Al : Option Addr) (cl : Nat) (ll : List InsV) (T : Bool) (W0 : World) : List Spec := [.is (.bool true),
  .is (.bool true),
  .is (.agg #[.int .i64 nr, .int .i64 ns, .slice Ai li.length ci, .slice Ak lk.length ck, .slice Al ll.length cl]),
  .is (.bool T),
  .is (.agg #[.int .i64 nr, .int .i64 ns, .slice Ai li.length ci, .slice Ak lk.length ck, .slice Al ll.length cl]),
  .is (.bool T),
  .is (.bool true),
  .is (.bool true),
  .is (.bool true)]

set_option maxRecDepth 100000 in
set_option maxHeartbeats 4000000 in
theorem walk (W0 : World) (x0 : CodeV) (hc0 : x0.li.length ≤ x0.ci ∧ x0.lk.length ≤ x0.ck ∧ x0.ll.length ≤ x0.cl) (hq0 : x0.ok W0 W0.heap.size) :
    Calls Try.prog 4 #[x0.val] W0 fun e W' => e = .returned (.bool true) ∧ Below W0.heap.size W0 W' := by
  have hv : x0.val = .agg #[.int .i64 x0.nr, .int .i64 x0.ns, .slice x0.Ai x0.li.length x0.ci, .slice x0.Ak x0.lk.length x0.ck, .slice x0.Al x0.ll.length x0.cl] := rfl
  obtain ⟨nr, ns, Ai, ci, li, Ak, ck, lk, Al, cl, ll⟩ := x0
  simp only at hv
  have kc := Bk.new W0 26 #[.int .i64 nr, .int .i64 ns, .slice Ai li.length ci, .slice Ak lk.length ck, .slice Al ll.length cl]
  have hb0 : Below W0.heap.size W0 (W0.alloc (.cells #[.int .i64 nr, .int .i64 ns, .slice Ai li.length ci, .slice Ak lk.length ck, .slice Al ll.length cl] 26)) := (Below.refl _ _).alloc (Nat.le_refl _) _
  have k0 := kc.cell 0
  have k1 := kc.cell 1
  have k2 := kc.cell 2
  have k3 := kc.cell 3
  have k4 := kc.cell 4
  rw [hv]
  clear hv
  by_cases hbig : 3000 < ll.length
  · have HB := Lib.hid hb0
    clear kc hb0 hq0
    go_enter Try.func4, Try.ntmps4
    go_wp2_with (go_at_call 7; refine (awake_any _).mono ?_; rintro e w1 ⟨rfl, hb1⟩)
    go_ret
    exact ⟨rfl, HB.out.trans (hb1.mono HB.out.size)⟩
  obtain ⟨T, hT⟩ : ∃ T, goodV ⟨nr, ns, Ai, ci, li, Ak, ck, lk, Al, cl, ll⟩ = T := ⟨_, rfl⟩
  have hg1 : ∀ w' : World, Below (W0.alloc (.cells #[.int .i64 nr, .int .i64 ns, .slice Ai li.length ci, .slice Ak lk.length ck, .slice Al ll.length cl] 26)).heap.size (W0.alloc (.cells #[.int .i64 nr, .int .i64 ns, .slice Ai li.length ci, .slice Ak lk.length ck, .slice Al ll.length cl] 26)) w' → Calls Try.prog 12 #[.agg #[.int .i64 nr, .int .i64 ns, .slice Ai li.length ci, .slice Ak lk.length ck, .slice Al ll.length cl]] w' fun e w2 => e = .returned (.bool T) ∧ Below w'.heap.size w' w2 := by
    intro w' hw
    have := good_any ⟨nr, ns, Ai, ci, li, Ak, ck, lk, Al, cl, ll⟩ w' ((hq0.old hb0).old hw) (by show ll.length ≤ 3000; omega)
    rw [hT] at this
    exact this
  have hg2 : ∀ w' : World, Below (W0.alloc (.cells #[.int .i64 nr, .int .i64 ns, .slice Ai li.length ci, .slice Ak lk.length ck, .slice Al ll.length cl] 26)).heap.size (W0.alloc (.cells #[.int .i64 nr, .int .i64 ns, .slice Ai li.length ci, .slice Ak lk.length ck, .slice Al ll.length cl] 26)) w' → Calls Try.prog 13 #[.agg #[.int .i64 nr, .int .i64 ns, .slice Ai li.length ci, .slice Ak lk.length ck, .slice Al ll.length cl]] w' fun e w2 => e = .returned (.bool T) ∧ Below w'.heap.size w' w2 := by
    intro w' hw
    have := rgood_any ⟨nr, ns, Ai, ci, li, Ak, ck, lk, Al, cl, ll⟩ w' ((hq0.old hb0).old hw) (by show ll.length ≤ 3000; omega)
    rw [hT] at this
    exact this
  have HG1 := Lib.hid hg1
  have HG2 := Lib.hid hg2
  have HB := Lib.hid hb0
  clear kc hb0 hq0 hg1 hg2 hT
  go_enter Try.func4, Try.ntmps4
  go_wp2_with fail
  refine wp_region_b (by kernel_rfl) (fun qk => (regGoods nr ns Ai ci li Ak ck lk Al cl ll T W0).getD qk .any) (by kernel_rfl) ?_ ?_
  · refine BOk.cons rfl [] [] rfl rfl (by kernel_rfl) (by kernel_rfl) (fun qK qa wr hB qO qF hK => ?_) ?_
    · clear qO qF
      go_simp
      go_at_call 7
      refine (awake_any _).mono ?_
      rintro e w2 ⟨rfl, hb2⟩
      exact hK _ _ hb2 rfl
    refine BOk.cons rfl [0] [] rfl rfl (by kernel_rfl) (by kernel_rfl) (fun qK qa wr hB qO qF hK => ?_) ?_
    · have e8 : qa.tmps[8]? = some (.bool true) := fis qF.1 rfl rfl
      clear qO qF
      go_simp
      exact hK _ _ (Below.refl _ _) (by first | rfl | (show (_ : Value) = _; simp_all; done))
    refine BOk.yes rfl [] [1] rfl 1 true rfl rfl rfl (by kernel_rfl) (by kernel_rfl) (by kernel_rfl) (fun qK qa wr hB qO qF hK => ?_) ?_
    · have e1 : qa.tmps[1]? = some (.pointer (some ⟨W0.heap.size, 0, none⟩)) := qO.1.trans rfl
      clear qO qF
      have hk0 := (bcell hB _ _ (World.block_lt_of_cell? _ _ k0)).trans k0
      have hk1 := (bcell hB _ _ (World.block_lt_of_cell? _ _ k1)).trans k1
      have hk2 := (bcell hB _ _ (World.block_lt_of_cell? _ _ k2)).trans k2
      have hk3 := (bcell hB _ _ (World.block_lt_of_cell? _ _ k3)).trans k3
      have hk4 := (bcell hB _ _ (World.block_lt_of_cell? _ _ k4)).trans k4
      go_simp
      exact hK _ _ (Below.refl _ _) rfl
    refine BOk.yes rfl [2] [] rfl 1 true rfl rfl rfl (by kernel_rfl) (by kernel_rfl) (by kernel_rfl) (fun qK qa wr hB qO qF hK => ?_) ?_
    · have e10 : qa.tmps[10]? = some (.agg #[.int .i64 nr, .int .i64 ns, .slice Ai li.length ci, .slice Ak lk.length ck, .slice Al ll.length cl]) := fis qF.1 rfl rfl
      clear qO qF
      go_simp
      go_at_call 12
      refine (HG1.out _ hB).mono ?_
      rintro e w2 ⟨rfl, hb2⟩
      exact hK _ _ hb2 rfl
    refine BOk.yes rfl [] [1] rfl 1 true rfl rfl rfl (by kernel_rfl) (by kernel_rfl) (by kernel_rfl) (fun qK qa wr hB qO qF hK => ?_) ?_
    · have e1 : qa.tmps[1]? = some (.pointer (some ⟨W0.heap.size, 0, none⟩)) := qO.1.trans rfl
      clear qO qF
      have hk0 := (bcell hB _ _ (World.block_lt_of_cell? _ _ k0)).trans k0
      have hk1 := (bcell hB _ _ (World.block_lt_of_cell? _ _ k1)).trans k1
      have hk2 := (bcell hB _ _ (World.block_lt_of_cell? _ _ k2)).trans k2
      have hk3 := (bcell hB _ _ (World.block_lt_of_cell? _ _ k3)).trans k3
      have hk4 := (bcell hB _ _ (World.block_lt_of_cell? _ _ k4)).trans k4
      go_simp
      exact hK _ _ (Below.refl _ _) rfl
    refine BOk.yes rfl [4] [] rfl 1 true rfl rfl rfl (by kernel_rfl) (by kernel_rfl) (by kernel_rfl) (fun qK qa wr hB qO qF hK => ?_) ?_
    · have e12 : qa.tmps[12]? = some (.agg #[.int .i64 nr, .int .i64 ns, .slice Ai li.length ci, .slice Ak lk.length ck, .slice Al ll.length cl]) := fis qF.1 rfl rfl
      clear qO qF
      go_simp
      go_at_call 13
      refine (HG2.out _ hB).mono ?_
      rintro e w2 ⟨rfl, hb2⟩
      exact hK _ _ hb2 rfl
    refine BOk.yes rfl [3, 5] [] rfl 1 true rfl rfl rfl (by kernel_rfl) (by kernel_rfl) (by kernel_rfl) (fun qK qa wr hB qO qF hK => ?_) ?_
    · have e11 : qa.tmps[11]? = some (.bool T) := fis qF.1 rfl rfl
      have e13 : qa.tmps[13]? = some (.bool T) := fis qF.2.1 rfl rfl
      clear qO qF
      go_simp
      refine hK _ _ (Below.refl _ _) ?_
      show (_ : Value) = _
      first | rfl | (simp; done) | (simp; omega)
    refine BOk.cons rfl [1, 6] [] rfl rfl (by kernel_rfl) (by kernel_rfl) (fun qK qa wr hB qO qF hK => ?_) ?_
    · have e9 : qa.tmps[9]? = some (.bool true) := fis qF.1 rfl rfl
      have e14 : qa.tmps[14]? = some (.bool true) := fis qF.2.1 rfl rfl
      clear qO qF
      go_simp
      refine hK _ _ (Below.refl _ _) ?_
      show (_ : Value) = _
      first | rfl | (simp; done) | (simp; omega)
    refine BOk.cons rfl [7] [] rfl rfl (by kernel_rfl) (by kernel_rfl) (fun qK qa wr hB qO qF hK => ?_) ?_
    · have e15 : qa.tmps[15]? = some (.bool true) := fis qF.1 rfl rfl
      clear qO qF
      go_simp
      exact hK _ _ (Below.refl _ _) (by first | rfl | (show (_ : Value) = _; simp_all; done))
    exact BOk.nil
  intro vals wr hl hB hR
  match vals, hl with
  | [z8, z9, z10, z11, z12, z13, z14, z15, z2], _ =>
  have r8 : z2 = .bool true := hR 8 _ rfl
  subst r8
  clear hR
  simp only [List.cons_append, List.nil_append, putAll, Act.put, List.setIfInBounds_toArray, List.set_cons_zero, List.set_cons_succ]
  go_wp2_with fail
  go_ret
  exact ⟨rfl, HB.out.trans (hB.mono HB.out.size)⟩

theorem own : ownKnob Try.prog.godebug = none := by kernel_rfl
theorem laidOut : laidOutB Try.prog = true := by kernel_rfl
theorem rec0 : (Try.f4.params.toList.all fun t => Try.prog.readableRec t && decide (t < Try.prog.types.size)) = true := by kernel_rfl
set_option maxRecDepth 100000 in
theorem lifted (os : Os) (started : os.Started) (H : Type) (enc : TypeId × Value → H) (F : Stop.Interp) :
    ReturnsInHanded {} Try.checked os 4 .any ((Rows.OpenSpec.upto Rows.vmGoodsSpec).pre6 enc Try.prog Try.f4 Rows.vmGoodsUptoRow.domain false) (((Rows.OpenSpec.upto Rows.vmGoodsSpec).at F).post enc Try.prog Try.f4 false true false false) := by
  refine law_stepB (C := Try.checked) (s := Rows.vmGoodsSpec) (tb := 4) own started (by kernel_rfl) Try.func4
    (OpenSpec.witness (enc := enc) (C := Try.checked) (s := Rows.OpenSpec.upto Rows.vmGoodsSpec) (k := Rows.uptoSmall) rfl false ⟨#[], #[.agg #[.int .i64 0, .int .i64 0, .slice none 0 0, .slice none 0 0, .slice none 0 0]], []⟩ 8 (by kernel_rfl) (by kernel_rfl) (by kernel_rfl)
      (x := ([.agg [.lit (.int .i64 0), .lit (.int .i64 0), .nil, .nil, .nil]], [], [])) (by kernel_rfl) rfl (by kernel_rfl)) laidOut ?_ rfl Try.underlying4 rfl ?_ ?_
  · intro t ht
    have := List.all_eq_true.1 rec0 t ht
    simp only [Bool.and_eq_true, decide_eq_true_eq] at this
    exact this
  · intro ds hd
    match ds, hd with
    | [d0], _ => exact ⟨rfl, rfl, rfl⟩
  intro W base args ds p hval hA hsz hbk
  rw [Try.params4] at hA hval hsz
  obtain ⟨v0, vs0, d0, ds0, p0, q0, hargs, rfl, rfl, h0, r0⟩ := trodAll_cons hA
  obtain ⟨rfl, rfl, rfl⟩ := trodAll_nil r0
  obtain rfl : args = #[v0] := by cases args; simp_all
  obtain ⟨x0, rfl, hc0, hq0⟩ := openB_code (hval 0 26 v0 rfl rfl) h0 (weights_each (i := 0) hsz rfl rfl) (Nat.le_trans (bulk_part (by simp)) hbk)
  exact walk W x0 hc0 hq0

theorem vmGoods_holds : Rows.VmGoodsUptoSaid :=
  OpenClaim.holds_of_cond 4 Try.f4 rfl rfl rfl rfl rfl rfl rfl ⟨rfl, rfl, rfl, rfl, rfl⟩ rfl rfl rfl rfl rfl (by kernel_rfl) Try.func4 (by kernel_rfl)
    (of_decide_eq_true (by kernel_rfl)) (by unfold Func.isWrapper; first | (rw [if_pos (by decide +kernel)]; kernel_rfl) | (rw [if_neg (by decide +kernel)]; exact ⟨rfl, rfl⟩))
    (fun os started H enc _ F => lifted os started H enc F)
#print axioms vmGoods_holds
end Go.Proofs.Ytadblgfppnpamaa.vmGoods
