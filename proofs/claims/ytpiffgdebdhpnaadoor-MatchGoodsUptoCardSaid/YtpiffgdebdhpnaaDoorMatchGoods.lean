/- MatchGoods holds of what is of bounded bulk. No conditions. -/
import Derived.Test.YtpiffgdebdhpnaaDoorMatU
import Derived.Test.YtpiffgdebdhpnaaDoorMatG
namespace Go.Proofs.YtpiffgdebdhpnaaDoor.matchGoods
open Go.ChangeShapes Go.WideShapes Go.ChangeAt Go.RowKit
open Go.ChangeMaps (open_string shut_string)
set_option linter.unusedSimpArgs false
set_option linter.unusedVariables false

def goodsR1 (m : MatV) (n : Int) (w : World) : List Spec := [.is (.bool true),
  .is (.bool true),
  .is (.agg #[.int .i64 m.step, .int .i64 m.branch, .slice m.A m.rows.length m.c]),
  .is (.int .i64 n),
  .is (.bool (goodB m.step m.branch n m.L)),
  .is (.agg #[.int .i64 m.step, .int .i64 m.branch, .slice m.A m.rows.length m.c]),
  .is (.int .i64 n),
  .is (.bool (goodB m.step m.branch n m.L)),
  .is (.bool true),
  .is (.bool true),
  .is (.bool true)]
set_option maxRecDepth 100000 in
set_option maxHeartbeats 4000000 in
theorem walk (w : World) (he : Env w) (m : MatV) (hm : m.okB w w.heap.size) (n : Int) :
    Calls Tryd.prog 3 #[m.val, .int .i64 n] w fun e w' => e = .returned (.bool true) ∧ Below w.heap.size w w' := by
  have HE := Lib.hid he
  unfold MatV.val
  go_enter Tryd.func3, Tryd.ntmps3
  go_upto_region 1 with fail
  have x0 := (Bk.newAt (w := w) (g := w.heap.size) (by simp) 24 #[.int .i64 m.step, .int .i64 m.branch, .slice m.A m.rows.length m.c])
  have hbW : Below w.heap.size w (w.alloc (.cells #[.int .i64 m.step, .int .i64 m.branch, .slice m.A m.rows.length m.c] 24)) := ((Below.refl _ _).alloc (by simp) _)
  generalize (w.alloc (.cells #[.int .i64 m.step, .int .i64 m.branch, .slice m.A m.rows.length m.c] 24)) = W at *
  have Hm : Hid (m.okB W W.heap.size) := Lib.hid ⟨hm.ok.old hbW, hm.tot⟩
  have HE2 := Lib.hid (HE.out.old hbW)
  clear hm he
  have s00 := x0.cell 0
  have s01 := x0.cell 1
  have s02 := x0.cell 2
  refine wp_region_b (by kernel_rfl) (fun qk => (goodsR1 m n w).getD qk .any) (by kernel_rfl) ?_ ?_
  · refine BOk.cons rfl [] [] rfl rfl (by kernel_rfl) (by kernel_rfl) (fun qK qa wr hB qO qF hK => ?_) ?_
    · clear qO qF
      go_simp
      go_at_call 10
      refine (awake_any _ (HE2.out.old hB)).mono ?_
      rintro e9 w9 ⟨rfl, hb9⟩
      exact hK _ _ hb9 rfl
    refine BOk.cons rfl [0] [] rfl rfl (by kernel_rfl) (by kernel_rfl) (fun qK qa wr hB qO qF hK => ?_) ?_
    · have e5 : qa.tmps[5]? = some (.bool true) := fis qF.1 rfl rfl
      clear qO qF
      go_simp
      exact hK _ _ (Below.refl _ _) (by first | rfl | (show (_ : Value) = _; simp_all; done))
    refine BOk.yes rfl [] [2] rfl 1 true rfl rfl rfl (by kernel_rfl) (by kernel_rfl) (by kernel_rfl) (fun qK qa wr hB qO qF hK => ?_) ?_
    · have e2 : qa.tmps[2]? = some (.pointer (some ⟨w.heap.size, 0, none⟩)) := qO.1.trans rfl
      clear qO qF
      have hs00 := (bcell hB _ _ (World.block_lt_of_cell? _ _ s00)).trans s00
      have hs01 := (bcell hB _ _ (World.block_lt_of_cell? _ _ s01)).trans s01
      have hs02 := (bcell hB _ _ (World.block_lt_of_cell? _ _ s02)).trans s02
      go_simp
      exact hK _ _ (Below.refl _ _) rfl
    refine BOk.yes rfl [] [1] rfl 1 true rfl rfl rfl (by kernel_rfl) (by kernel_rfl) (by kernel_rfl) (fun qK qa wr hB qO qF hK => ?_) ?_
    · have e1 : qa.tmps[1]? = some (.int .i64 n) := qO.1.trans rfl
      clear qO qF
      go_simp
      exact hK _ _ (Below.refl _ _) rfl
    refine BOk.yes rfl [2, 3] [] rfl 1 true rfl rfl rfl (by kernel_rfl) (by kernel_rfl) (by kernel_rfl) (fun qK qa wr hB qO qF hK => ?_) ?_
    · have e7 : qa.tmps[7]? = some (.agg #[.int .i64 m.step, .int .i64 m.branch, .slice m.A m.rows.length m.c]) := fis qF.1 rfl rfl
      have e8 : qa.tmps[8]? = some (.int .i64 n) := fis qF.2.1 rfl rfl
      clear qO qF
      go_simp
      go_at_call 11
      refine (good_any m n _ (Hm.out.ok.old hB)).mono ?_
      rintro e9 w9 ⟨rfl, hb9⟩
      exact hK _ _ hb9 rfl
    refine BOk.yes rfl [] [2] rfl 1 true rfl rfl rfl (by kernel_rfl) (by kernel_rfl) (by kernel_rfl) (fun qK qa wr hB qO qF hK => ?_) ?_
    · have e2 : qa.tmps[2]? = some (.pointer (some ⟨w.heap.size, 0, none⟩)) := qO.1.trans rfl
      clear qO qF
      have hs00 := (bcell hB _ _ (World.block_lt_of_cell? _ _ s00)).trans s00
      have hs01 := (bcell hB _ _ (World.block_lt_of_cell? _ _ s01)).trans s01
      have hs02 := (bcell hB _ _ (World.block_lt_of_cell? _ _ s02)).trans s02
      go_simp
      exact hK _ _ (Below.refl _ _) rfl
    refine BOk.yes rfl [] [1] rfl 1 true rfl rfl rfl (by kernel_rfl) (by kernel_rfl) (by kernel_rfl) (fun qK qa wr hB qO qF hK => ?_) ?_
    · have e1 : qa.tmps[1]? = some (.int .i64 n) := qO.1.trans rfl
      clear qO qF
      go_simp
      exact hK _ _ (Below.refl _ _) rfl
    refine BOk.yes rfl [5, 6] [] rfl 1 true rfl rfl rfl (by kernel_rfl) (by kernel_rfl) (by kernel_rfl) (fun qK qa wr hB qO qF hK => ?_) ?_
    · have e10 : qa.tmps[10]? = some (.agg #[.int .i64 m.step, .int .i64 m.branch, .slice m.A m.rows.length m.c]) := fis qF.1 rfl rfl
      have e11 : qa.tmps[11]? = some (.int .i64 n) := fis qF.2.1 rfl rfl
      clear qO qF
      go_simp
      go_at_call 12
      refine (rgood_any m n _ (Hm.out.ok.old hB) Hm.out.rows Hm.out.row).mono ?_
      rintro e9 w9 ⟨rfl, hb9⟩
      exact hK _ _ hb9 rfl
    refine BOk.yes rfl [4, 7] [] rfl 1 true rfl rfl rfl (by kernel_rfl) (by kernel_rfl) (by kernel_rfl) (fun qK qa wr hB qO qF hK => ?_) ?_
    · have e9 : qa.tmps[9]? = some (.bool (goodB m.step m.branch n m.L)) := fis qF.1 rfl rfl
      have e12 : qa.tmps[12]? = some (.bool (goodB m.step m.branch n m.L)) := fis qF.2.1 rfl rfl
      clear qO qF
      go_simp
      exact hK _ _ (Below.refl _ _) (by show (_ : Value) = _; first | rfl | (simp; done))
    refine BOk.cons rfl [1, 8] [] rfl rfl (by kernel_rfl) (by kernel_rfl) (fun qK qa wr hB qO qF hK => ?_) ?_
    · have e6 : qa.tmps[6]? = some (.bool true) := fis qF.1 rfl rfl
      have e13 : qa.tmps[13]? = some (.bool true) := fis qF.2.1 rfl rfl
      clear qO qF
      go_simp
      refine hK _ _ (Below.refl _ _) ?_
      show (_ : Value) = _
      first | rfl | (simp; done) | (simp; omega)
    refine BOk.cons rfl [9] [] rfl rfl (by kernel_rfl) (by kernel_rfl) (fun qK qa wr hB qO qF hK => ?_) ?_
    · have e14 : qa.tmps[14]? = some (.bool true) := fis qF.1 rfl rfl
      clear qO qF
      go_simp
      exact hK _ _ (Below.refl _ _) (by first | rfl | (show (_ : Value) = _; simp_all; done))
    exact BOk.nil
  intro vals wr hl hB hR
  match vals, hl with
  | [z5, z6, z7, z8, z9, z10, z11, z12, z13, z14, z4], _ =>
  have r10 : z4 = .bool true := hR 10 _ rfl
  subst r10
  clear hR
  simp only [List.cons_append, List.nil_append, putAll, Act.put, List.setIfInBounds_toArray, List.set_cons_zero, List.set_cons_succ]
  have hbe := hbW.trans (hB.mono hbW.size)
  clear x0 Hm hB hbW HE2 s00 s01 s02
  go_wp2
  go_ret
  exact ⟨rfl, hbe⟩

theorem laid_met (os : Os) : laidMet Tryd.prog Rows.matchGoodsUptoRow.laid ((laidWorld os #[.agg #[.int .i64 0, .int .i64 0, .slice none 0 0], .int .i64 0]).forCall (fun _ _ => 0) ⟨#[], #[.agg #[.int .i64 0, .int .i64 0, .slice none 0 0], .int .i64 0], []⟩).memory := laidMet_of_run' 8 (by kernel_rfl) (by kernel_rfl)
theorem reads (os : Os) {H : Type} (enc : TypeId × Value → H) : ∃ places, DataW.whole enc Tryd.prog ((laidWorld os #[.agg #[.int .i64 0, .int .i64 0, .slice none 0 0], .int .i64 0]).forCall (fun _ _ => 0) ⟨#[], #[.agg #[.int .i64 0, .int .i64 0, .slice none 0 0], .int .i64 0], []⟩).memory Tryd.f3.params.toList Rows.matchGoodsSpec.vars false (#[.agg #[.int .i64 0, .int .i64 0, .slice none 0 0], .int .i64 0] : Array Value).toList 8 = some ([.agg [.lit (.int .i64 0), .lit (.int .i64 0), .nil], .lit (.int .i64 0)], [], places) := ⟨[], by kernel_rfl⟩
theorem rec0 : (Tryd.f3.params.toList.all fun t => Tryd.prog.readableRec t && decide (t < Tryd.prog.types.size)) = true := by kernel_rfl
set_option maxRecDepth 100000 in
theorem lifted (os : Os) (started : os.Started) (H : Type) (enc : TypeId × Value → H) (F : Stop.Interp) :
    ReturnsInHanded {} Tryd.checked os 3 .any ((Rows.OpenSpec.upto Rows.matchGoodsSpec).preRow enc Tryd.prog Tryd.f3 Rows.matchGoodsUptoRow.domain false Rows.matchGoodsUptoRow.laid) (((Rows.OpenSpec.upto Rows.matchGoodsSpec).at F).post enc Tryd.prog Tryd.f3 false true false false) := by
  obtain ⟨places, hx⟩ := reads os enc
  refine law_stepCB (C := Tryd.checked) (s := Rows.matchGoodsSpec) (tb := 4) own started (by kernel_rfl) Tryd.func3
    (witness_row_at (enc := enc) (C := Tryd.checked) false (laidWorld os #[.agg #[.int .i64 0, .int .i64 0, .slice none 0 0], .int .i64 0]) #[.agg #[.int .i64 0, .int .i64 0, .slice none 0 0], .int .i64 0] rfl (by kernel_rfl) (by kernel_rfl) (by kernel_rfl)
      (OpenSpec.preRow_of_cond 8 hx (by kernel_rfl) (fun k hk => by cases hk; kernel_rfl) (by kernel_rfl) (laid_met os))) laidOut ?_ rfl Tryd.underlying4 rfl ?_ ?_
  · intro t ht
    have := List.all_eq_true.1 rec0 t ht
    simp only [Bool.and_eq_true, decide_eq_true_eq] at this
    exact this
  · intro ds hd
    match ds, hd with
    | [d0, d1], _ => exact ⟨rfl, rfl, rfl⟩
  intro W base args ds p hval hA hsz hbk hL hsh
  have htab := env_of hL hsh
  rw [Tryd.params3] at hA hval hsz
  obtain ⟨v0, vs0, d0, ds0, p0, q0, hargs, rfl, rfl, h0, r0⟩ := trodAll_cons hA
  obtain ⟨v1, vs1, d1, ds1, p1, q1, rfl, rfl, rfl, h1, r1⟩ := trodAll_cons r0
  obtain ⟨rfl, rfl, rfl⟩ := trodAll_nil r1
  obtain rfl : args = #[v0, v1] := by cases args; simp_all
  obtain ⟨m0, rfl, hm0⟩ := open_matB (hval 0 24 v0 rfl rfl) h0 (weights_each (i := 0) hsz rfl rfl) (Nat.le_trans (bulk_part (by simp)) hbk)
  obtain ⟨n1, rfl, _, _, _⟩ := open_int Tryd.underlying3 (hval 1 3 v1 rfl rfl) h1
  exact walk W htab m0 hm0 n1

theorem said : Rows.MatchGoodsUptoSaid :=
  OpenClaim.holds_of_cond 3 Tryd.f3 rfl rfl rfl rfl rfl rfl rfl ⟨rfl, rfl, rfl, rfl, rfl⟩ rfl rfl rfl rfl rfl (by kernel_rfl) Tryd.func3 (by kernel_rfl)
    (of_decide_eq_true (by kernel_rfl)) (by unfold Func.isWrapper; first | (rw [if_pos (by decide +kernel)]; kernel_rfl) | (rw [if_neg (by decide +kernel)]; exact ⟨rfl, rfl⟩))
    (fun os started H enc _ F => by rw [OpenClaim.pre_eq_preRow]; exact lifted os started H enc F)
theorem noStand : (Tryd.f3.params.toList.all fun t => !(Tryd.prog.wantsStandIn t)) = true := by kernel_rfl
theorem plain (f : FuncId) (fn : Func) (hf : Tryd.pinned.checked.prog.funcNamed "auspice/auspicelaw10.MatchGoods" = some f) (hfn : Tryd.pinned.checked.prog.funcs[f]? = some fn) :
    true = Tryd.pinned.checked.prog.looks [] ∧ ∀ (j : Nat) t, fn.params[j]? = some t → Tryd.pinned.checked.prog.wantsStandIn t = false := by
  obtain rfl : f = 3 := Option.some.inj ((show Tryd.prog.funcNamed "auspice/auspicelaw10.MatchGoods" = some 3 by kernel_rfl).symm.trans hf) |>.symm
  obtain rfl : fn = Tryd.f3 := (Option.some.inj (Tryd.func3.symm.trans hfn)).symm
  refine ⟨by kernel_rfl, fun j t ht => ?_⟩
  have hm : t ∈ Tryd.f3.params.toList := by rw [Array.mem_toList_iff]; exact Array.mem_of_getElem? ht
  have := List.all_eq_true.1 noStand t hm
  exact (by simpa using this : Tryd.prog.wantsStandIn t = false)
theorem matchGoods_holds : Rows.MatchGoodsUptoCardSaid :=
  Claim7.holds_tied_plain_at .later [] _ _ _ _ said (fun _ h => by cases h) (by kernel_rfl) (fun _ h => by cases h) matchGoodsUpto_row_tie rfl ⟨rfl, rfl⟩ (by kernel_rfl) rfl plain (by kernel_rfl)
#print axioms matchGoods_holds
end Go.Proofs.YtpiffgdebdhpnaaDoor.matchGoods
