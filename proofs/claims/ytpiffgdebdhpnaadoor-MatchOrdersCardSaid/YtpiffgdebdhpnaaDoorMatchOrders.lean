/- MatchOrders holds. No conditions. -/
import Derived.Test.YtpiffgdebdhpnaaDoorMatT
import Derived.Test.YtpiffgdebdhpnaaDoorMatS
import Derived.Test.YtpiffgdebdhpnaaDoorMatR
namespace Go.Proofs.YtpiffgdebdhpnaaDoor.matchOrders
open Go.ChangeShapes Go.WideShapes Go.ChangeAt Go.RowKit
open Go.ChangeMaps (open_string shut_string)
set_option linter.unusedSimpArgs false
set_option linter.unusedVariables false

def ordersR1 (a b : MatV) (w : World) : List Spec := [.is (.bool true),
  .is (.bool true),
  .is (.agg #[.int .i64 a.step, .int .i64 a.branch, .slice a.A a.rows.length a.c]),
  .is (.agg #[.int .i64 b.step, .int .i64 b.branch, .slice b.A b.rows.length b.c]),
  .is (.int .i64 (a.ord b)),
  .is (.agg #[.int .i64 a.step, .int .i64 a.branch, .slice a.A a.rows.length a.c]),
  .is (.agg #[.int .i64 b.step, .int .i64 b.branch, .slice b.A b.rows.length b.c]),
  .is (.int .i64 (a.ord b)),
  .is (.bool true),
  .is (.bool true),
  .is (.bool true),
  .is (.agg #[.int .i64 a.step, .int .i64 a.branch, .slice a.A a.rows.length a.c]),
  .is (.agg #[.int .i64 b.step, .int .i64 b.branch, .slice b.A b.rows.length b.c]),
  .is (.bool (a.ord b == 0)),
  .is (.agg #[.int .i64 a.step, .int .i64 a.branch, .slice a.A a.rows.length a.c]),
  .is (.agg #[.int .i64 b.step, .int .i64 b.branch, .slice b.A b.rows.length b.c]),
  .is (.int .i64 (a.ord b)),
  .is (.bool (((a.ord b) == 0))),
  .is (.bool true),
  .is (.bool true),
  .is (.bool true)]
set_option maxRecDepth 100000 in
set_option maxHeartbeats 4000000 in
theorem walk (w : World) (he : Env w) (a : MatV) (ha : a.ok w w.heap.size) (b : MatV) (hb : b.ok w w.heap.size) :
    Calls Tryd.prog 7 #[a.val, b.val] w fun e w' => e = .returned (.bool true) ∧ Below w.heap.size w w' := by
  have HE := Lib.hid he
  unfold MatV.val
  go_enter Tryd.func7, Tryd.ntmps7
  go_upto_region 1 with fail
  have x0 := (Bk.newAt (w := w) (g := w.heap.size) (by simp) 24 #[.int .i64 a.step, .int .i64 a.branch, .slice a.A a.rows.length a.c])
  replace x0 := x0.alloc (.cells #[.int .i64 b.step, .int .i64 b.branch, .slice b.A b.rows.length b.c] 24)
  have x1 := (Bk.newAt (w := (w.alloc (.cells #[.int .i64 a.step, .int .i64 a.branch, .slice a.A a.rows.length a.c] 24))) (g := w.heap.size + 1) (by simp) 24 #[.int .i64 b.step, .int .i64 b.branch, .slice b.A b.rows.length b.c])
  have hbW : Below w.heap.size w ((w.alloc (.cells #[.int .i64 a.step, .int .i64 a.branch, .slice a.A a.rows.length a.c] 24)).alloc (.cells #[.int .i64 b.step, .int .i64 b.branch, .slice b.A b.rows.length b.c] 24)) := (((Below.refl _ _).alloc (by simp) _).alloc (by simp) _)
  generalize ((w.alloc (.cells #[.int .i64 a.step, .int .i64 a.branch, .slice a.A a.rows.length a.c] 24)).alloc (.cells #[.int .i64 b.step, .int .i64 b.branch, .slice b.A b.rows.length b.c] 24)) = W at *
  have Ha := Lib.hid (ha.old hbW)
  have Hb := Lib.hid (hb.old hbW)
  have HE2 := Lib.hid (HE.out.old hbW)
  clear ha hb he
  have s00 := x0.cell 0
  have s01 := x0.cell 1
  have s02 := x0.cell 2
  have s10 := x1.cell 0
  have s11 := x1.cell 1
  have s12 := x1.cell 2
  refine wp_region_b (by kernel_rfl) (fun qk => (ordersR1 a b w).getD qk .any) (by kernel_rfl) ?_ ?_
  · refine BOk.cons rfl [] [] rfl rfl (by kernel_rfl) (by kernel_rfl) (fun qK qa wr hB qO qF hK => ?_) ?_
    · clear qO qF
      go_simp
      go_at_call 10
      refine (awake_any _ (HE2.out.old hB)).mono ?_
      rintro e9 w9 ⟨rfl, hb9⟩
      exact hK _ _ hb9 rfl
    refine BOk.cons rfl [0] [] rfl rfl (by kernel_rfl) (by kernel_rfl) (fun qK qa wr hB qO qF hK => ?_) ?_
    · have e5 : qa.tmps[5]? = some (.bool true) := fis qF.1 rfl rfl
      clear qO qF
      go_simp
      exact hK _ _ (Below.refl _ _) (by first | rfl | (show (_ : Value) = _; simp_all; done))
    refine BOk.yes rfl [] [2] rfl 1 true rfl rfl rfl (by kernel_rfl) (by kernel_rfl) (by kernel_rfl) (fun qK qa wr hB qO qF hK => ?_) ?_
    · have e2 : qa.tmps[2]? = some (.pointer (some ⟨w.heap.size, 0, none⟩)) := qO.1.trans rfl
      clear qO qF
      have hs00 := (bcell hB _ _ (World.block_lt_of_cell? _ _ s00)).trans s00
      have hs01 := (bcell hB _ _ (World.block_lt_of_cell? _ _ s01)).trans s01
      have hs02 := (bcell hB _ _ (World.block_lt_of_cell? _ _ s02)).trans s02
      go_simp
      exact hK _ _ (Below.refl _ _) rfl
    refine BOk.yes rfl [] [3] rfl 1 true rfl rfl rfl (by kernel_rfl) (by kernel_rfl) (by kernel_rfl) (fun qK qa wr hB qO qF hK => ?_) ?_
    · have e3 : qa.tmps[3]? = some (.pointer (some ⟨w.heap.size + 1, 0, none⟩)) := qO.1.trans rfl
      clear qO qF
      have hs10 := (bcell hB _ _ (World.block_lt_of_cell? _ _ s10)).trans s10
      have hs11 := (bcell hB _ _ (World.block_lt_of_cell? _ _ s11)).trans s11
      have hs12 := (bcell hB _ _ (World.block_lt_of_cell? _ _ s12)).trans s12
      go_simp
      exact hK _ _ (Below.refl _ _) rfl
    refine BOk.yes rfl [2, 3] [] rfl 1 true rfl rfl rfl (by kernel_rfl) (by kernel_rfl) (by kernel_rfl) (fun qK qa wr hB qO qF hK => ?_) ?_
    · have e7 : qa.tmps[7]? = some (.agg #[.int .i64 a.step, .int .i64 a.branch, .slice a.A a.rows.length a.c]) := fis qF.1 rfl rfl
      have e8 : qa.tmps[8]? = some (.agg #[.int .i64 b.step, .int .i64 b.branch, .slice b.A b.rows.length b.c]) := fis qF.2.1 rfl rfl
      clear qO qF
      go_simp
      go_at_call 18
      refine (ord_any a b _ (Ha.out.old hB) (Hb.out.old hB)).mono ?_
      rintro e9 w9 ⟨rfl, hb9⟩
      exact hK _ _ hb9 rfl
    refine BOk.yes rfl [] [2] rfl 1 true rfl rfl rfl (by kernel_rfl) (by kernel_rfl) (by kernel_rfl) (fun qK qa wr hB qO qF hK => ?_) ?_
    · have e2 : qa.tmps[2]? = some (.pointer (some ⟨w.heap.size, 0, none⟩)) := qO.1.trans rfl
      clear qO qF
      have hs00 := (bcell hB _ _ (World.block_lt_of_cell? _ _ s00)).trans s00
      have hs01 := (bcell hB _ _ (World.block_lt_of_cell? _ _ s01)).trans s01
      have hs02 := (bcell hB _ _ (World.block_lt_of_cell? _ _ s02)).trans s02
      go_simp
      exact hK _ _ (Below.refl _ _) rfl
    refine BOk.yes rfl [] [3] rfl 1 true rfl rfl rfl (by kernel_rfl) (by kernel_rfl) (by kernel_rfl) (fun qK qa wr hB qO qF hK => ?_) ?_
    · have e3 : qa.tmps[3]? = some (.pointer (some ⟨w.heap.size + 1, 0, none⟩)) := qO.1.trans rfl
      clear qO qF
      have hs10 := (bcell hB _ _ (World.block_lt_of_cell? _ _ s10)).trans s10
      have hs11 := (bcell hB _ _ (World.block_lt_of_cell? _ _ s11)).trans s11
      have hs12 := (bcell hB _ _ (World.block_lt_of_cell? _ _ s12)).trans s12
      go_simp
      exact hK _ _ (Below.refl _ _) rfl
    refine BOk.yes rfl [5, 6] [] rfl 1 true rfl rfl rfl (by kernel_rfl) (by kernel_rfl) (by kernel_rfl) (fun qK qa wr hB qO qF hK => ?_) ?_
    · have e10 : qa.tmps[10]? = some (.agg #[.int .i64 a.step, .int .i64 a.branch, .slice a.A a.rows.length a.c]) := fis qF.1 rfl rfl
      have e11 : qa.tmps[11]? = some (.agg #[.int .i64 b.step, .int .i64 b.branch, .slice b.A b.rows.length b.c]) := fis qF.2.1 rfl rfl
      clear qO qF
      go_simp
      go_at_call 16
      refine (rord_any a b _ (Ha.out.old hB) (Hb.out.old hB)).mono ?_
      rintro e9 w9 ⟨rfl, hb9⟩
      exact hK _ _ hb9 rfl
    refine BOk.yes rfl [4, 7] [] rfl 1 true rfl rfl rfl (by kernel_rfl) (by kernel_rfl) (by kernel_rfl) (fun qK qa wr hB qO qF hK => ?_) ?_
    · have e9 : qa.tmps[9]? = some (.int .i64 (a.ord b)) := fis qF.1 rfl rfl
      have e12 : qa.tmps[12]? = some (.int .i64 (a.ord b)) := fis qF.2.1 rfl rfl
      clear qO qF
      go_simp
      exact hK _ _ (Below.refl _ _) (by show (_ : Value) = _; first | rfl | (simp; done))
    refine BOk.cons rfl [1, 8] [] rfl rfl (by kernel_rfl) (by kernel_rfl) (fun qK qa wr hB qO qF hK => ?_) ?_
    · have e6 : qa.tmps[6]? = some (.bool true) := fis qF.1 rfl rfl
      have e13 : qa.tmps[13]? = some (.bool true) := fis qF.2.1 rfl rfl
      clear qO qF
      go_simp
      refine hK _ _ (Below.refl _ _) ?_
      show (_ : Value) = _
      first | rfl | (simp; done) | (simp; omega)
    refine BOk.cons rfl [9] [] rfl rfl (by kernel_rfl) (by kernel_rfl) (fun qK qa wr hB qO qF hK => ?_) ?_
    · have e14 : qa.tmps[14]? = some (.bool true) := fis qF.1 rfl rfl
      clear qO qF
      go_simp
      exact hK _ _ (Below.refl _ _) (by first | rfl | (show (_ : Value) = _; simp_all; done))
    refine BOk.yes rfl [] [2] rfl 10 true rfl rfl rfl (by kernel_rfl) (by kernel_rfl) (by kernel_rfl) (fun qK qa wr hB qO qF hK => ?_) ?_
    · have e2 : qa.tmps[2]? = some (.pointer (some ⟨w.heap.size, 0, none⟩)) := qO.1.trans rfl
      clear qO qF
      have hs00 := (bcell hB _ _ (World.block_lt_of_cell? _ _ s00)).trans s00
      have hs01 := (bcell hB _ _ (World.block_lt_of_cell? _ _ s01)).trans s01
      have hs02 := (bcell hB _ _ (World.block_lt_of_cell? _ _ s02)).trans s02
      go_simp
      exact hK _ _ (Below.refl _ _) rfl
    refine BOk.yes rfl [] [3] rfl 10 true rfl rfl rfl (by kernel_rfl) (by kernel_rfl) (by kernel_rfl) (fun qK qa wr hB qO qF hK => ?_) ?_
    · have e3 : qa.tmps[3]? = some (.pointer (some ⟨w.heap.size + 1, 0, none⟩)) := qO.1.trans rfl
      clear qO qF
      have hs10 := (bcell hB _ _ (World.block_lt_of_cell? _ _ s10)).trans s10
      have hs11 := (bcell hB _ _ (World.block_lt_of_cell? _ _ s11)).trans s11
      have hs12 := (bcell hB _ _ (World.block_lt_of_cell? _ _ s12)).trans s12
      go_simp
      exact hK _ _ (Below.refl _ _) rfl
    refine BOk.yes rfl [11, 12] [] rfl 10 true rfl rfl rfl (by kernel_rfl) (by kernel_rfl) (by kernel_rfl) (fun qK qa wr hB qO qF hK => ?_) ?_
    · have e16 : qa.tmps[16]? = some (.agg #[.int .i64 a.step, .int .i64 a.branch, .slice a.A a.rows.length a.c]) := fis qF.1 rfl rfl
      have e17 : qa.tmps[17]? = some (.agg #[.int .i64 b.step, .int .i64 b.branch, .slice b.A b.rows.length b.c]) := fis qF.2.1 rfl rfl
      clear qO qF
      go_simp
      go_at_call 19
      refine (same_any a b _ (Ha.out.old hB) (Hb.out.old hB)).mono ?_
      rintro e9 w9 ⟨rfl, hb9⟩
      exact hK _ _ hb9 rfl
    refine BOk.yes rfl [] [2] rfl 10 true rfl rfl rfl (by kernel_rfl) (by kernel_rfl) (by kernel_rfl) (fun qK qa wr hB qO qF hK => ?_) ?_
    · have e2 : qa.tmps[2]? = some (.pointer (some ⟨w.heap.size, 0, none⟩)) := qO.1.trans rfl
      clear qO qF
      have hs00 := (bcell hB _ _ (World.block_lt_of_cell? _ _ s00)).trans s00
      have hs01 := (bcell hB _ _ (World.block_lt_of_cell? _ _ s01)).trans s01
      have hs02 := (bcell hB _ _ (World.block_lt_of_cell? _ _ s02)).trans s02
      go_simp
      exact hK _ _ (Below.refl _ _) rfl
    refine BOk.yes rfl [] [3] rfl 10 true rfl rfl rfl (by kernel_rfl) (by kernel_rfl) (by kernel_rfl) (fun qK qa wr hB qO qF hK => ?_) ?_
    · have e3 : qa.tmps[3]? = some (.pointer (some ⟨w.heap.size + 1, 0, none⟩)) := qO.1.trans rfl
      clear qO qF
      have hs10 := (bcell hB _ _ (World.block_lt_of_cell? _ _ s10)).trans s10
      have hs11 := (bcell hB _ _ (World.block_lt_of_cell? _ _ s11)).trans s11
      have hs12 := (bcell hB _ _ (World.block_lt_of_cell? _ _ s12)).trans s12
      go_simp
      exact hK _ _ (Below.refl _ _) rfl
    refine BOk.yes rfl [14, 15] [] rfl 10 true rfl rfl rfl (by kernel_rfl) (by kernel_rfl) (by kernel_rfl) (fun qK qa wr hB qO qF hK => ?_) ?_
    · have e19 : qa.tmps[19]? = some (.agg #[.int .i64 a.step, .int .i64 a.branch, .slice a.A a.rows.length a.c]) := fis qF.1 rfl rfl
      have e20 : qa.tmps[20]? = some (.agg #[.int .i64 b.step, .int .i64 b.branch, .slice b.A b.rows.length b.c]) := fis qF.2.1 rfl rfl
      clear qO qF
      go_simp
      go_at_call 16
      refine (rord_any a b _ (Ha.out.old hB) (Hb.out.old hB)).mono ?_
      rintro e9 w9 ⟨rfl, hb9⟩
      exact hK _ _ hb9 rfl
    refine BOk.yes rfl [16] [] rfl 10 true rfl rfl rfl (by kernel_rfl) (by kernel_rfl) (by kernel_rfl) (fun qK qa wr hB qO qF hK => ?_) ?_
    · have e21 : qa.tmps[21]? = some (.int .i64 (a.ord b)) := fis qF.1 rfl rfl
      clear qO qF
      go_simp
      refine hK _ _ (Below.refl _ _) ?_
      show (_ : Value) = _
      first | rfl | (simp; done) | (simp; omega) | (congr 1; simp; done) | (congr 1; rw [decide_eq_decide]; omega) | exact congrArg Value.bool (nat_bne _ _) | exact congrArg Value.bool (nat_beq _ _)
    refine BOk.yes rfl [13, 17] [] rfl 10 true rfl rfl rfl (by kernel_rfl) (by kernel_rfl) (by kernel_rfl) (fun qK qa wr hB qO qF hK => ?_) ?_
    · have e18 : qa.tmps[18]? = some (.bool (a.ord b == 0)) := fis qF.1 rfl rfl
      have e22 : qa.tmps[22]? = some (.bool (((a.ord b) == 0))) := fis qF.2.1 rfl rfl
      clear qO qF
      go_simp
      exact hK _ _ (Below.refl _ _) (by show (_ : Value) = _; first | rfl | (simp; done))
    refine BOk.cons rfl [10, 18] [] rfl rfl (by kernel_rfl) (by kernel_rfl) (fun qK qa wr hB qO qF hK => ?_) ?_
    · have e15 : qa.tmps[15]? = some (.bool true) := fis qF.1 rfl rfl
      have e23 : qa.tmps[23]? = some (.bool true) := fis qF.2.1 rfl rfl
      clear qO qF
      go_simp
      refine hK _ _ (Below.refl _ _) ?_
      show (_ : Value) = _
      first | rfl | (simp; done) | (simp; omega)
    refine BOk.cons rfl [19] [] rfl rfl (by kernel_rfl) (by kernel_rfl) (fun qK qa wr hB qO qF hK => ?_) ?_
    · have e24 : qa.tmps[24]? = some (.bool true) := fis qF.1 rfl rfl
      clear qO qF
      go_simp
      exact hK _ _ (Below.refl _ _) (by first | rfl | (show (_ : Value) = _; simp_all; done))
    exact BOk.nil
  intro vals wr hl hB hR
  match vals, hl with
  | [z5, z6, z7, z8, z9, z10, z11, z12, z13, z14, z15, z16, z17, z18, z19, z20, z21, z22, z23, z24, z4], _ =>
  have r20 : z4 = .bool true := hR 20 _ rfl
  subst r20
  clear hR
  simp only [List.cons_append, List.nil_append, putAll, Act.put, List.setIfInBounds_toArray, List.set_cons_zero, List.set_cons_succ]
  have hbe := hbW.trans (hB.mono hbW.size)
  clear x0 x1 Ha Hb hB hbW HE2 s00 s01 s02 s10 s11 s12
  go_wp2
  go_ret
  exact ⟨rfl, hbe⟩

theorem laid_met (os : Os) : laidMet Tryd.prog Rows.matchOrdersRow.laid ((laidWorld os #[.agg #[.int .i64 0, .int .i64 0, .slice none 0 0], .agg #[.int .i64 0, .int .i64 0, .slice none 0 0]]).forCall (fun _ _ => 0) ⟨#[], #[.agg #[.int .i64 0, .int .i64 0, .slice none 0 0], .agg #[.int .i64 0, .int .i64 0, .slice none 0 0]], []⟩).memory := laidMet_of_run' 8 (by kernel_rfl) (by kernel_rfl)
theorem reads (os : Os) {H : Type} (enc : TypeId × Value → H) : ∃ places, DataW.whole enc Tryd.prog ((laidWorld os #[.agg #[.int .i64 0, .int .i64 0, .slice none 0 0], .agg #[.int .i64 0, .int .i64 0, .slice none 0 0]]).forCall (fun _ _ => 0) ⟨#[], #[.agg #[.int .i64 0, .int .i64 0, .slice none 0 0], .agg #[.int .i64 0, .int .i64 0, .slice none 0 0]], []⟩).memory Tryd.f7.params.toList Rows.matchOrdersSpec.vars false (#[.agg #[.int .i64 0, .int .i64 0, .slice none 0 0], .agg #[.int .i64 0, .int .i64 0, .slice none 0 0]] : Array Value).toList 8 = some ([.agg [.lit (.int .i64 0), .lit (.int .i64 0), .nil], .agg [.lit (.int .i64 0), .lit (.int .i64 0), .nil]], [], places) := ⟨[], by kernel_rfl⟩
theorem rec0 : (Tryd.f7.params.toList.all fun t => Tryd.prog.readableRec t && decide (t < Tryd.prog.types.size)) = true := by kernel_rfl
set_option maxRecDepth 100000 in
theorem lifted (os : Os) (started : os.Started) (H : Type) (enc : TypeId × Value → H) (F : Stop.Interp) :
    ReturnsInHanded {} Tryd.checked os 7 .any ((OpenSpec.ofChange Rows.matchOrdersSpec).preRow enc Tryd.prog Tryd.f7 Rows.matchOrdersRow.domain false Rows.matchOrdersRow.laid) (((OpenSpec.ofChange Rows.matchOrdersSpec).at F).post enc Tryd.prog Tryd.f7 false true false false) := by
  obtain ⟨places, hx⟩ := reads os enc
  refine law_stepC (C := Tryd.checked) (s := Rows.matchOrdersSpec) (tb := 4) own started (by kernel_rfl) Tryd.func7
    (witness_row_at (enc := enc) (C := Tryd.checked) false (laidWorld os #[.agg #[.int .i64 0, .int .i64 0, .slice none 0 0], .agg #[.int .i64 0, .int .i64 0, .slice none 0 0]]) #[.agg #[.int .i64 0, .int .i64 0, .slice none 0 0], .agg #[.int .i64 0, .int .i64 0, .slice none 0 0]] rfl (by kernel_rfl) (by kernel_rfl) (by kernel_rfl)
      (OpenSpec.preRow_of_cond 8 hx (by kernel_rfl) (fun k hk => by cases hk) (by kernel_rfl) (laid_met os))) laidOut ?_ rfl Tryd.underlying4 rfl ?_ ?_
  · intro t ht
    have := List.all_eq_true.1 rec0 t ht
    simp only [Bool.and_eq_true, decide_eq_true_eq] at this
    exact this
  · intro ds hd
    match ds, hd with
    | [d0, d1], _ => exact ⟨rfl, rfl, rfl⟩
  intro W base args ds p hval hA hsz hL hsh
  have htab := env_of hL hsh
  rw [Tryd.params7] at hA hval hsz
  obtain ⟨v0, vs0, d0, ds0, p0, q0, hargs, rfl, rfl, h0, r0⟩ := trodAll_cons hA
  obtain ⟨v1, vs1, d1, ds1, p1, q1, rfl, rfl, rfl, h1, r1⟩ := trodAll_cons r0
  obtain ⟨rfl, rfl, rfl⟩ := trodAll_nil r1
  obtain rfl : args = #[v0, v1] := by cases args; simp_all
  obtain ⟨m0, rfl, hm0⟩ := open_mat (hval 0 24 v0 rfl rfl) h0 (weights_each (i := 0) hsz rfl rfl)
  obtain ⟨m1, rfl, hm1⟩ := open_mat (hval 1 24 v1 rfl rfl) h1 (weights_each (i := 1) hsz rfl rfl)
  exact walk W htab m0 hm0 m1 hm1

theorem said : Rows.MatchOrdersSaid :=
  OpenClaim.holds_of_cond 7 Tryd.f7 rfl rfl rfl rfl rfl rfl rfl ⟨rfl, rfl, rfl, rfl, rfl⟩ rfl rfl rfl rfl rfl (by kernel_rfl) Tryd.func7 (by kernel_rfl)
    (of_decide_eq_true (by kernel_rfl)) (by unfold Func.isWrapper; first | (rw [if_pos (by decide +kernel)]; kernel_rfl) | (rw [if_neg (by decide +kernel)]; exact ⟨rfl, rfl⟩))
    (fun os started H enc _ F => by rw [OpenClaim.pre_eq_preRow]; exact lifted os started H enc F)
theorem noStand : (Tryd.f7.params.toList.all fun t => !(Tryd.prog.wantsStandIn t)) = true := by kernel_rfl
theorem plain (f : FuncId) (fn : Func) (hf : Tryd.pinned.checked.prog.funcNamed "auspice/auspicelaw10.MatchOrders" = some f) (hfn : Tryd.pinned.checked.prog.funcs[f]? = some fn) :
    true = Tryd.pinned.checked.prog.looks [] ∧ ∀ (j : Nat) t, fn.params[j]? = some t → Tryd.pinned.checked.prog.wantsStandIn t = false := by
  obtain rfl : f = 7 := Option.some.inj ((show Tryd.prog.funcNamed "auspice/auspicelaw10.MatchOrders" = some 7 by kernel_rfl).symm.trans hf) |>.symm
  obtain rfl : fn = Tryd.f7 := (Option.some.inj (Tryd.func7.symm.trans hfn)).symm
  refine ⟨by kernel_rfl, fun j t ht => ?_⟩
  have hm : t ∈ Tryd.f7.params.toList := by rw [Array.mem_toList_iff]; exact Array.mem_of_getElem? ht
  have := List.all_eq_true.1 noStand t hm
  exact (by simpa using this : Tryd.prog.wantsStandIn t = false)
theorem matchOrders_holds : Rows.MatchOrdersCardSaid :=
  Claim7.holds_tied_plain_at .later [] _ _ _ _ said (fun _ h => by cases h) (by kernel_rfl) (fun _ h => by cases h) matchOrders_row_tie rfl ⟨rfl, rfl⟩ (by kernel_rfl) rfl plain (by kernel_rfl)
#print axioms matchOrders_holds
end Go.Proofs.YtpiffgdebdhpnaaDoor.matchOrders
