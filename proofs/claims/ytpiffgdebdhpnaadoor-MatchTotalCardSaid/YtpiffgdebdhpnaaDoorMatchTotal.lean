/- MatchTotal holds. No conditions. -/
import Derived.Test.YtpiffgdebdhpnaaDoorMatT
import Derived.Test.YtpiffgdebdhpnaaDoorMatS
namespace Go.Proofs.YtpiffgdebdhpnaaDoor.matchTotal
open Go.ChangeShapes Go.WideShapes Go.ChangeAt Go.RowKit
open Go.ChangeMaps (open_string shut_string)
set_option linter.unusedSimpArgs false
set_option linter.unusedVariables false

def totR1 (a b c : MatV) (w : World) : List Spec := [.is (.agg #[.int .i64 a.step, .int .i64 a.branch, .slice a.A a.rows.length a.c]),
  .is (.agg #[.int .i64 b.step, .int .i64 b.branch, .slice b.A b.rows.length b.c]),
  .is (.int .i64 (a.ord b)),
  .is (.agg #[.int .i64 b.step, .int .i64 b.branch, .slice b.A b.rows.length b.c]),
  .is (.agg #[.int .i64 c.step, .int .i64 c.branch, .slice c.A c.rows.length c.c]),
  .is (.int .i64 (b.ord c)),
  .is (.agg #[.int .i64 a.step, .int .i64 a.branch, .slice a.A a.rows.length a.c]),
  .is (.agg #[.int .i64 c.step, .int .i64 c.branch, .slice c.A c.rows.length c.c]),
  .is (.int .i64 (a.ord c)),
  .is (.int .i64 (a.ord b)),
  .is (.int .i64 (b.ord c)),
  .is (.int .i64 (a.ord c))]
set_option maxRecDepth 100000 in
set_option maxHeartbeats 4000000 in
theorem walk (w : World) (he : Env w) (a : MatV) (ha : a.ok w w.heap.size) (b : MatV) (hb : b.ok w w.heap.size) (c : MatV) (hc : c.ok w w.heap.size) :
    Calls Tryd.prog 8 #[a.val, b.val, c.val] w fun e w' => e = .returned (.bool true) ∧ Below w.heap.size w w' := by
  have HE := Lib.hid he
  unfold MatV.val
  go_enter Tryd.func8, Tryd.ntmps8
  go_upto_region 1 with fail
  have x0 := (Bk.newAt (w := w) (g := w.heap.size) (by simp) 24 #[.int .i64 a.step, .int .i64 a.branch, .slice a.A a.rows.length a.c])
  replace x0 := x0.alloc (.cells #[.int .i64 b.step, .int .i64 b.branch, .slice b.A b.rows.length b.c] 24)
  replace x0 := x0.alloc (.cells #[.int .i64 c.step, .int .i64 c.branch, .slice c.A c.rows.length c.c] 24)
  have x1 := (Bk.newAt (w := (w.alloc (.cells #[.int .i64 a.step, .int .i64 a.branch, .slice a.A a.rows.length a.c] 24))) (g := w.heap.size + 1) (by simp) 24 #[.int .i64 b.step, .int .i64 b.branch, .slice b.A b.rows.length b.c])
  replace x1 := x1.alloc (.cells #[.int .i64 c.step, .int .i64 c.branch, .slice c.A c.rows.length c.c] 24)
  have x2 := (Bk.newAt (w := ((w.alloc (.cells #[.int .i64 a.step, .int .i64 a.branch, .slice a.A a.rows.length a.c] 24)).alloc (.cells #[.int .i64 b.step, .int .i64 b.branch, .slice b.A b.rows.length b.c] 24))) (g := w.heap.size + 1 + 1) (by simp) 24 #[.int .i64 c.step, .int .i64 c.branch, .slice c.A c.rows.length c.c])
  have hbW : Below w.heap.size w (((w.alloc (.cells #[.int .i64 a.step, .int .i64 a.branch, .slice a.A a.rows.length a.c] 24)).alloc (.cells #[.int .i64 b.step, .int .i64 b.branch, .slice b.A b.rows.length b.c] 24)).alloc (.cells #[.int .i64 c.step, .int .i64 c.branch, .slice c.A c.rows.length c.c] 24)) := ((((Below.refl _ _).alloc (by simp) _).alloc (by simp) _).alloc (by simp; omega) _)
  generalize (((w.alloc (.cells #[.int .i64 a.step, .int .i64 a.branch, .slice a.A a.rows.length a.c] 24)).alloc (.cells #[.int .i64 b.step, .int .i64 b.branch, .slice b.A b.rows.length b.c] 24)).alloc (.cells #[.int .i64 c.step, .int .i64 c.branch, .slice c.A c.rows.length c.c] 24)) = W at *
  have Ha := Lib.hid (ha.old hbW)
  have Hb := Lib.hid (hb.old hbW)
  have Hc := Lib.hid (hc.old hbW)
  clear ha hb hc he
  have s00 := x0.cell 0
  have s01 := x0.cell 1
  have s02 := x0.cell 2
  have s10 := x1.cell 0
  have s11 := x1.cell 1
  have s12 := x1.cell 2
  have s20 := x2.cell 0
  have s21 := x2.cell 1
  have s22 := x2.cell 2
  refine wp_region_b (by kernel_rfl) (fun qk => (totR1 a b c w).getD qk .any) (by kernel_rfl) ?_ ?_
  · refine BOk.cons rfl [] [3] rfl rfl (by kernel_rfl) (by kernel_rfl) (fun qK qa wr hB qO qF hK => ?_) ?_
    · have e3 : qa.tmps[3]? = some (.pointer (some ⟨w.heap.size, 0, none⟩)) := qO.1.trans rfl
      clear qO qF
      have hs00 := (bcell hB _ _ (World.block_lt_of_cell? _ _ s00)).trans s00
      have hs01 := (bcell hB _ _ (World.block_lt_of_cell? _ _ s01)).trans s01
      have hs02 := (bcell hB _ _ (World.block_lt_of_cell? _ _ s02)).trans s02
      go_simp
      exact hK _ _ (Below.refl _ _) rfl
    refine BOk.cons rfl [] [4] rfl rfl (by kernel_rfl) (by kernel_rfl) (fun qK qa wr hB qO qF hK => ?_) ?_
    · have e4 : qa.tmps[4]? = some (.pointer (some ⟨w.heap.size + 1, 0, none⟩)) := qO.1.trans rfl
      clear qO qF
      have hs10 := (bcell hB _ _ (World.block_lt_of_cell? _ _ s10)).trans s10
      have hs11 := (bcell hB _ _ (World.block_lt_of_cell? _ _ s11)).trans s11
      have hs12 := (bcell hB _ _ (World.block_lt_of_cell? _ _ s12)).trans s12
      go_simp
      exact hK _ _ (Below.refl _ _) rfl
    refine BOk.cons rfl [0, 1] [] rfl rfl (by kernel_rfl) (by kernel_rfl) (fun qK qa wr hB qO qF hK => ?_) ?_
    · have e10 : qa.tmps[10]? = some (.agg #[.int .i64 a.step, .int .i64 a.branch, .slice a.A a.rows.length a.c]) := fis qF.1 rfl rfl
      have e11 : qa.tmps[11]? = some (.agg #[.int .i64 b.step, .int .i64 b.branch, .slice b.A b.rows.length b.c]) := fis qF.2.1 rfl rfl
      clear qO qF
      go_simp
      go_at_call 18
      refine (ord_any a b _ (Ha.out.old hB) (Hb.out.old hB)).mono ?_
      rintro e9 w9 ⟨rfl, hb9⟩
      exact hK _ _ hb9 rfl
    refine BOk.cons rfl [] [4] rfl rfl (by kernel_rfl) (by kernel_rfl) (fun qK qa wr hB qO qF hK => ?_) ?_
    · have e4 : qa.tmps[4]? = some (.pointer (some ⟨w.heap.size + 1, 0, none⟩)) := qO.1.trans rfl
      clear qO qF
      have hs10 := (bcell hB _ _ (World.block_lt_of_cell? _ _ s10)).trans s10
      have hs11 := (bcell hB _ _ (World.block_lt_of_cell? _ _ s11)).trans s11
      have hs12 := (bcell hB _ _ (World.block_lt_of_cell? _ _ s12)).trans s12
      go_simp
      exact hK _ _ (Below.refl _ _) rfl
    refine BOk.cons rfl [] [5] rfl rfl (by kernel_rfl) (by kernel_rfl) (fun qK qa wr hB qO qF hK => ?_) ?_
    · have e5 : qa.tmps[5]? = some (.pointer (some ⟨w.heap.size + 1 + 1, 0, none⟩)) := qO.1.trans rfl
      clear qO qF
      have hs20 := (bcell hB _ _ (World.block_lt_of_cell? _ _ s20)).trans s20
      have hs21 := (bcell hB _ _ (World.block_lt_of_cell? _ _ s21)).trans s21
      have hs22 := (bcell hB _ _ (World.block_lt_of_cell? _ _ s22)).trans s22
      go_simp
      exact hK _ _ (Below.refl _ _) rfl
    refine BOk.cons rfl [3, 4] [] rfl rfl (by kernel_rfl) (by kernel_rfl) (fun qK qa wr hB qO qF hK => ?_) ?_
    · have e13 : qa.tmps[13]? = some (.agg #[.int .i64 b.step, .int .i64 b.branch, .slice b.A b.rows.length b.c]) := fis qF.1 rfl rfl
      have e14 : qa.tmps[14]? = some (.agg #[.int .i64 c.step, .int .i64 c.branch, .slice c.A c.rows.length c.c]) := fis qF.2.1 rfl rfl
      clear qO qF
      go_simp
      go_at_call 18
      refine (ord_any b c _ (Hb.out.old hB) (Hc.out.old hB)).mono ?_
      rintro e9 w9 ⟨rfl, hb9⟩
      exact hK _ _ hb9 rfl
    refine BOk.cons rfl [] [3] rfl rfl (by kernel_rfl) (by kernel_rfl) (fun qK qa wr hB qO qF hK => ?_) ?_
    · have e3 : qa.tmps[3]? = some (.pointer (some ⟨w.heap.size, 0, none⟩)) := qO.1.trans rfl
      clear qO qF
      have hs00 := (bcell hB _ _ (World.block_lt_of_cell? _ _ s00)).trans s00
      have hs01 := (bcell hB _ _ (World.block_lt_of_cell? _ _ s01)).trans s01
      have hs02 := (bcell hB _ _ (World.block_lt_of_cell? _ _ s02)).trans s02
      go_simp
      exact hK _ _ (Below.refl _ _) rfl
    refine BOk.cons rfl [] [5] rfl rfl (by kernel_rfl) (by kernel_rfl) (fun qK qa wr hB qO qF hK => ?_) ?_
    · have e5 : qa.tmps[5]? = some (.pointer (some ⟨w.heap.size + 1 + 1, 0, none⟩)) := qO.1.trans rfl
      clear qO qF
      have hs20 := (bcell hB _ _ (World.block_lt_of_cell? _ _ s20)).trans s20
      have hs21 := (bcell hB _ _ (World.block_lt_of_cell? _ _ s21)).trans s21
      have hs22 := (bcell hB _ _ (World.block_lt_of_cell? _ _ s22)).trans s22
      go_simp
      exact hK _ _ (Below.refl _ _) rfl
    refine BOk.cons rfl [6, 7] [] rfl rfl (by kernel_rfl) (by kernel_rfl) (fun qK qa wr hB qO qF hK => ?_) ?_
    · have e16 : qa.tmps[16]? = some (.agg #[.int .i64 a.step, .int .i64 a.branch, .slice a.A a.rows.length a.c]) := fis qF.1 rfl rfl
      have e17 : qa.tmps[17]? = some (.agg #[.int .i64 c.step, .int .i64 c.branch, .slice c.A c.rows.length c.c]) := fis qF.2.1 rfl rfl
      clear qO qF
      go_simp
      go_at_call 18
      refine (ord_any a c _ (Ha.out.old hB) (Hc.out.old hB)).mono ?_
      rintro e9 w9 ⟨rfl, hb9⟩
      exact hK _ _ hb9 rfl
    refine BOk.cons rfl [2] [] rfl rfl (by kernel_rfl) (by kernel_rfl) (fun qK qa wr hB qO qF hK => ?_) ?_
    · have e12 : qa.tmps[12]? = some (.int .i64 (a.ord b)) := fis qF.1 rfl rfl
      clear qO qF
      go_simp
      exact hK _ _ (Below.refl _ _) rfl
    refine BOk.cons rfl [5] [] rfl rfl (by kernel_rfl) (by kernel_rfl) (fun qK qa wr hB qO qF hK => ?_) ?_
    · have e15 : qa.tmps[15]? = some (.int .i64 (b.ord c)) := fis qF.1 rfl rfl
      clear qO qF
      go_simp
      exact hK _ _ (Below.refl _ _) rfl
    refine BOk.cons rfl [8] [] rfl rfl (by kernel_rfl) (by kernel_rfl) (fun qK qa wr hB qO qF hK => ?_) ?_
    · have e18 : qa.tmps[18]? = some (.int .i64 (a.ord c)) := fis qF.1 rfl rfl
      clear qO qF
      go_simp
      exact hK _ _ (Below.refl _ _) rfl
    exact BOk.nil
  intro vals wr hl hB hR
  match vals, hl with
  | [z10, z11, z12, z13, z14, z15, z16, z17, z18, z7, z8, z9], _ =>
  have r9 : z7 = .int .i64 (a.ord b) := hR 9 _ rfl
  subst r9
  have r10 : z8 = .int .i64 (b.ord c) := hR 10 _ rfl
  subst r10
  have r11 : z9 = .int .i64 (a.ord c) := hR 11 _ rfl
  subst r11
  clear hR
  simp only [List.cons_append, List.nil_append, putAll, Act.put, List.setIfInBounds_toArray, List.set_cons_zero, List.set_cons_succ]
  have y0 := x0.old hB
  have y1 := x1.old hB
  have y2 := x2.old hB
  have hbe := hbW.trans (hB.mono hbW.size)
  have Ia := Lib.hid (Ha.out.old hB)
  have Ib := Lib.hid (Hb.out.old hB)
  clear x0 x1 x2 Ha Hb Hc hB hbW s00 s01 s02 s10 s11 s12 s20 s21 s22
  have hx := ord_rng a b
  have hn := ord_neg a b
  have hle := ord_le a b c
  have HNG : Hid (∀ W : World, a.ok W W.heap.size → b.ok W W.heap.size → Calls Tryd.prog 18 #[.agg #[.int .i64 b.step, .int .i64 b.branch, .slice b.A b.rows.length b.c], .agg #[.int .i64 a.step, .int .i64 a.branch, .slice a.A a.rows.length a.c]] W fun r w' => r = .returned (.int .i64 (-(a.ord b))) ∧ Below W.heap.size W w') := Lib.hid fun W h1 h2 => by have := ord_any b a W h2 h1; rw [hn] at this; exact this
  have HSM : Hid (∀ W : World, a.ok W W.heap.size → b.ok W W.heap.size → Calls Tryd.prog 19 #[.agg #[.int .i64 a.step, .int .i64 a.branch, .slice a.A a.rows.length a.c], .agg #[.int .i64 b.step, .int .i64 b.branch, .slice b.A b.rows.length b.c]] W fun r w' => r = .returned (.bool (a.ord b == 0)) ∧ Below W.heap.size W w') := Lib.hid fun W h1 h2 => same_any a b W h1 h2
  clear hn
  generalize a.ord b = x at *
  generalize b.ord c = y at *
  generalize a.ord c = z at *
  have hcase : x = 1 ∨ ((x = 0 ∨ x = -1) ∧ (0 < y ∨ (¬ 0 < y ∧ z ≤ 0))) := by omega
  clear hle hx
  go_wp2_with fail
  refine (awake_any _ (HE.out.old hbe)).mono ?_
  rintro r w2 ⟨rfl, hb2⟩
  have hbe2 := hbe.trans (hb2.mono hbe.size)
  have q0 := y0.old hb2
  have q1 := y1.old hb2
  have Ja := Lib.hid (Ia.out.old hb2)
  have Jb := Lib.hid (Ib.out.old hb2)
  clear y0 y1 y2 hb2 hbe Ia Ib
  have s00 := q0.cell 0
  have s01 := q0.cell 1
  have s02 := q0.cell 2
  have s10 := q1.cell 0
  have s11 := q1.cell 1
  have s12 := q1.cell 2
  go_wp2_with fail
  refine (HNG.out _ Ja.out Jb.out).mono ?_
  rintro r w3 ⟨rfl, hb3⟩
  have hbe3 := hbe2.trans (hb3.mono hbe2.size)
  have p0 := q0.old hb3
  have p1 := q1.old hb3
  have HSS := Lib.hid (HSM.out _ (Ja.out.old hb3) (Jb.out.old hb3))
  clear q0 q1 hb3 hbe2 Ja Jb s00 s01 s02 s10 s11 s12 HNG HSM
  have s00 := p0.cell 0
  have s01 := p0.cell 1
  have s02 := p0.cell 2
  have s10 := p1.cell 0
  have s11 := p1.cell 1
  have s12 := p1.cell 2
  rcases hcase with rfl | ⟨hx, hy⟩
  · go_wp2_with fail
    refine HSS.out.mono ?_
    rintro r w4 ⟨rfl, hb4⟩
    have hfin := hbe3.trans (hb4.mono hbe3.size)
    clear hb4 hbe3 p0 p1 HSS s00 s01 s02 s10 s11 s12
    go_wp2
    go_ret
    exact ⟨rfl, hfin⟩
  · rcases hx with rfl | rfl <;> rcases hy with hy | ⟨hy, hz⟩
    all_goals
      go_wp2_with fail
      refine HSS.out.mono ?_
      rintro r w4 ⟨rfl, hb4⟩
      have hfin := hbe3.trans (hb4.mono hbe3.size)
      clear hb4 hbe3 p0 p1 HSS s00 s01 s02 s10 s11 s12
      go_wp2
      go_ret
      exact ⟨rfl, hfin⟩

theorem laid_met (os : Os) : laidMet Tryd.prog Rows.matchTotalRow.laid ((laidWorld os #[.agg #[.int .i64 0, .int .i64 0, .slice none 0 0], .agg #[.int .i64 0, .int .i64 0, .slice none 0 0], .agg #[.int .i64 0, .int .i64 0, .slice none 0 0]]).forCall (fun _ _ => 0) ⟨#[], #[.agg #[.int .i64 0, .int .i64 0, .slice none 0 0], .agg #[.int .i64 0, .int .i64 0, .slice none 0 0], .agg #[.int .i64 0, .int .i64 0, .slice none 0 0]], []⟩).memory := laidMet_of_run' 8 (by kernel_rfl) (by kernel_rfl)
theorem reads (os : Os) {H : Type} (enc : TypeId × Value → H) : ∃ places, DataW.whole enc Tryd.prog ((laidWorld os #[.agg #[.int .i64 0, .int .i64 0, .slice none 0 0], .agg #[.int .i64 0, .int .i64 0, .slice none 0 0], .agg #[.int .i64 0, .int .i64 0, .slice none 0 0]]).forCall (fun _ _ => 0) ⟨#[], #[.agg #[.int .i64 0, .int .i64 0, .slice none 0 0], .agg #[.int .i64 0, .int .i64 0, .slice none 0 0], .agg #[.int .i64 0, .int .i64 0, .slice none 0 0]], []⟩).memory Tryd.f8.params.toList Rows.matchTotalSpec.vars false (#[.agg #[.int .i64 0, .int .i64 0, .slice none 0 0], .agg #[.int .i64 0, .int .i64 0, .slice none 0 0], .agg #[.int .i64 0, .int .i64 0, .slice none 0 0]] : Array Value).toList 8 = some ([.agg [.lit (.int .i64 0), .lit (.int .i64 0), .nil], .agg [.lit (.int .i64 0), .lit (.int .i64 0), .nil], .agg [.lit (.int .i64 0), .lit (.int .i64 0), .nil]], [], places) := ⟨[], by kernel_rfl⟩
theorem rec0 : (Tryd.f8.params.toList.all fun t => Tryd.prog.readableRec t && decide (t < Tryd.prog.types.size)) = true := by kernel_rfl
set_option maxRecDepth 100000 in
theorem lifted (os : Os) (started : os.Started) (H : Type) (enc : TypeId × Value → H) (F : Stop.Interp) :
    ReturnsInHanded {} Tryd.checked os 8 .any ((OpenSpec.ofChange Rows.matchTotalSpec).preRow enc Tryd.prog Tryd.f8 Rows.matchTotalRow.domain false Rows.matchTotalRow.laid) (((OpenSpec.ofChange Rows.matchTotalSpec).at F).post enc Tryd.prog Tryd.f8 false true false false) := by
  obtain ⟨places, hx⟩ := reads os enc
  refine law_stepC (C := Tryd.checked) (s := Rows.matchTotalSpec) (tb := 4) own started (by kernel_rfl) Tryd.func8
    (witness_row_at (enc := enc) (C := Tryd.checked) false (laidWorld os #[.agg #[.int .i64 0, .int .i64 0, .slice none 0 0], .agg #[.int .i64 0, .int .i64 0, .slice none 0 0], .agg #[.int .i64 0, .int .i64 0, .slice none 0 0]]) #[.agg #[.int .i64 0, .int .i64 0, .slice none 0 0], .agg #[.int .i64 0, .int .i64 0, .slice none 0 0], .agg #[.int .i64 0, .int .i64 0, .slice none 0 0]] rfl (by kernel_rfl) (by kernel_rfl) (by kernel_rfl)
      (OpenSpec.preRow_of_cond 8 hx (by kernel_rfl) (fun k hk => by cases hk) (by kernel_rfl) (laid_met os))) laidOut ?_ rfl Tryd.underlying4 rfl ?_ ?_
  · intro t ht
    have := List.all_eq_true.1 rec0 t ht
    simp only [Bool.and_eq_true, decide_eq_true_eq] at this
    exact this
  · intro ds hd
    match ds, hd with
    | [d0, d1, d2], _ => exact ⟨rfl, rfl, rfl⟩
  intro W base args ds p hval hA hsz hL hsh
  have htab := env_of hL hsh
  rw [Tryd.params8] at hA hval hsz
  obtain ⟨v0, vs0, d0, ds0, p0, q0, hargs, rfl, rfl, h0, r0⟩ := trodAll_cons hA
  obtain ⟨v1, vs1, d1, ds1, p1, q1, rfl, rfl, rfl, h1, r1⟩ := trodAll_cons r0
  obtain ⟨v2, vs2, d2, ds2, p2, q2, rfl, rfl, rfl, h2, r2⟩ := trodAll_cons r1
  obtain ⟨rfl, rfl, rfl⟩ := trodAll_nil r2
  obtain rfl : args = #[v0, v1, v2] := by cases args; simp_all
  obtain ⟨m0, rfl, hm0⟩ := open_mat (hval 0 24 v0 rfl rfl) h0 (weights_each (i := 0) hsz rfl rfl)
  obtain ⟨m1, rfl, hm1⟩ := open_mat (hval 1 24 v1 rfl rfl) h1 (weights_each (i := 1) hsz rfl rfl)
  obtain ⟨m2, rfl, hm2⟩ := open_mat (hval 2 24 v2 rfl rfl) h2 (weights_each (i := 2) hsz rfl rfl)
  exact walk W htab m0 hm0 m1 hm1 m2 hm2

theorem said : Rows.MatchTotalSaid :=
  OpenClaim.holds_of_cond 8 Tryd.f8 rfl rfl rfl rfl rfl rfl rfl ⟨rfl, rfl, rfl, rfl, rfl⟩ rfl rfl rfl rfl rfl (by kernel_rfl) Tryd.func8 (by kernel_rfl)
    (of_decide_eq_true (by kernel_rfl)) (by unfold Func.isWrapper; first | (rw [if_pos (by decide +kernel)]; kernel_rfl) | (rw [if_neg (by decide +kernel)]; exact ⟨rfl, rfl⟩))
    (fun os started H enc _ F => by rw [OpenClaim.pre_eq_preRow]; exact lifted os started H enc F)
theorem noStand : (Tryd.f8.params.toList.all fun t => !(Tryd.prog.wantsStandIn t)) = true := by kernel_rfl
theorem plain (f : FuncId) (fn : Func) (hf : Tryd.pinned.checked.prog.funcNamed "auspice/auspicelaw10.MatchTotal" = some f) (hfn : Tryd.pinned.checked.prog.funcs[f]? = some fn) :
    true = Tryd.pinned.checked.prog.looks [] ∧ ∀ (j : Nat) t, fn.params[j]? = some t → Tryd.pinned.checked.prog.wantsStandIn t = false := by
  obtain rfl : f = 8 := Option.some.inj ((show Tryd.prog.funcNamed "auspice/auspicelaw10.MatchTotal" = some 8 by kernel_rfl).symm.trans hf) |>.symm
  obtain rfl : fn = Tryd.f8 := (Option.some.inj (Tryd.func8.symm.trans hfn)).symm
  refine ⟨by kernel_rfl, fun j t ht => ?_⟩
  have hm : t ∈ Tryd.f8.params.toList := by rw [Array.mem_toList_iff]; exact Array.mem_of_getElem? ht
  have := List.all_eq_true.1 noStand t hm
  exact (by simpa using this : Tryd.prog.wantsStandIn t = false)
theorem matchTotal_holds : Rows.MatchTotalCardSaid :=
  Claim7.holds_tied_plain_at .later [] _ _ _ _ said (fun _ h => by cases h) (by kernel_rfl) (fun _ h => by cases h) matchTotal_row_tie rfl ⟨rfl, rfl⟩ (by kernel_rfl) rfl plain (by kernel_rfl)
#print axioms matchTotal_holds
end Go.Proofs.YtpiffgdebdhpnaaDoor.matchTotal
