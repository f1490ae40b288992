/- ValueApplies holds. No conditions. -/
import Derived.Test.YtlejjchaooeabaaValZ
import Derived.IntWalk
namespace Go.Proofs.Ytlejjchaooeabaa.valueApplies
open Go.ChangeShapes Go.WideShapes Go.ChangeAt Go.RowKit
open Go.ChangeMaps (open_string shut_string)
set_option linter.unusedSimpArgs false
set_option linter.unusedVariables false

def appliesR6 (l : List V) (k : Nat) (hlt : k < l.length) (b2 o2 c2 g8 : Nat) : List Spec := [.is (.slice (some ⟨b2, o2, none⟩) l.length c2),
  .is (.int .i64 k),
  .is (.pointer (some ⟨b2, o2 + k * 2, none⟩)),
  .is (.agg #[.int .i64 l[k].k, .int .u64 l[k].b]),
  .is (.agg #[.int .i64 l[k].k, .int .u64 l[k].b]),
  .is (.agg #[.int .i64 l[k].k, .int .u64 l[k].b]),
  .is (.bool false)]
theorem infoAV : (Try.prog.info? 27).map (fun i => (i.zero, i.size, i.bytes)) = some (some (.agg #[.int .i64 0, .int .u64 0]), 2, 16) := by kernel_rfl
theorem Rd.cut {w : World} {B : Nat} {A : Option Addr} {xs ys : List Value} (h : Rd w B A (xs ++ ys)) : Rd w B A xs := by
  rcases h with h | ⟨b, o, hA, hb, hc⟩
  · exact .inl (List.append_eq_nil_iff.1 h).1
  · exact .inr ⟨b, o, hA, hb, fun j u hu => hc j u (by rw [List.getElem?_append_left (List.getElem?_eq_some_iff.1 hu).1]; exact hu)⟩
set_option maxRecDepth 100000 in
set_option maxHeartbeats 4000000 in
theorem walk (op : Int) (l : List V) (A : Option Addr) (c : Nat) (w : World) (hr : Rd w w.heap.size A (l.flatMap V.cells)) (hq : ∀ x ∈ l, x.fits) (hl : l.length * 16 ≤ 140737488351232) :
    Calls Try.prog 5 #[.int .i64 op, .slice A l.length c] w fun e w' => e = .returned (.bool true) ∧ Below w.heap.size w w' := by
  obtain ⟨iV, hV, hV0, hV1, hV2⟩ := info_parts infoAV
  have HQ := Lib.hid hq
  clear hq
  have hl9 : l.length ≤ 8796093021952 := by omega
  have hr0 := hr
  go_enter Try.func5, Try.ntmps5
  go_wp2_with fail
  refine (all_any l A c _ hr hl).mono ?_
  rintro e w1 ⟨A1, c1, rfl, hown, hb1⟩
  have hz1 := hb1.size
  have hr := hr.below hb1
  go_wp2_with (at_builtin; refine wpList_append_rd rfl _ _ 36 rfl w.heap.size 27 iV _ 2 16 Try.underlying36 hV hV0 hV1 hV2 rfl (by decide) (.slice A1 l.length c1) l.length (l.flatMap V.cells) rfl (hown.alloc _) (w1.heap.size + 1) (some ⟨w1.heap.size, 0, none⟩) 1 1 [.int .i64 71, .int .u64 0] rfl (Rd.lit rfl _ _) rfl ?c2 ?c3 ?c4 ?c5 ?_)
  case c2 => intro u hu; simp at hu; rcases hu with rfl | rfl <;> rfl
  case c3 => unfold maxLen; omega
  case c4 => omega
  case c5 => simp; omega
  intro A2 c2 w2 hown2 hg _
  have hbel : Below w.heap.size w w2 := below_own (hb1.alloc hz1 _) (hown.alloc _) (Nat.le_refl _) hg (by simp; omega)
  have hrw : Rd w2 w2.heap.size A2 (l.flatMap V.cells ++ [.int .i64 71, .int .u64 0]) := own_rd hown2
  have hcap : l.length + 1 ≤ c2 := by
    rcases hown2.2 with ⟨h, hn⟩ | ⟨g, cap, cur, hv, _, _, hn, _⟩
    · omega
    · injection hv with _ _ hv; omega
  clear hg hown hb1 hown2
  obtain ⟨b2, o2, rfl, hb2, hc⟩ := hrw.at_ (j := (l.flatMap V.cells).length) (by simp)
  have hpre : ∀ (j : Nat) (u : Value), (l.flatMap V.cells)[j]? = some u → w2.cell? ⟨b2, o2 + j, none⟩ = some u := fun j u hu => hc j u (by rw [List.getElem?_append_left (List.getElem?_eq_some_iff.1 hu).1]; exact hu)
  have hlast : w2.cell? ⟨b2, o2 + l.length * 2, none⟩ = some (.int .i64 71) := hc _ _ (by rw [List.getElem?_append_right (by rw [flat_len (n := 2) _ (fun _ => rfl)]; omega), flat_len (n := 2) _ (fun _ => rfl), Nat.sub_self]; rfl)
  have hin : Rd w2 w2.heap.size (some ⟨b2, o2, none⟩) (l.flatMap V.cells) := .inr ⟨b2, o2, rfl, hb2, hpre⟩
  have HPRE := Lib.hid hin
  have hr2 : Rd w2 w.heap.size A (l.flatMap V.cells) := hr0.below hbel
  clear hc hpre hrw hin hr
  have hz2 := hbel.size
  have hcap' : (l.length : Int) ≤ (c2 : Int) := by omega
  go_wp2_with fail
  refine (apply_any op l (some ⟨b2, o2, none⟩) c2 _ HPRE.out HQ.out hl).mono ?_
  rintro e w3 ⟨rfl, hb3⟩
  have hin := (HPRE.out.below hb3).more hb3.size
  have hlast : w3.cell? ⟨b2, o2 + l.length * 2, none⟩ = some (.int .i64 71) := (bcell hb3 _ _ hb2).trans hlast
  have hr3 := hr2.below (hb3.mono hz2)
  have hbel := hbel.trans (hb3.mono hz2)
  have hb23 : b2 < w3.heap.size := by have := hb3.size; omega
  clear hb3 HPRE hr2 hz2 hb2
  have hz := hbel.size
  have hR := apply_fits op l HQ.out
  generalize hRe : applyV op l = R at *
  have HRE := Lib.hid hRe
  clear hRe
  simp only [V.v]
  go_wp2_with fail
  refine wp_abs (fun W => Below w.heap.size w W ∧ Below w3.heap.size w3 W ∧ Bk W w3.heap.size 27 #[.int .i64 R.k, .int .u64 R.b]) ?_ ?_
  · exact ⟨hbel.alloc hz _, (Below.refl _ _).alloc (Nat.le_refl _) _, Bk.newAt rfl _ _⟩
  rintro W ⟨hbW, hb3, k6⟩
  have hin := hin.below hb3
  have hlast : W.cell? ⟨b2, o2 + l.length * 2, none⟩ = some (.int .i64 71) := (bcell hb3 _ _ hb23).trans hlast
  have hr3 := hr3.below (hb3.mono hz)
  have hb2W : b2 < W.heap.size := by have := hb3.size; omega
  have hinW : Rd W W.heap.size (some ⟨b2, o2, none⟩) (l.flatMap V.cells) := hin.more hb3.size
  have hzW := hbW.size
  generalize w3.heap.size = g6 at *
  have HLAST := Lib.hid hlast
  clear hbel hb3 hin hz hb23 hlast
  go_loopw [22] (fun i wr => ∃ (k : Nat), k ≤ l.length ∧ i = .int .i64 k ∧ Below W.heap.size W wr) (fun i _ => l.length - (intOf i).toNat)
  case atStart => exact ⟨0, Nat.zero_le _, rfl, Below.refl _ _⟩
  case round =>
    obtain ⟨k, hk, rfl, hbel⟩ := hrel
    by_cases hlt : k < l.length
    · obtain ⟨b, o, rfl, hb, hc⟩ := ((hr3.more hzW).below hbel).elem (f := V.cells) (n := 2) (fun _ => rfl) (by omega) hlt
      have hc0 : wr.cell? ⟨b, o + k * 2, none⟩ = some (.int .i64 l[k].k) := hc 0 _ rfl
      have hc1 : wr.cell? ⟨b, o + k * 2 + 1, none⟩ = some (.int .u64 l[k].b) := hc 1 _ rfl
      obtain ⟨b', o', he, _, hc'⟩ := (hinW.below hbel).elem (f := V.cells) (n := 2) (fun _ => rfl) (by omega) hlt
      obtain ⟨rfl, rfl⟩ : b2 = b' ∧ o2 = o' := by injection he with he; injection he with h1 h2; exact ⟨h1, h2⟩
      have ci0 : wr.cell? ⟨b2, o2 + k * 2, none⟩ = some (.int .i64 l[k].k) := hc' 0 _ rfl
      have ci1 : wr.cell? ⟨b2, o2 + k * 2 + 1, none⟩ = some (.int .u64 l[k].b) := hc' 1 _ rfl
      have hb2r : b2 < wr.heap.size := World.block_lt_of_cell? _ _ ci0
      have hzr := hbel.size
      have hk0 : (0 : Int) ≤ (k : Int) := by omega
      have hk1 : (k : Int) < (l.length : Int) := by omega
      clear hc hc' he
      go_wp2_with fail
      refine wp_abs (fun W2 => Below W.heap.size W W2 ∧ Below wr.heap.size wr W2 ∧ Bk W2 wr.heap.size 24 #[.int .i64 l[k].k, .int .u64 l[k].b]) ?_ ?_
      · exact ⟨hbel.alloc hzr _, (Below.refl _ _).alloc (Nat.le_refl _) _, Bk.newAt rfl _ _⟩
      rintro W2 ⟨hbel2, hbr, k8⟩
      have ci0 := (bcell hbr _ _ hb2r).trans ci0
      have ci1 := (bcell hbr _ _ hb2r).trans ci1
      generalize wr.heap.size = g8 at *
      clear hbr hc0 hc1 hbel hb2r hzr
      have ⟨c80, c81, _, _⟩ := vcells k8
      refine wp_region_b (by kernel_rfl) (fun qk => (appliesR6 l k hlt b2 o2 c2 g8).getD qk .any) (by kernel_rfl) ?_ ?_
      · refine BOk.cons rfl [] [5] rfl rfl (by kernel_rfl) (by kernel_rfl) (fun qK qa wr hB qO qF hK => ?_) ?_
        · have e5 : qa.tmps[5]? = some (.slice (some ⟨b2, o2, none⟩) l.length c2) := qO.1.trans rfl
          clear qO qF
          go_simp
          exact hK _ _ (Below.refl _ _) rfl
        refine BOk.cons rfl [] [7] rfl rfl (by kernel_rfl) (by kernel_rfl) (fun qK qa wr hB qO qF hK => ?_) ?_
        · have e7 : qa.tmps[7]? = some (.int .i64 k) := qO.1.trans rfl
          clear qO qF
          go_simp
          exact hK _ _ (Below.refl _ _) rfl
        refine BOk.cons rfl [0, 1] [] rfl rfl (by kernel_rfl) (by kernel_rfl) (fun qK qa wr hB qO qF hK => ?_) ?_
        · obtain ⟨u27, e27, r0⟩ := qF.1
          have e27 : qa.tmps[27]? = some (.slice (some ⟨b2, o2, none⟩) l.length c2) := (show u27 = .slice (some ⟨b2, o2, none⟩) l.length c2 from r0) ▸ e27
          clear r0
          obtain ⟨u28, e28, r1⟩ := qF.2.1
          have e28 : qa.tmps[28]? = some (.int .i64 k) := (show u28 = .int .i64 k from r1) ▸ e28
          clear r1
          clear qO qF
          go_simp
          exact hK _ _ (Below.refl _ _) rfl
        refine BOk.cons rfl [2] [] rfl rfl (by kernel_rfl) (by kernel_rfl) (fun qK qa wr hB qO qF hK => ?_) ?_
        · obtain ⟨u29, e29, r2⟩ := qF.1
          have e29 : qa.tmps[29]? = some (.pointer (some ⟨b2, o2 + k * 2, none⟩)) := (show u29 = .pointer (some ⟨b2, o2 + k * 2, none⟩) from r2) ▸ e29
          clear r2
          clear qO qF
          have hci0 := (bcell hB _ _ (World.block_lt_of_cell? _ _ ci0)).trans ci0
          have hci1 := (bcell hB _ _ (World.block_lt_of_cell? _ _ ci1)).trans ci1
          go_simp
          exact hK _ _ (Below.refl _ _) rfl
        refine BOk.cons rfl [3] [] rfl rfl (by kernel_rfl) (by kernel_rfl) (fun qK qa wr hB qO qF hK => ?_) ?_
        · obtain ⟨u30, e30, r3⟩ := qF.1
          have e30 : qa.tmps[30]? = some (.agg #[.int .i64 l[k].k, .int .u64 l[k].b]) := (show u30 = .agg #[.int .i64 l[k].k, .int .u64 l[k].b] from r3) ▸ e30
          clear r3
          clear qO qF
          go_simp
          go_at_call 14
          refine (of_any l[k] _).mono ?_
          rintro e w2 ⟨rfl, hb2⟩
          exact hK _ _ hb2 rfl
        refine BOk.cons rfl [] [8] rfl rfl (by kernel_rfl) (by kernel_rfl) (fun qK qa wr hB qO qF hK => ?_) ?_
        · have e8 : qa.tmps[8]? = some (.pointer (some ⟨g8, 0, none⟩)) := qO.1.trans rfl
          clear qO qF
          have hc80 := (bcell hB _ _ (World.block_lt_of_cell? _ _ c80)).trans c80
          have hc81 := (bcell hB _ _ (World.block_lt_of_cell? _ _ c81)).trans c81
          go_simp
          exact hK _ _ (Below.refl _ _) rfl
        refine BOk.cons rfl [4, 5] [] rfl rfl (by kernel_rfl) (by kernel_rfl) (fun qK qa wr hB qO qF hK => ?_) ?_
        · obtain ⟨u31, e31, r4⟩ := qF.1
          have e31 : qa.tmps[31]? = some (.agg #[.int .i64 l[k].k, .int .u64 l[k].b]) := (show u31 = .agg #[.int .i64 l[k].k, .int .u64 l[k].b] from r4) ▸ e31
          clear r4
          obtain ⟨u32, e32, r5⟩ := qF.2.1
          have e32 : qa.tmps[32]? = some (.agg #[.int .i64 l[k].k, .int .u64 l[k].b]) := (show u32 = .agg #[.int .i64 l[k].k, .int .u64 l[k].b] from r5) ▸ e32
          clear r5
          clear qO qF
          go_simp
          refine hK _ _ (Below.refl _ _) ?_
          show (_ : Value) = _
          first | rfl | (simp; done) | (simp; omega)
        exact BOk.nil
      intro vals wr hl hB hR
      match vals, hl with
      | [z27, z28, z29, z30, z31, z32, z33], _ =>
      have r6 : z33 = .bool false := hR 6 _ rfl
      subst r6
      clear hR
      simp only [List.cons_append, List.nil_append, putAll, Act.put, List.setIfInBounds_toArray, List.set_cons_zero, List.set_cons_succ]
      have hbel2 := hbel2.trans (hB.mono hbel2.size)
      clear hB ci0 ci1 c80 c81 k8
      go_wp2_with fail
      go_roundw
      case rel => exact ⟨k + 1, by omega, by go_num, hbel2⟩
      case measure => simp [intOf]; omega
    · obtain rfl : k = l.length := by omega
      clear hlt hk
      have k6 := k6.below hbel k6.lt
      have hlast : wr.cell? ⟨b2, o2 + l.length * 2, none⟩ = some (.int .i64 71) := (bcell hbel _ _ hb2W).trans HLAST.out
      have hr4 := hr3.below (hbel.mono hzW)
      have hbw := hbW.trans (hbel.mono hzW)
      have hb2r : b2 < wr.heap.size := World.block_lt_of_cell? _ _ hlast
      have HL2 := Lib.hid hlast
      clear hlast
      go_wp2_with fail
      refine (awake_any _).mono ?_
      rintro e w4 ⟨rfl, hb4⟩
      have k6 := k6.old hb4
      have hz4 := hbw.size
      have hlast : w4.cell? ⟨b2, o2 + l.length * 2, none⟩ = some (.int .i64 71) := (bcell hb4 _ _ hb2r).trans HL2.out
      have hr4 := hr4.below (hb4.mono hz4)
      have hbw := hbw.trans (hb4.mono hz4)
      have hb2r : b2 < w4.heap.size := by have := hb4.size; omega
      have HL3 := Lib.hid hlast
      clear hlast HL2 hb4 hz4
      have ⟨c60, c61, _, _⟩ := vcells k6
      have hz4 := hbw.size
      go_wp2_with fail
      refine (of_any R _).mono ?_
      rintro e w5 ⟨rfl, hb5⟩
      have hlast : w5.cell? ⟨b2, o2 + l.length * 2, none⟩ = some (.int .i64 71) := (bcell hb5 _ _ hb2r).trans HL3.out
      have hr5 := hr4.below (hb5.mono hz4)
      have hbw := hbw.trans (hb5.mono hz4)
      have hb2r : b2 < w5.heap.size := by have := hb5.size; omega
      have HL4 := Lib.hid hlast
      clear hlast HL3 hb5 hz4 c60 c61 k6
      simp only [V.v]
      have hz5 := hbw.size
      go_wp2_with fail
      have ha := rapply_any op l A c w5 (hr5.more hz5) HQ.out hl
      rw [HRE.out] at ha
      refine ha.mono ?_
      rintro e w6 ⟨rfl, hb6⟩
      have hlast : w6.cell? ⟨b2, o2 + l.length * 2, none⟩ = some (.int .i64 71) := (bcell hb6 _ _ hb2r).trans HL4.out
      have hbw := hbw.trans (hb6.mono hz5)
      clear ha hb6 hz5 HL4
      simp only [V.v]
      have hs1 : IntKind.i64.wrap ((l.length : Int) + 1) = (l.length : Int) + 1 := IntWalk.i64_in _ (by omega)
      have hs2 : (l.length : Int) + 1 ≤ (c2 : Int) := by omega
      go_wp2_with fail
      go_ret
      exact ⟨by simp, hbw⟩

theorem own : ownKnob Try.prog.godebug = none := by kernel_rfl
theorem laidOut : laidOutB Try.prog = true := by kernel_rfl
theorem rec0 : (Try.f5.params.toList.all fun t => Try.prog.readableRec t && decide (t < Try.prog.types.size)) = true := by kernel_rfl
set_option maxRecDepth 100000 in
theorem lifted (os : Os) (started : os.Started) (H : Type) (enc : TypeId × Value → H) :
    ReturnsInHanded {} Try.checked os 5 .any (Rows.valueAppliesSpec.pre6 enc Try.prog Try.f5 Rows.valueAppliesRow.domain false) (Rows.valueAppliesSpec.post enc Try.prog Try.f5 false true false false) := by
  refine law_step (C := Try.checked) (tb := 4) own started (by kernel_rfl) Try.func5
    (ChangeSpec.witness6 (enc := enc) (C := Try.checked) false ⟨#[], #[.int .i64 0, .slice none 0 0], []⟩ 8 (by kernel_rfl) (by kernel_rfl) (by kernel_rfl) (by kernel_rfl)) laidOut ?_ rfl Try.underlying4 rfl ?_ ?_
  · intro t ht
    have := List.all_eq_true.1 rec0 t ht
    simp only [Bool.and_eq_true, decide_eq_true_eq] at this
    exact this
  · intro ds hd
    match ds, hd with
    | [d0, d1], _ => exact ⟨rfl, rfl, rfl⟩
  intro W base args ds p hval hA hsz
  rw [Try.params5] at hA hval hsz
  obtain ⟨v0, vs0, d0, ds0, p0, q0, hargs, rfl, rfl, h0, r0⟩ := trodAll_cons hA
  obtain ⟨v1, vs1, d1, ds1, p1, q1, rfl, rfl, rfl, h1, r1⟩ := trodAll_cons r0
  obtain ⟨rfl, rfl, rfl⟩ := trodAll_nil r1
  obtain rfl : args = #[v0, v1] := by cases args; simp_all
  obtain ⟨n0, rfl, _, _, hn0⟩ := open_int Try.underlying3 (hval 0 3 v0 rfl rfl) h0
  obtain ⟨A1, c1, l1, rfl, hl1, hr1, hq1⟩ := open_vs (hval 1 35 v1 rfl rfl) h1 (weights_each (i := 1) hsz rfl rfl)
  exact walk n0 l1 A1 c1 W hr1 hq1 hl1

theorem valueApplies_holds : Rows.ValueAppliesSaid :=
  OpenClaim.holds_of_wide 5 Try.f5 rfl rfl rfl rfl rfl rfl rfl ⟨rfl, rfl, rfl, rfl, rfl⟩ rfl rfl rfl rfl rfl (by kernel_rfl) Try.func5 (by kernel_rfl)
    (of_decide_eq_true (by kernel_rfl)) (by unfold Func.isWrapper; first | (rw [if_pos (by decide +kernel)]; kernel_rfl) | (rw [if_neg (by decide +kernel)]; exact ⟨rfl, rfl⟩))
    (fun os started H enc _ => lifted os started H enc)
#print axioms valueApplies_holds
end Go.Proofs.Ytlejjchaooeabaa.valueApplies
