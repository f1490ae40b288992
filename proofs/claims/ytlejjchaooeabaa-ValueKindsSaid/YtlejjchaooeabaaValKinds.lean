/- ValueKinds holds. No conditions. -/
import Derived.Test.YtlejjchaooeabaaValN
namespace Go.Proofs.Ytlejjchaooeabaa.valueKinds
open Go.ChangeShapes Go.WideShapes Go.ChangeAt Go.RowKit
open Go.ChangeMaps (open_string shut_string)
set_option linter.unusedSimpArgs false
set_option linter.unusedVariables false

theorem infoI' : (Try.prog.info? 3).map (fun i => (i.zero, i.size, i.bytes)) = some (some (.int .i64 0), 1, 8) := by kernel_rfl
def kindsR11 (R : V) (g9 : Nat) : List Spec := [.is (.agg #[.int .i64 R.k, .int .u64 R.b]),
  .is (.agg #[.int .i64 R.k, .int .u64 R.b]),
  .is (.agg #[.int .i64 R.k, .int .u64 R.b]),
  .is (.bool false)]
set_option maxHeartbeats 2000000 in
theorem walk (op : Int) (l : List V) (A : Option Addr) (c : Nat) (w : World) (hr : Rd w w.heap.size A (l.flatMap V.cells)) (hq : ∀ x ∈ l, x.fits) (hl : l.length * 16 ≤ 140737488351232) :
    Calls Try.prog 6 #[.int .i64 op, .slice A l.length c] w fun e w' => e = .returned (.bool true) ∧ Below w.heap.size w w' := by
  obtain ⟨iI, hI, hI0, hI1, hI2⟩ := info_parts infoI'
  have HQ := Lib.hid hq
  clear hq
  go_enter Try.func6, Try.ntmps6
  go_wp2_with fail
  refine (awake_any _).mono ?_
  rintro e w1 ⟨rfl, hb1⟩
  have hr := hr.below hb1
  have hz1 := hb1.size
  go_wp2_with fail
  go_loopw [5, 14] (fun ks i wr => ∃ (k : Nat) (Av : Option Addr) (cv : Nat), k ≤ l.length ∧ i = .int .i64 k ∧ ks = .slice Av k cv ∧ Below w.heap.size w1 wr ∧
      wr.ownsRow w.heap.size 3 1 ks k (kcells ((l.map fun x => (clean x).k).take k))) (fun _ i _ => l.length - (intOf i).toNat)
  case atStart => exact ⟨0, none, 0, Nat.zero_le _, rfl, rfl, Below.refl _ _, World.ownsRow_nil _ _ _ _⟩
  case round =>
    obtain ⟨k, Av, cv, hk, rfl, rfl, hbel, hown⟩ := hrel
    by_cases hlt : k < l.length
    · obtain ⟨b, o, rfl, hb, hc⟩ := (hr.below hbel).elem (f := V.cells) (n := 2) (fun _ => rfl) (by omega) hlt
      have hc0 : wr.cell? ⟨b, o + k * 2, none⟩ = some (.int .i64 l[k].k) := hc 0 _ rfl
      have hc1 : wr.cell? ⟨b, o + k * 2 + 1, none⟩ = some (.int .u64 l[k].b) := hc 1 _ rfl
      clear hc
      go_wp2_with fail
      refine (to_any l[k] _).mono ?_
      rintro e w2 ⟨rfl, hb2⟩
      have hown := own_old (hown.alloc _) hb2
      have hbel : Below w.heap.size w1 w2 := (hbel.alloc (by have := hbel.size; omega) _).trans (hb2.mono (by have := hbel.size; simp; omega))
      clear hb2 hc0 hc1
      go_wp2_with fail
      refine (pclean_any l[k] (HQ.out _ (by simp)) _).mono ?_
      rintro e w3 ⟨rfl, hb3⟩
      have hown := own_old hown hb3
      have hbel : Below w.heap.size w1 w3 := hbel.trans (hb3.mono (by have := hbel.size; omega))
      have hz := hbel.size
      clear hb3
      simp only [V.v]
      go_wp2_with (at_builtin; refine wpList_append_rd rfl _ _ 32 rfl w.heap.size 3 iI _ 1 8 Try.underlying32 hI hI0 hI1 hI2 rfl (by decide) (.slice Av k cv) k _ rfl (hown.alloc _) (w3.heap.size + 1) (some ⟨w3.heap.size, 0, none⟩) 1 1 [.int .i64 (clean l[k]).k] rfl (Rd.lit rfl _ _) rfl ?c2 ?c3 ?c4 ?c5 ?_)
      case c2 => intro u hu; simp at hu; subst hu; rfl
      case c3 => unfold maxLen; omega
      case c4 => omega
      case c5 => simp; omega
      intro A2 c2 w4 hown2 hg _
      have hbel2 : Below w.heap.size w1 w4 := below_own (hbel.alloc (by omega) _) (hown.alloc _) (Nat.le_refl _) hg (by simp; omega)
      clear hg hown
      have e2 : kcells ((l.map fun x => (clean x).k).take k) ++ [.int .i64 (clean l[k]).k] = kcells ((l.map fun x => (clean x).k).take (k + 1)) := by
        rw [List.take_succ_eq_append_getElem (by simpa using hlt), List.getElem_map]; unfold kcells; rw [List.map_append]; rfl
      rw [e2] at hown2
      clear e2
      go_wp2
      go_roundw
      case rel => exact ⟨k + 1, A2, c2, by omega, by go_num, rfl, hbel2, hown2⟩
      case measure => simp [intOf]; omega
    · obtain rfl : k = l.length := by omega
      rw [List.take_of_length_le (by simp)] at hown
      have hz := hbel.size
      have hbel : Below w.heap.size w wr := hb1.trans hbel
      clear hb1
      have e1 := result_any op (l.map fun x => (clean x).k) Av cv wr (by simp; omega) (own_rd hown)
      rw [List.length_map] at e1
      have hr := hr.below (show Below w.heap.size w1 wr by assumption)
      clear hown
      go_wp2_with fail
      refine e1.mono ?_
      rintro e w2 ⟨rfl, hb2⟩
      clear e1
      have hr := hr.below (hb2.mono (by omega))
      have hbel := hbel.trans (hb2.mono (by omega))
      clear hb2
      go_wp2_with fail
      have hz := hbel.size
      refine (all_any l A c _ (hr.more hz) hl).mono ?_
      rintro e w3 ⟨A', c', rfl, hown, hb3⟩
      have hbel := hbel.trans (hb3.mono hz)
      have hrd := own_rd hown
      clear hb3 hown
      have hz := hbel.size
      go_wp2_with fail
      refine (apply_any op l A' c' _ hrd HQ.out hl).mono ?_
      rintro e w4 ⟨rfl, hb4⟩
      have hbel := hbel.trans (hb4.mono hz)
      clear hb4 hrd hr
      have hz := hbel.size
      have hR := apply_fits op l HQ.out
      have hRc := apply_clean op l
      have hk1 := @apply_kind_logic op l
      have hk2 := @apply_kind op l
      generalize applyV op l = R at *
      generalize hK : resK op (l.map fun x => (clean x).k) = K at *
      have HRC := Lib.hid hRc
      have HK1 := Lib.hid hk1
      have HK2 := Lib.hid hk2
      clear hRc hk1 hk2 hK HQ
      simp only [V.v]
      go_wp2_with fail
      refine wp_abs (fun W => Below w.heap.size w W ∧ Bk W w4.heap.size 27 #[.int .i64 R.k, .int .u64 R.b]) ?_ ?_
      · exact ⟨hbel.alloc hz _, Bk.newAt rfl _ _⟩
      rintro W ⟨hbW, k9⟩
      generalize w4.heap.size = g9 at *
      clear hbel hz
      have ⟨c90, c91, _, _⟩ := vcells k9
      have hRc := HRC.out
      refine wp_region_b (by kernel_rfl) (fun k => (kindsR11 R g9).getD k .any) (by kernel_rfl) ?_ ?_
      · refine BOk.cons rfl [] [9] rfl rfl (by kernel_rfl) (by kernel_rfl) (fun qK qa wr hB qO qF hK => ?_) ?_
        · have e9 : qa.tmps[9]? = some (.pointer (some ⟨g9, 0, none⟩)) := qO.1.trans rfl
          clear qO qF
          have hc90 := (bcell hB _ _ (World.block_lt_of_cell? _ _ c90)).trans c90
          have hc91 := (bcell hB _ _ (World.block_lt_of_cell? _ _ c91)).trans c91
          go_simp
          exact hK _ _ (Below.refl _ _) rfl
        refine BOk.cons rfl [0] [] rfl rfl (by kernel_rfl) (by kernel_rfl) (fun qK qa wr hB qO qF hK => ?_) ?_
        · obtain ⟨u33, e33, r0⟩ := qF.1
          have e33 : qa.tmps[33]? = some (.agg #[.int .i64 R.k, .int .u64 R.b]) := (show u33 = .agg #[.int .i64 R.k, .int .u64 R.b] from r0) ▸ e33
          clear r0
          clear qO qF
          go_simp
          go_at_call 15
          refine (pclean_any R hR _).mono ?_
          rintro e w2 ⟨rfl, hb2⟩
          rw [hRc]
          exact hK _ _ hb2 rfl
        refine BOk.cons rfl [] [9] rfl rfl (by kernel_rfl) (by kernel_rfl) (fun qK qa wr hB qO qF hK => ?_) ?_
        · have e9 : qa.tmps[9]? = some (.pointer (some ⟨g9, 0, none⟩)) := qO.1.trans rfl
          clear qO qF
          have hc90 := (bcell hB _ _ (World.block_lt_of_cell? _ _ c90)).trans c90
          have hc91 := (bcell hB _ _ (World.block_lt_of_cell? _ _ c91)).trans c91
          go_simp
          exact hK _ _ (Below.refl _ _) rfl
        refine BOk.cons rfl [1, 2] [] rfl rfl (by kernel_rfl) (by kernel_rfl) (fun qK qa wr hB qO qF hK => ?_) ?_
        · obtain ⟨u34, e34, r1⟩ := qF.1
          have e34 : qa.tmps[34]? = some (.agg #[.int .i64 R.k, .int .u64 R.b]) := (show u34 = .agg #[.int .i64 R.k, .int .u64 R.b] from r1) ▸ e34
          clear r1
          obtain ⟨u35, e35, r2⟩ := qF.2.1
          have e35 : qa.tmps[35]? = some (.agg #[.int .i64 R.k, .int .u64 R.b]) := (show u35 = .agg #[.int .i64 R.k, .int .u64 R.b] from r2) ▸ e35
          clear r2
          clear qO qF
          go_simp
          exact hK _ _ (Below.refl _ _) (show (_ : Value) = _ from by first | rfl | simp)
        exact BOk.nil
      intro vals wr hl hB hR
      match vals, hl with
      | [x33, x34, x35, x36], _ =>
      have r3 : x36 = .bool false := hR 3 _ rfl
      subst r3
      clear hR
      simp only [putAll, Act.put, List.setIfInBounds_toArray, List.set_cons_zero, List.set_cons_succ]
      have k9 := k9.old hB
      have hbW := hbW.trans (hB.mono hbW.size)
      clear hB c90 c91 hRc
      have ⟨c90, c91, _, _⟩ := vcells k9
      by_cases hop : (op = 13 ∨ op = 14) ∧ l.length = 2
      · have h2 : ((l.length : Int) == 2) = true := by rw [hop.2]; rfl
        have hk := HK1.out hop
        obtain ⟨hop, _⟩ := hop
        rcases hop with rfl | rfl
        all_goals rcases hk with hk | hk
        all_goals rw [hk] at c90
        all_goals go_wp2_with fail
        all_goals go_ret
        all_goals exact ⟨rfl, hbW⟩
      · have hk := HK2.out hop
        by_cases h13 : op = 13
        · subst h13
          have h2 : ((l.length : Int) == 2) = false := beq_eq_false_iff_ne.2 fun h => hop ⟨.inl rfl, by exact_mod_cast h⟩
          clear hop
          rcases hk with hk | hk
          all_goals rw [hk] at c90
          all_goals go_wp2_with fail
          all_goals go_ret
          all_goals exact ⟨by simp, hbW⟩
        by_cases h14 : op = 14
        · subst h14
          have h2 : ((l.length : Int) == 2) = false := beq_eq_false_iff_ne.2 fun h => hop ⟨.inr rfl, by exact_mod_cast h⟩
          clear hop
          rcases hk with hk | hk
          all_goals rw [hk] at c90
          all_goals go_wp2_with fail
          all_goals go_ret
          all_goals exact ⟨by simp, hbW⟩
        have h13 : (op == 13) = false := beq_eq_false_iff_ne.2 h13
        have h14 : (op == 14) = false := beq_eq_false_iff_ne.2 h14
        clear hop
        rcases hk with hk | hk
        all_goals rw [hk] at c90
        all_goals go_wp2_with fail
        all_goals go_ret
        all_goals exact ⟨by simp, hbW⟩

theorem own : ownKnob Try.prog.godebug = none := by kernel_rfl
theorem laidOut : laidOutB Try.prog = true := by kernel_rfl
theorem rec0 : (Try.f6.params.toList.all fun t => Try.prog.readableRec t && decide (t < Try.prog.types.size)) = true := by kernel_rfl
set_option maxRecDepth 100000 in
theorem lifted (os : Os) (started : os.Started) (H : Type) (enc : TypeId × Value → H) :
    ReturnsInHanded {} Try.checked os 6 .any (Rows.valueKindsSpec.pre6 enc Try.prog Try.f6 Rows.valueKindsRow.domain false) (Rows.valueKindsSpec.post enc Try.prog Try.f6 false true false false) := by
  refine law_step (C := Try.checked) (tb := 4) own started (by kernel_rfl) Try.func6
    (ChangeSpec.witness6 (enc := enc) (C := Try.checked) false ⟨#[], #[.int .i64 0, .slice none 0 0], []⟩ 8 (by kernel_rfl) (by kernel_rfl) (by kernel_rfl) (by kernel_rfl)) laidOut ?_ rfl Try.underlying4 rfl ?_ ?_
  · intro t ht
    have := List.all_eq_true.1 rec0 t ht
    simp only [Bool.and_eq_true, decide_eq_true_eq] at this
    exact this
  · intro ds hd
    match ds, hd with
    | [d0, d1], _ => exact ⟨rfl, rfl, rfl⟩
  intro W base args ds p hval hA hsz
  rw [Try.params6] at hA hval hsz
  obtain ⟨v0, vs0, d0, ds0, p0, q0, hargs, rfl, rfl, h0, r0⟩ := trodAll_cons hA
  obtain ⟨v1, vs1, d1, ds1, p1, q1, rfl, rfl, rfl, h1, r1⟩ := trodAll_cons r0
  obtain ⟨rfl, rfl, rfl⟩ := trodAll_nil r1
  obtain rfl : args = #[v0, v1] := by cases args; simp_all
  obtain ⟨n0, rfl, _, _, hn0⟩ := open_int Try.underlying3 (hval 0 3 v0 rfl rfl) h0
  obtain ⟨A1, c1, l1, rfl, hl1, hr1, hq1⟩ := open_vs (hval 1 35 v1 rfl rfl) h1 (weights_each (i := 1) hsz rfl rfl)
  exact walk n0 l1 A1 c1 W hr1 hq1 hl1

theorem valueKinds_holds : Rows.ValueKindsSaid :=
  OpenClaim.holds_of_wide 6 Try.f6 rfl rfl rfl rfl rfl rfl rfl ⟨rfl, rfl, rfl, rfl, rfl⟩ rfl rfl rfl rfl rfl (by kernel_rfl) Try.func6 (by kernel_rfl)
    (of_decide_eq_true (by kernel_rfl)) (by unfold Func.isWrapper; first | (rw [if_pos (by decide +kernel)]; kernel_rfl) | (rw [if_neg (by decide +kernel)]; exact ⟨rfl, rfl⟩))
    (fun os started H enc _ => lifted os started H enc)
#print axioms valueKinds_holds
end Go.Proofs.Ytlejjchaooeabaa.valueKinds
