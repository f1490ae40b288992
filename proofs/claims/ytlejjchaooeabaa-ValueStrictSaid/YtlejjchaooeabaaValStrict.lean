/- ValueStrict holds. No conditions. -/
import Derived.Test.YtlejjchaooeabaaValJ
import Derived.Deep.RegionHeld3
namespace Go.Proofs.Ytlejjchaooeabaa.valueStrict
open Go.ChangeShapes Go.WideShapes Go.ChangeAt Go.RowKit
open Go.ChangeMaps (open_string shut_string)
set_option linter.unusedSimpArgs false
set_option linter.unusedVariables false

theorem two_zero (op : Int) : twoK op 0 = 0 := by unfold twoK; repeat' split <;> omega
theorem one_zero (op : Int) : oneK op 0 = 0 := by unfold oneK; repeat' split <;> omega
theorem strict_left (op : Int) (h : ¬ (op = 13 ∨ op = 14)) (x : V) : applyV op [none0, x] = none0 := by
  have hr : resK op ([none0, x].map fun x => (clean x).k) = 0 := by
    show (if (clean none0).k = (clean x).k then twoK op (clean none0).k else 0) = 0
    rw [clean_none0, show none0.k = 0 from rfl, two_zero]; split <;> rfl
  rw [show applyV op [none0, x] = (restV op [none0, x]).getD none0 from if_neg h, rest_none hr]; rfl
theorem strict_right (op : Int) (h : ¬ (op = 13 ∨ op = 14)) (x : V) : applyV op [x, none0] = none0 := by
  have hr : resK op ([x, none0].map fun x => (clean x).k) = 0 := by
    show (if (clean x).k = (clean none0).k then twoK op (clean x).k else 0) = 0
    rw [clean_none0, show none0.k = 0 from rfl]
    split
    · rename_i e; rw [e, two_zero]
    · rfl
  rw [show applyV op [x, none0] = (restV op [x, none0]).getD none0 from if_neg h, rest_none hr]; rfl
theorem strict_one (op : Int) : applyV op [none0] = none0 := by
  have hr : resK op ([none0].map fun x => (clean x).k) = 0 := by
    show oneK op (clean none0).k = 0
    rw [clean_none0, show none0.k = 0 from rfl, one_zero]
  rw [show applyV op [none0] = (restV op [none0]).getD none0 from rfl, rest_none hr]; rfl
theorem strict_nil (op : Int) : applyV op [] = none0 := rfl
theorem strict_logic (op : Int) (h : op = 13 ∨ op = 14) : applyV op [none0, none0] = none0 := by
  rw [show applyV op [none0, none0] = (logicV op none0 none0).getD none0 from if_pos h]
  have ht : truthI none0 = 0 := by unfold truthI; rw [clean_none0]; rfl
  have : logicV op none0 none0 = none := by unfold logicV; rw [ht]; split <;> rfl
  rw [this]; rfl

theorem walk (op : Int) (x : V) (hx : x.fits) (first : Bool) (w : World) :
    Calls Try.prog 8 #[.int .i64 op, x.v, .bool first] w fun e w' => e = .returned (.bool true) ∧ Below w.heap.size w w' := by
  unfold V.v
  have hbW := (Below.refl w.heap.size w).alloc (Nat.le_refl _) (.cells #[.int .i64 x.k, .int .u64 x.b] 24)
  by_cases hop : op = 13 ∨ op = 14
  · have hd := do2 op none0 none0 fits0 fits0
    simp only [strict_logic op hop] at hd
    rcases hop with rfl | rfl
    all_goals go_enter Try.func8, Try.ntmps8
    all_goals go_wp2_with fail
    all_goals refine (awake_any _).mono ?_
    all_goals rintro e w1 ⟨rfl, hb1⟩
    all_goals have hbel := hbW.trans (hb1.mono hbW.size)
    all_goals go_wp2_with fail
    all_goals refine (hd _).mono ?_
    all_goals rintro e w2 ⟨rfl, hb2⟩
    all_goals have hbel : Below w.heap.size w w2 := hbel.trans (hb2.mono hbel.size)
    all_goals simp only [none0]
    all_goals go_wp2
    all_goals go_ret
    all_goals exact ⟨by simp, hbel⟩
  · have h13 : (op == 13) = false := by rw [beq_eq_false_iff_ne]; omega
    have h14 : (op == 14) = false := by rw [beq_eq_false_iff_ne]; omega
    cases first
    · have hd1 := do2 op x none0 hx fits0
      have hd2 := do0 op
      simp only [strict_right op hop] at hd1
      simp only [strict_nil op] at hd2
      clear hop
      go_enter Try.func8, Try.ntmps8
      go_wp2_with fail
      refine (awake_any _).mono ?_
      rintro e w1 ⟨rfl, hb1⟩
      obtain ⟨c0, c1, f0, f1⟩ := vcells ((Bk.new w 24 #[.int .i64 x.k, .int .u64 x.b]).old hb1)
      have hbel := hbW.trans (hb1.mono hbW.size)
      go_wp2_with fail
      refine (hd1 _).mono ?_
      rintro e w2 ⟨rfl, hb2⟩
      have hbel : Below w.heap.size w w2 := hbel.trans (hb2.mono hbel.size)
      simp only [none0]
      clear c0 c1 f0 f1
      go_wp2_with fail
      refine (hd2 _).mono ?_
      rintro e w3 ⟨rfl, hb3⟩
      have hbel := hbel.trans (hb3.mono hbel.size)
      simp only [none0]
      go_wp2
      go_ret
      exact ⟨by simp, hbel⟩
    · have hd1 := do2 op none0 x fits0 hx
      have hd2 := do1 op none0 fits0
      simp only [strict_left op hop] at hd1
      simp only [strict_one op] at hd2
      clear hop
      go_enter Try.func8, Try.ntmps8
      go_wp2_with fail
      refine (awake_any _).mono ?_
      rintro e w1 ⟨rfl, hb1⟩
      obtain ⟨c0, c1, f0, f1⟩ := vcells ((Bk.new w 24 #[.int .i64 x.k, .int .u64 x.b]).old hb1)
      have hbel := hbW.trans (hb1.mono hbW.size)
      go_wp2_with fail
      refine (hd1 _).mono ?_
      rintro e w2 ⟨rfl, hb2⟩
      have hbel : Below w.heap.size w w2 := hbel.trans (hb2.mono hbel.size)
      simp only [none0]
      clear c0 c1 f0 f1
      go_wp2_with fail
      refine (hd2 _).mono ?_
      rintro e w3 ⟨rfl, hb3⟩
      have hbel : Below w.heap.size w w3 := hbel.trans (hb3.mono hbel.size)
      simp only [none0]
      go_wp2
      go_ret
      exact ⟨by simp, hbel⟩

theorem own : ownKnob Try.prog.godebug = none := by kernel_rfl
theorem laidOut : laidOutB Try.prog = true := by kernel_rfl
theorem rec0 : (Try.f8.params.toList.all fun t => Try.prog.readableRec t && decide (t < Try.prog.types.size)) = true := by kernel_rfl
set_option maxRecDepth 100000 in
theorem lifted (os : Os) (started : os.Started) (H : Type) (enc : TypeId × Value → H) :
    ReturnsInHanded {} Try.checked os 8 .any (Rows.valueStrictSpec.pre6 enc Try.prog Try.f8 Rows.valueStrictRow.domain false) (Rows.valueStrictSpec.post enc Try.prog Try.f8 false true false false) := by
  refine law_step (C := Try.checked) (tb := 4) own started (by kernel_rfl) Try.func8
    (ChangeSpec.witness6 (enc := enc) (C := Try.checked) false ⟨#[], #[.int .i64 0, .agg #[.int .i64 0, .int .u64 0], .bool false], []⟩ 8 (by kernel_rfl) (by kernel_rfl) (by kernel_rfl) (by kernel_rfl)) laidOut ?_ rfl Try.underlying4 rfl ?_ ?_
  · intro t ht
    have := List.all_eq_true.1 rec0 t ht
    simp only [Bool.and_eq_true, decide_eq_true_eq] at this
    exact this
  · intro ds hd
    match ds, hd with
    | [d0, d1, d2], _ => exact ⟨rfl, rfl, rfl⟩
  intro W base args ds p hval hA hsz
  rw [Try.params8] at hA hval hsz
  obtain ⟨v0, vs0, d0, ds0, p0, q0, hargs, rfl, rfl, h0, r0⟩ := trodAll_cons hA
  obtain ⟨v1, vs1, d1, ds1, p1, q1, rfl, rfl, rfl, h1, r1⟩ := trodAll_cons r0
  obtain ⟨v2, vs2, d2, ds2, p2, q2, rfl, rfl, rfl, h2, r2⟩ := trodAll_cons r1
  obtain ⟨rfl, rfl, rfl⟩ := trodAll_nil r2
  obtain rfl : args = #[v0, v1, v2] := by cases args; simp_all
  obtain ⟨n0, rfl, _, _, hn0⟩ := open_int Try.underlying3 (hval 0 3 v0 rfl rfl) h0
  obtain ⟨x1, rfl, hx1⟩ := open_v (hval 1 24 v1 rfl rfl) h1 (weights_each (i := 1) hsz rfl rfl)
  obtain ⟨b2, rfl, _, _⟩ := open_bool Try.underlying4 (hval 2 4 v2 rfl rfl) h2
  exact walk n0 x1 hx1 b2 W 

theorem valueStrict_holds : Rows.ValueStrictSaid :=
  OpenClaim.holds_of_wide 8 Try.f8 rfl rfl rfl rfl rfl rfl rfl ⟨rfl, rfl, rfl, rfl, rfl⟩ rfl rfl rfl rfl rfl (by kernel_rfl) Try.func8 (by kernel_rfl)
    (of_decide_eq_true (by kernel_rfl)) (by unfold Func.isWrapper; first | (rw [if_pos (by decide +kernel)]; kernel_rfl) | (rw [if_neg (by decide +kernel)]; exact ⟨rfl, rfl⟩))
    (fun os started H enc _ => lifted os started H enc)
#print axioms valueStrict_holds
end Go.Proofs.Ytlejjchaooeabaa.valueStrict
