/- EvalAlls holds of what is of bounded bulk. No conditions. -/
import Derived.Test.YtomhheihhnmbcaaEvRd
namespace Go.Proofs.Ytomhheihhnmbcaa.evalAlls
open Go.ChangeShapes Go.WideShapes Go.ChangeAt Go.RowKit
open Go.ChangeMaps (open_string shut_string)
set_option linter.unusedSimpArgs false
set_option linter.unusedVariables false

def regAlls (A0 A1 A2 : Option Addr) (c0 c1 c2 : Nat) (l0 : List NodeV) (l1 : List EventV) (l2 : List IntsV) (cur : Int) (X : Bool) (W0 : World) : List Spec := [.is (.bool true),
  .is (.bool true),
  .is (.slice A0 l0.length c0),
  .is (.agg #[.slice A1 l1.length c1, .slice A2 l2.length c2, .int .i64 cur]),
  .is (.bool X),
  .is (.slice A0 l0.length c0),
  .is (.slice A1 l1.length c1),
  .is (.pointer (some ⟨W0.heap.size, 0, none⟩)),
  .is (.slice A2 l2.length c2),
  .is (.pointer (some ⟨W0.heap.size, 1, none⟩)),
  .is (.int .i64 cur),
  .is (.bool X),
  .is (.bool true),
  .is (.bool true),
  .is (.bool true),
  .is (.agg #[.slice A1 l1.length c1, .slice A2 l2.length c2, .int .i64 cur]),
  .is (.bool true),
  .is (.bool true),
  .is (.bool true)]

set_option maxRecDepth 100000 in
set_option maxHeartbeats 2000000 in
theorem walk (W0 : World) (D0 : Nat) (A0 : Option Addr) (c0 : Nat) (l0 : List NodeV) (hl0 : l0.length ≤ 1048576) (hr0 : Rd W0 W0.heap.size A0 (l0.flatMap NodeV.cells)) (hq0 : ∀ x ∈ l0, okN D0 x W0 W0.heap.size)
    (A1 : Option Addr) (c1 : Nat) (l1 : List EventV) (hc1 : l1.length ≤ c1) (hl1 : l1.length ≤ 1048576) (hr1 : Rd W0 W0.heap.size A1 (l1.flatMap EventV.cells)) (hq1 : ∀ x ∈ l1, x.ok W0 W0.heap.size)
    (A2 : Option Addr) (c2 : Nat) (l2 : List IntsV) (cur : Int) (hl2 : l2.length ≤ 1048576) (hr2 : Rd W0 W0.heap.size A2 (l2.flatMap IntsV.cells)) (hq2 : ∀ x ∈ l2, x.ok W0 W0.heap.size) :
    Calls Try.prog 6 #[.slice A0 l0.length c0, .slice A1 l1.length c1, .agg #[.slice A2 l2.length c2, .int .i64 cur]] W0 fun e W' => e = .returned (.bool true) ∧ Below W0.heap.size W0 W' := by
  have hok : LookV.ok ⟨A1, c1, l1, A2, c2, l2, cur⟩ W0 W0.heap.size := ⟨hr1, hl1, hq1, hr2, hl2, hq2⟩
  have hb2 := bel2 W0 (.cells #[.slice A2 l2.length c2, .int .i64 cur] 43) (.cells #[.slice A1 l1.length c1, .slice A2 l2.length c2, .int .i64 cur] 28)
  have kp := (Bk.new W0 43 #[.slice A2 l2.length c2, .int .i64 cur]).alloc (.cells #[.slice A1 l1.length c1, .slice A2 l2.length c2, .int .i64 cur] 28)
  have kk := Bk.newAt (w := W0.alloc (.cells #[.slice A2 l2.length c2, .int .i64 cur] 43)) (g := W0.heap.size + 1) (by simp) 28 #[.slice A1 l1.length c1, .slice A2 l2.length c2, .int .i64 cur]
  obtain ⟨X, hX⟩ : ∃ X, (l0.all fun n => isYes (evalN ⟨A1, c1, l1, A2, c2, l2, cur⟩ D0 n)) = X := ⟨_, rfl⟩
  have hp : ∀ w', Below ((W0.alloc (.cells #[.slice A2 l2.length c2, .int .i64 cur] 43)).alloc (.cells #[.slice A1 l1.length c1, .slice A2 l2.length c2, .int .i64 cur] 28)).heap.size ((W0.alloc (.cells #[.slice A2 l2.length c2, .int .i64 cur] 43)).alloc (.cells #[.slice A1 l1.length c1, .slice A2 l2.length c2, .int .i64 cur] 28)) w' → Calls Try.prog 15 #[.slice A0 l0.length c0, .agg #[.slice A1 l1.length c1, .slice A2 l2.length c2, .int .i64 cur]] w' fun e w2 => e = .returned (.bool X) ∧ Below w'.heap.size w' w2 := by
    intro w' hw
    have hw := hb2.trans (hw.mono hb2.size)
    have := pall_any ⟨A1, c1, l1, A2, c2, l2, cur⟩ D0 l0 A0 c0 w' ((hr0.below hw).more hw.size) (by omega) (fun x hx => (hq0 x hx).old hw) (hok.old hw)
    rwa [hX] at this
  have hp0 : ∀ w', Below ((W0.alloc (.cells #[.slice A2 l2.length c2, .int .i64 cur] 43)).alloc (.cells #[.slice A1 l1.length c1, .slice A2 l2.length c2, .int .i64 cur] 28)).heap.size ((W0.alloc (.cells #[.slice A2 l2.length c2, .int .i64 cur] 43)).alloc (.cells #[.slice A1 l1.length c1, .slice A2 l2.length c2, .int .i64 cur] 28)) w' → Calls Try.prog 15 #[.slice none 0 0, .agg #[.slice A1 l1.length c1, .slice A2 l2.length c2, .int .i64 cur]] w' fun e w2 => e = .returned (.bool true) ∧ Below w'.heap.size w' w2 := by
    intro w' hw
    have hw := hb2.trans (hw.mono hb2.size)
    exact pall_any ⟨A1, c1, l1, A2, c2, l2, cur⟩ D0 [] none 0 w' Rd.nil (by simp) (by simp) (hok.old hw)
  have hrr : ∀ w', Below ((W0.alloc (.cells #[.slice A2 l2.length c2, .int .i64 cur] 43)).alloc (.cells #[.slice A1 l1.length c1, .slice A2 l2.length c2, .int .i64 cur] 28)).heap.size ((W0.alloc (.cells #[.slice A2 l2.length c2, .int .i64 cur] 43)).alloc (.cells #[.slice A1 l1.length c1, .slice A2 l2.length c2, .int .i64 cur] 28)) w' → Calls Try.prog 18 #[.slice A0 l0.length c0, .slice A1 l1.length c1, .slice A2 l2.length c2, .int .i64 cur] w' fun e w2 => e = .returned (.bool X) ∧ Below w'.heap.size w' w2 := by
    intro w' hw
    have hw := hb2.trans (hw.mono hb2.size)
    have := rall_any ⟨A1, c1, l1, A2, c2, l2, cur⟩ D0 l0 A0 c0 w' ((hr0.below hw).more hw.size) (by omega) (fun x hx => (hq0 x hx).old hw) (hok.old hw)
    have e : (l0.all fun n => isYes (refN ⟨A1, c1, l1, A2, c2, l2, cur⟩ D0 n)) = X := by rw [← hX]; congr 1; funext n; rw [eval_ref hok]
    rwa [e] at this
  have HP := Lib.hid hp
  have HP0 := Lib.hid hp0
  have HR := Lib.hid hrr
  clear hp hp0 hrr hX hok hr0 hq0 hr1 hq1 hr2 hq2
  have k0 := kk.cell 0
  have k1 := kk.cell 1
  have k2 := kk.cell 2
  have p0 := kp.cell 0
  have p1 := kp.cell 1
  clear kk kp
  go_enter Try.func6, Try.ntmps6
  go_wp2_with fail
  refine wp_region_b (by kernel_rfl) (fun qk => (regAlls A0 A1 A2 c0 c1 c2 l0 l1 l2 cur X W0).getD qk .any) (by kernel_rfl) ?_ ?_
  · refine BOk.cons rfl [] [] rfl rfl (by kernel_rfl) (by kernel_rfl) (fun qK qa wr hB qO qF hK => ?_) ?_
    · clear qO qF
      go_simp
      go_at_call 8
      refine (awake_any _).mono ?_
      rintro e w2 ⟨rfl, hb2⟩
      exact hK _ _ hb2 rfl
    refine BOk.cons rfl [0] [] rfl rfl (by kernel_rfl) (by kernel_rfl) (fun qK qa wr hB qO qF hK => ?_) ?_
    · obtain ⟨u14, e14, r0⟩ := qF.1
      have e14 : qa.tmps[14]? = some (.bool true) := (show u14 = .bool true from r0) ▸ e14
      clear r0
      clear qO qF
      go_simp
      exact hK _ _ (Below.refl _ _) rfl
    refine BOk.yes rfl [] [0] rfl 1 true rfl rfl rfl (by kernel_rfl) (by kernel_rfl) (by kernel_rfl) (fun qK qa wr hB qO qF hK => ?_) ?_
    · have e0 : qa.tmps[0]? = some (.slice A0 l0.length c0) := qO.1.trans rfl
      clear qO qF
      go_simp
      exact hK _ _ (Below.refl _ _) rfl
    refine BOk.yes rfl [] [7] rfl 1 true rfl rfl rfl (by kernel_rfl) (by kernel_rfl) (by kernel_rfl) (fun qK qa wr hB qO qF hK => ?_) ?_
    · have e7 : qa.tmps[7]? = some (.pointer (some ⟨W0.heap.size + 1, 0, none⟩)) := qO.1.trans rfl
      clear qO qF
      have hk0 := (bcell hB _ _ (World.block_lt_of_cell? _ _ k0)).trans k0
      have hk1 := (bcell hB _ _ (World.block_lt_of_cell? _ _ k1)).trans k1
      have hk2 := (bcell hB _ _ (World.block_lt_of_cell? _ _ k2)).trans k2
      go_simp
      exact hK _ _ (Below.refl _ _) rfl
    refine BOk.yes rfl [2, 3] [] rfl 1 true rfl rfl rfl (by kernel_rfl) (by kernel_rfl) (by kernel_rfl) (fun qK qa wr hB qO qF hK => ?_) ?_
    · obtain ⟨u16, e16, r2⟩ := qF.1
      have e16 : qa.tmps[16]? = some (.slice A0 l0.length c0) := (show u16 = .slice A0 l0.length c0 from r2) ▸ e16
      clear r2
      obtain ⟨u17, e17, r3⟩ := qF.2.1
      have e17 : qa.tmps[17]? = some (.agg #[.slice A1 l1.length c1, .slice A2 l2.length c2, .int .i64 cur]) := (show u17 = .agg #[.slice A1 l1.length c1, .slice A2 l2.length c2, .int .i64 cur] from r3) ▸ e17
      clear r3
      clear qO qF
      go_simp
      go_at_call 15
      refine (HP.out _ hB).mono ?_
      rintro e w2 ⟨rfl, hb2⟩
      exact hK _ _ hb2 rfl
    refine BOk.yes rfl [] [0] rfl 1 true rfl rfl rfl (by kernel_rfl) (by kernel_rfl) (by kernel_rfl) (fun qK qa wr hB qO qF hK => ?_) ?_
    · have e0 : qa.tmps[0]? = some (.slice A0 l0.length c0) := qO.1.trans rfl
      clear qO qF
      go_simp
      exact hK _ _ (Below.refl _ _) rfl
    refine BOk.yes rfl [] [1] rfl 1 true rfl rfl rfl (by kernel_rfl) (by kernel_rfl) (by kernel_rfl) (fun qK qa wr hB qO qF hK => ?_) ?_
    · have e1 : qa.tmps[1]? = some (.slice A1 l1.length c1) := qO.1.trans rfl
      clear qO qF
      go_simp
      exact hK _ _ (Below.refl _ _) rfl
    refine BOk.yes rfl [] [5] rfl 1 true rfl rfl rfl (by kernel_rfl) (by kernel_rfl) (by kernel_rfl) (fun qK qa wr hB qO qF hK => ?_) ?_
    · have e5 : qa.tmps[5]? = some (.pointer (some ⟨W0.heap.size, 0, none⟩)) := qO.1.trans rfl
      clear qO qF
      go_simp
      exact hK _ _ (Below.refl _ _) rfl
    refine BOk.yes rfl [7] [] rfl 1 true rfl rfl rfl (by kernel_rfl) (by kernel_rfl) (by kernel_rfl) (fun qK qa wr hB qO qF hK => ?_) ?_
    · obtain ⟨u21, e21, r7⟩ := qF.1
      have e21 : qa.tmps[21]? = some (.pointer (some ⟨W0.heap.size, 0, none⟩)) := (show u21 = .pointer (some ⟨W0.heap.size, 0, none⟩) from r7) ▸ e21
      clear r7
      clear qO qF
      have hp0 := (bcell hB _ _ (World.block_lt_of_cell? _ _ p0)).trans p0
      go_simp
      exact hK _ _ (Below.refl _ _) rfl
    refine BOk.yes rfl [] [5] rfl 1 true rfl rfl rfl (by kernel_rfl) (by kernel_rfl) (by kernel_rfl) (fun qK qa wr hB qO qF hK => ?_) ?_
    · have e5 : qa.tmps[5]? = some (.pointer (some ⟨W0.heap.size, 0, none⟩)) := qO.1.trans rfl
      clear qO qF
      go_simp
      exact hK _ _ (Below.refl _ _) rfl
    refine BOk.yes rfl [9] [] rfl 1 true rfl rfl rfl (by kernel_rfl) (by kernel_rfl) (by kernel_rfl) (fun qK qa wr hB qO qF hK => ?_) ?_
    · obtain ⟨u23, e23, r9⟩ := qF.1
      have e23 : qa.tmps[23]? = some (.pointer (some ⟨W0.heap.size, 1, none⟩)) := (show u23 = .pointer (some ⟨W0.heap.size, 1, none⟩) from r9) ▸ e23
      clear r9
      clear qO qF
      have hp1 := (bcell hB _ _ (World.block_lt_of_cell? _ _ p1)).trans p1
      go_simp
      exact hK _ _ (Below.refl _ _) rfl
    refine BOk.yes rfl [5, 6, 8, 10] [] rfl 1 true rfl rfl rfl (by kernel_rfl) (by kernel_rfl) (by kernel_rfl) (fun qK qa wr hB qO qF hK => ?_) ?_
    · obtain ⟨u19, e19, r5⟩ := qF.1
      have e19 : qa.tmps[19]? = some (.slice A0 l0.length c0) := (show u19 = .slice A0 l0.length c0 from r5) ▸ e19
      clear r5
      obtain ⟨u20, e20, r6⟩ := qF.2.1
      have e20 : qa.tmps[20]? = some (.slice A1 l1.length c1) := (show u20 = .slice A1 l1.length c1 from r6) ▸ e20
      clear r6
      obtain ⟨u22, e22, r8⟩ := qF.2.2.1
      have e22 : qa.tmps[22]? = some (.slice A2 l2.length c2) := (show u22 = .slice A2 l2.length c2 from r8) ▸ e22
      clear r8
      obtain ⟨u24, e24, r10⟩ := qF.2.2.2.1
      have e24 : qa.tmps[24]? = some (.int .i64 cur) := (show u24 = .int .i64 cur from r10) ▸ e24
      clear r10
      clear qO qF
      go_simp
      go_at_call 18
      refine (HR.out _ hB).mono ?_
      rintro e w2 ⟨rfl, hb2⟩
      exact hK _ _ hb2 rfl
    refine BOk.yes rfl [4, 11] [] rfl 1 true rfl rfl rfl (by kernel_rfl) (by kernel_rfl) (by kernel_rfl) (fun qK qa wr hB qO qF hK => ?_) ?_
    · obtain ⟨u18, e18, r4⟩ := qF.1
      have e18 : qa.tmps[18]? = some (.bool X) := (show u18 = .bool X from r4) ▸ e18
      clear r4
      obtain ⟨u25, e25, r11⟩ := qF.2.1
      have e25 : qa.tmps[25]? = some (.bool X) := (show u25 = .bool X from r11) ▸ e25
      clear r11
      clear qO qF
      go_simp
      refine hK _ _ (Below.refl _ _) ?_
      show (_ : Value) = _
      first | rfl | (simp; done) | (simp; omega)
    refine BOk.cons rfl [1, 12] [] rfl rfl (by kernel_rfl) (by kernel_rfl) (fun qK qa wr hB qO qF hK => ?_) ?_
    · obtain ⟨u15, e15, r1⟩ := qF.1
      have e15 : qa.tmps[15]? = some (.bool true) := (show u15 = .bool true from r1) ▸ e15
      clear r1
      obtain ⟨u26, e26, r12⟩ := qF.2.1
      have e26 : qa.tmps[26]? = some (.bool true) := (show u26 = .bool true from r12) ▸ e26
      clear r12
      clear qO qF
      go_simp
      refine hK _ _ (Below.refl _ _) ?_
      show (_ : Value) = _
      first | rfl | (simp; done) | (simp; omega)
    refine BOk.cons rfl [13] [] rfl rfl (by kernel_rfl) (by kernel_rfl) (fun qK qa wr hB qO qF hK => ?_) ?_
    · obtain ⟨u27, e27, r13⟩ := qF.1
      have e27 : qa.tmps[27]? = some (.bool true) := (show u27 = .bool true from r13) ▸ e27
      clear r13
      clear qO qF
      go_simp
      exact hK _ _ (Below.refl _ _) rfl
    refine BOk.yes rfl [] [7] rfl 14 true rfl rfl rfl (by kernel_rfl) (by kernel_rfl) (by kernel_rfl) (fun qK qa wr hB qO qF hK => ?_) ?_
    · have e7 : qa.tmps[7]? = some (.pointer (some ⟨W0.heap.size + 1, 0, none⟩)) := qO.1.trans rfl
      clear qO qF
      have hk0 := (bcell hB _ _ (World.block_lt_of_cell? _ _ k0)).trans k0
      have hk1 := (bcell hB _ _ (World.block_lt_of_cell? _ _ k1)).trans k1
      have hk2 := (bcell hB _ _ (World.block_lt_of_cell? _ _ k2)).trans k2
      go_simp
      exact hK _ _ (Below.refl _ _) rfl
    refine BOk.yes rfl [15] [] rfl 14 true rfl rfl rfl (by kernel_rfl) (by kernel_rfl) (by kernel_rfl) (fun qK qa wr hB qO qF hK => ?_) ?_
    · obtain ⟨u29, e29, r15⟩ := qF.1
      have e29 : qa.tmps[29]? = some (.agg #[.slice A1 l1.length c1, .slice A2 l2.length c2, .int .i64 cur]) := (show u29 = .agg #[.slice A1 l1.length c1, .slice A2 l2.length c2, .int .i64 cur] from r15) ▸ e29
      clear r15
      clear qO qF
      go_simp
      go_at_call 15
      refine (HP0.out _ (hB.trans (Below.refl _ _))).mono ?_
      rintro e w2 ⟨rfl, hb2⟩
      exact hK _ _ hb2 rfl
    refine BOk.cons rfl [14, 16] [] rfl rfl (by kernel_rfl) (by kernel_rfl) (fun qK qa wr hB qO qF hK => ?_) ?_
    · obtain ⟨u28, e28, r14⟩ := qF.1
      have e28 : qa.tmps[28]? = some (.bool true) := (show u28 = .bool true from r14) ▸ e28
      clear r14
      obtain ⟨u30, e30, r16⟩ := qF.2.1
      have e30 : qa.tmps[30]? = some (.bool true) := (show u30 = .bool true from r16) ▸ e30
      clear r16
      clear qO qF
      go_simp
      refine hK _ _ (Below.refl _ _) ?_
      show (_ : Value) = _
      first | rfl | (simp; done) | (simp; omega)
    refine BOk.cons rfl [17] [] rfl rfl (by kernel_rfl) (by kernel_rfl) (fun qK qa wr hB qO qF hK => ?_) ?_
    · obtain ⟨u31, e31, r17⟩ := qF.1
      have e31 : qa.tmps[31]? = some (.bool true) := (show u31 = .bool true from r17) ▸ e31
      clear r17
      clear qO qF
      go_simp
      exact hK _ _ (Below.refl _ _) rfl
    exact BOk.nil
  intro vals wr hl hB hR
  match vals, hl with
  | [z14, z15, z16, z17, z18, z19, z20, z21, z22, z23, z24, z25, z26, z27, z28, z29, z30, z31, z6], _ =>
  have r18 : z6 = .bool true := hR 18 _ rfl
  subst r18
  clear hR
  simp only [List.cons_append, List.nil_append, putAll, Act.put, List.setIfInBounds_toArray, List.set_cons_zero, List.set_cons_succ]
  go_wp2_with fail
  go_ret
  exact ⟨rfl, hb2.trans (hB.mono hb2.size)⟩

theorem own : ownKnob Try.prog.godebug = none := by kernel_rfl
theorem laidOut : laidOutB Try.prog = true := by kernel_rfl
theorem rec0 : (Try.f6.params.toList.all fun t => Try.prog.readableRec t && decide (t < Try.prog.types.size)) = true := by kernel_rfl
set_option maxRecDepth 100000 in
theorem lifted (os : Os) (started : os.Started) (H : Type) (enc : TypeId × Value → H) (F : Stop.Interp) :
    ReturnsInHanded {} Try.checked os 6 .any ((Rows.OpenSpec.upto Rows.evalAllsSpec).pre6 enc Try.prog Try.f6 Rows.evalAllsUptoRow.domain false) (((Rows.OpenSpec.upto Rows.evalAllsSpec).at F).post enc Try.prog Try.f6 false true false false) := by
  refine law_stepB (C := Try.checked) (s := Rows.evalAllsSpec) (tb := 4) own started (by kernel_rfl) Try.func6
    (OpenSpec.witness (enc := enc) (C := Try.checked) (s := Rows.OpenSpec.upto Rows.evalAllsSpec) (k := Rows.uptoSmall) rfl false ⟨#[], #[.slice none 0 0, .slice none 0 0, .agg #[.slice none 0 0, .int .i64 0]], []⟩ 8 (by kernel_rfl) (by kernel_rfl) (by kernel_rfl)
      (x := ([.nil, .nil, .agg [.nil, .lit (.int .i64 0)]], [], [])) (by kernel_rfl) rfl (by kernel_rfl)) laidOut ?_ rfl Try.underlying4 rfl ?_ ?_
  · intro t ht
    have := List.all_eq_true.1 rec0 t ht
    simp only [Bool.and_eq_true, decide_eq_true_eq] at this
    exact this
  · intro ds hd
    match ds, hd with
    | [d0, d1, d2], _ => exact ⟨rfl, rfl, rfl⟩
  intro W base args ds p hval hA hsz hbk
  rw [Try.params6] at hA hval hsz
  obtain ⟨v0, vs0, d0, ds0, p0, q0, hargs, rfl, rfl, h0, r0⟩ := trodAll_cons hA
  obtain ⟨v1, vs1, d1, ds1, p1, q1, rfl, rfl, rfl, h1, r1⟩ := trodAll_cons r0
  obtain ⟨v2, vs2, d2, ds2, p2, q2, rfl, rfl, rfl, h2, r2⟩ := trodAll_cons r1
  obtain ⟨rfl, rfl, rfl⟩ := trodAll_nil r2
  obtain rfl : args = #[v0, v1, v2] := by cases args; simp_all
  obtain ⟨D0, A0, c0, l0, rfl, hl0, hr0, hq0⟩ := openB_nodes (hval 0 39 v0 rfl rfl) h0 (weights_each (i := 0) hsz rfl rfl) (Nat.le_trans (bulk_part (by simp)) hbk)
  obtain ⟨A1, c1, l1, rfl, hc1, hl1, hr1, hq1⟩ := openB_events (hval 1 22 v1 rfl rfl) h1 (weights_each (i := 1) hsz rfl rfl) (Nat.le_trans (bulk_part (by simp)) hbk)
  obtain ⟨A2, c2, l2, cur2, rfl, hl2, hr2, hq2⟩ := openB_place (hval 2 43 v2 rfl rfl) h2 (weights_each (i := 2) hsz rfl rfl) (Nat.le_trans (bulk_part (by simp)) hbk)
  exact walk W D0 A0 c0 l0 hl0 hr0 hq0 A1 c1 l1 hc1 hl1 hr1 hq1 A2 c2 l2 cur2 hl2 hr2 hq2

theorem evalAlls_holds : Rows.EvalAllsUptoSaid :=
  OpenClaim.holds_of_cond 6 Try.f6 rfl rfl rfl rfl rfl rfl rfl ⟨rfl, rfl, rfl, rfl, rfl⟩ rfl rfl rfl rfl rfl (by kernel_rfl) Try.func6 (by kernel_rfl)
    (of_decide_eq_true (by kernel_rfl)) (by unfold Func.isWrapper; first | (rw [if_pos (by decide +kernel)]; kernel_rfl) | (rw [if_neg (by decide +kernel)]; exact ⟨rfl, rfl⟩))
    (fun os started H enc _ F => lifted os started H enc F)
#print axioms evalAlls_holds
end Go.Proofs.Ytomhheihhnmbcaa.evalAlls
