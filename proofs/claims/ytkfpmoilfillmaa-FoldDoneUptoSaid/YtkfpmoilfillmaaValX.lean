/- Contracts of the document's float, logic, compare. No conditions. -/
import Derived.Test.YtkfpmoilfillmaaValW
import Derived.Deep.DeepCutAuto
namespace Go.Proofs.Ytkfpmoilfillmaa
open Go.RowKit
set_option linter.unusedSimpArgs false
set_option linter.unusedVariables false

theorem rfloat_neg (a b : Nat) (ha : a < 18446744073709551616) (w : World) : Calls Try.prog 31 #[.int .i64 6, .int .u64 a, .int .u64 b] w fun e w' => e = .returned (V.mk 4 (canonN (negN (canonN a)))).v ∧ Below w.heap.size w w' := by
  have hr := Lib.hid fun w => rneg_any a ha w
  clear ha
  generalize canonN (negN (canonN a)) = R at *
  go_enter Try.func31, Try.ntmps31
  go_wp2_with fail
  refine (hr.out _).mono ?_
  rintro e w2 ⟨rfl, rfl⟩
  go_wp2_with fail
  exact bodyPost_ret (v := .agg #[.int .i64 4, .int .u64 R]) (by simp [results, Try.results31, go_sem]) rfl ⟨rfl, by repeat (first | exact Below.refl _ _ | refine Below.setCell ?_ (by simp) _ | refine Below.alloc ?_ (by simp) _)⟩
theorem rfloat_nan (a b : Nat) (ha : a < 18446744073709551616) (w : World) : Calls Try.prog 31 #[.int .i64 17, .int .u64 a, .int .u64 b] w fun e w' => e = .returned (yesV (nanN a)).v ∧ Below w.heap.size w w' := by
  have hr := Lib.hid fun w => isnan_any a ha w
  clear ha
  generalize nanN a = n at *
  generalize hR : yesV n = R
  have HR := Lib.hid hR
  clear hR
  go_enter Try.func31, Try.ntmps31
  obtain ⟨c0, c1, f0, f1⟩ := vcells (Bk.new w 33 #[.int .i64 0, .int .u64 0])
  go_wp2_with fail
  refine (hr.out _).mono ?_
  rintro e w2 ⟨rfl, rfl⟩
  go_wp2_with fail
  refine (rtruth_any _ _).mono ?_
  rintro e w2 ⟨rfl, hb2⟩
  have k := (Bk.new w 33 #[.int .i64 0, .int .u64 0]).old hb2
  have hbel : Below w.heap.size w w2 := ((Below.refl _ _).alloc (Nat.le_refl _) _).trans (hb2.mono (by simp))
  clear c0 c1 f0 f1 hb2
  rw [HR.out]
  obtain ⟨rk, rb⟩ := R
  simp only [V.v]
  obtain ⟨c0, c1, f0, f1⟩ := vcells k
  obtain ⟨d0, d1, _, _⟩ := vcells (vput k (.int .i64 rk) (.int .u64 rb))
  go_wp2_with fail
  exact bodyPost_ret (v := .agg #[.int .i64 rk, .int .u64 rb]) (by simp [results, Try.results31, go_sem, d0, d1]) rfl ⟨rfl, (hbel.setCell (Nat.le_refl _) _).setCell (Nat.le_refl _) _⟩
theorem rfloat_add (a b : Nat) (ha : a < 18446744073709551616) (hb : b < 18446744073709551616) (w : World) : Calls Try.prog 31 #[.int .i64 1, .int .u64 a, .int .u64 b] w fun e w' => e = .returned (V.mk 4 (flN .add (canonN a) (canonN b))).v ∧ Below w.heap.size w w' := by
  have hr := Lib.hid fun w => rdo_add a b ha hb w
  clear ha hb
  generalize flN .add (canonN a) (canonN b) = R at *
  go_enter Try.func31, Try.ntmps31
  obtain ⟨c0, c1, f0, f1⟩ := vcells (Bk.new w 33 #[.int .i64 0, .int .u64 0])
  go_wp2_with fail
  refine (hr.out _).mono ?_
  rintro e w2 ⟨rfl, hb2⟩
  have k := (Bk.new w 33 #[.int .i64 0, .int .u64 0]).old hb2
  have hbel : Below w.heap.size w w2 := ((Below.refl _ _).alloc (Nat.le_refl _) _).trans (hb2.mono (by simp))
  clear c0 c1 f0 f1 hb2
  obtain ⟨c0, c1, f0, f1⟩ := vcells k
  obtain ⟨d0, d1, _, _⟩ := vcells (vput k (.int .i64 4) (.int .u64 R))
  go_wp2_with fail
  exact bodyPost_ret (v := .agg #[.int .i64 4, .int .u64 R]) (by simp [results, Try.results31, go_sem, d0, d1]) rfl ⟨rfl, (hbel.setCell (Nat.le_refl _) _).setCell (Nat.le_refl _) _⟩
theorem rfloat_sub (a b : Nat) (ha : a < 18446744073709551616) (hb : b < 18446744073709551616) (w : World) : Calls Try.prog 31 #[.int .i64 2, .int .u64 a, .int .u64 b] w fun e w' => e = .returned (V.mk 4 (flN .sub (canonN a) (canonN b))).v ∧ Below w.heap.size w w' := by
  have hr := Lib.hid fun w => rdo_sub a b ha hb w
  clear ha hb
  generalize flN .sub (canonN a) (canonN b) = R at *
  go_enter Try.func31, Try.ntmps31
  obtain ⟨c0, c1, f0, f1⟩ := vcells (Bk.new w 33 #[.int .i64 0, .int .u64 0])
  go_wp2_with fail
  refine (hr.out _).mono ?_
  rintro e w2 ⟨rfl, hb2⟩
  have k := (Bk.new w 33 #[.int .i64 0, .int .u64 0]).old hb2
  have hbel : Below w.heap.size w w2 := ((Below.refl _ _).alloc (Nat.le_refl _) _).trans (hb2.mono (by simp))
  clear c0 c1 f0 f1 hb2
  obtain ⟨c0, c1, f0, f1⟩ := vcells k
  obtain ⟨d0, d1, _, _⟩ := vcells (vput k (.int .i64 4) (.int .u64 R))
  go_wp2_with fail
  exact bodyPost_ret (v := .agg #[.int .i64 4, .int .u64 R]) (by simp [results, Try.results31, go_sem, d0, d1]) rfl ⟨rfl, (hbel.setCell (Nat.le_refl _) _).setCell (Nat.le_refl _) _⟩
theorem rfloat_mul (a b : Nat) (ha : a < 18446744073709551616) (hb : b < 18446744073709551616) (w : World) : Calls Try.prog 31 #[.int .i64 3, .int .u64 a, .int .u64 b] w fun e w' => e = .returned (V.mk 4 (flN .mul (canonN a) (canonN b))).v ∧ Below w.heap.size w w' := by
  have hr := Lib.hid fun w => rdo_mul a b ha hb w
  clear ha hb
  generalize flN .mul (canonN a) (canonN b) = R at *
  go_enter Try.func31, Try.ntmps31
  obtain ⟨c0, c1, f0, f1⟩ := vcells (Bk.new w 33 #[.int .i64 0, .int .u64 0])
  go_wp2_with fail
  refine (hr.out _).mono ?_
  rintro e w2 ⟨rfl, hb2⟩
  have k := (Bk.new w 33 #[.int .i64 0, .int .u64 0]).old hb2
  have hbel : Below w.heap.size w w2 := ((Below.refl _ _).alloc (Nat.le_refl _) _).trans (hb2.mono (by simp))
  clear c0 c1 f0 f1 hb2
  obtain ⟨c0, c1, f0, f1⟩ := vcells k
  obtain ⟨d0, d1, _, _⟩ := vcells (vput k (.int .i64 4) (.int .u64 R))
  go_wp2_with fail
  exact bodyPost_ret (v := .agg #[.int .i64 4, .int .u64 R]) (by simp [results, Try.results31, go_sem, d0, d1]) rfl ⟨rfl, (hbel.setCell (Nat.le_refl _) _).setCell (Nat.le_refl _) _⟩
theorem rfloat_quo (a b : Nat) (ha : a < 18446744073709551616) (hb : b < 18446744073709551616) (w : World) : Calls Try.prog 31 #[.int .i64 4, .int .u64 a, .int .u64 b] w fun e w' => e = .returned (V.mk 4 (flN .quo (canonN a) (canonN b))).v ∧ Below w.heap.size w w' := by
  have hr := Lib.hid fun w => rdo_quo a b ha hb w
  clear ha hb
  generalize flN .quo (canonN a) (canonN b) = R at *
  go_enter Try.func31, Try.ntmps31
  obtain ⟨c0, c1, f0, f1⟩ := vcells (Bk.new w 33 #[.int .i64 0, .int .u64 0])
  go_wp2_with fail
  refine (hr.out _).mono ?_
  rintro e w2 ⟨rfl, hb2⟩
  have k := (Bk.new w 33 #[.int .i64 0, .int .u64 0]).old hb2
  have hbel : Below w.heap.size w w2 := ((Below.refl _ _).alloc (Nat.le_refl _) _).trans (hb2.mono (by simp))
  clear c0 c1 f0 f1 hb2
  obtain ⟨c0, c1, f0, f1⟩ := vcells k
  obtain ⟨d0, d1, _, _⟩ := vcells (vput k (.int .i64 4) (.int .u64 R))
  go_wp2_with fail
  exact bodyPost_ret (v := .agg #[.int .i64 4, .int .u64 R]) (by simp [results, Try.results31, go_sem, d0, d1]) rfl ⟨rfl, (hbel.setCell (Nat.le_refl _) _).setCell (Nat.le_refl _) _⟩
theorem rfloat_any (op : Int) (x y : V) (hx : x.fits) (hy : y.fits) (h : (1 ≤ op ∧ op ≤ 4) ∨ op = 6 ∨ op = 17) (w : World) :
    Calls Try.prog 31 #[.int .i64 op, .int .u64 x.b, .int .u64 y.b] w fun e w' => e = .returned (realsV op x y).v ∧ Below w.heap.size w w' := by
  have hop : op = 1 ∨ op = 2 ∨ op = 3 ∨ op = 4 ∨ op = 6 ∨ op = 17 := by omega
  rcases hop with rfl | rfl | rfl | rfl | rfl | rfl
  · exact rfloat_add x.b y.b hx hy w
  · exact rfloat_sub x.b y.b hx hy w
  · exact rfloat_mul x.b y.b hx hy w
  · exact rfloat_quo x.b y.b hx hy w
  · exact rfloat_neg x.b y.b hx w
  · have e : realsV 17 x y = yesV (nanN x.b) := by
      unfold realsV
      rw [if_neg (by decide), if_neg (by decide), if_neg (by decide), if_neg (by decide), if_neg (by decide), if_pos rfl, eq_key hx hx]
      cases nanN x.b <;> simp
    rw [e]
    exact rfloat_nan x.b y.b hx w
def logicR_c1 (o : Bool) (y : V) (w : World) : List Spec := [.is (.agg #[.int .i64 2, .int .u64 (o.toNat : Nat)]),
  .is (.bool o),
  .is (.agg #[.int .i64 2, .int .u64 (o.toNat : Nat)]),
  .is (.bool true),
  .is (.bool true),
  .is (undef),
  .is (undef),
  .is (undef),
  .is (undef),
  .is (.bool true)]
set_option maxHeartbeats 2000000 in
theorem rlogic_c1 (o : Bool) (y : V)  (w : World) : Calls Try.prog 28 #[.agg #[.int .i64 2, .int .u64 (o.toNat : Nat)], .agg #[.int .i64 y.k, .int .u64 y.b], .bool o] w fun e w' => e = .returned (yesV o).v ∧ Below w.heap.size w w' := by
  generalize hR : yesV o = R
  have HR := Lib.hid hR
  clear hR
  go_enter Try.func28, Try.ntmps28
  go_wp2_with fail
  have k3 : Bk (((w.alloc (.cells #[.int .i64 2, .int .u64 (o.toNat : Nat)] 33)).alloc (.cells #[.int .i64 y.k, .int .u64 y.b] 33)).alloc (.cells #[.int .i64 0, .int .u64 0] 33)) w.heap.size 33 #[.int .i64 2, .int .u64 (o.toNat : Nat)] := ((Bk.new w _ _).alloc _).alloc _
  have k4 : Bk (((w.alloc (.cells #[.int .i64 2, .int .u64 (o.toNat : Nat)] 33)).alloc (.cells #[.int .i64 y.k, .int .u64 y.b] 33)).alloc (.cells #[.int .i64 0, .int .u64 0] 33)) (w.heap.size + 1) 33 #[.int .i64 y.k, .int .u64 y.b] := (Bk.newAt (by simp) _ _).alloc _
  have k6 : Bk (((w.alloc (.cells #[.int .i64 2, .int .u64 (o.toNat : Nat)] 33)).alloc (.cells #[.int .i64 y.k, .int .u64 y.b] 33)).alloc (.cells #[.int .i64 0, .int .u64 0] 33)) (w.heap.size + 1 + 1) 33 #[.int .i64 0, .int .u64 0] := Bk.newAt (by simp) _ _
  have hbW : Below w.heap.size w (((w.alloc (.cells #[.int .i64 2, .int .u64 (o.toNat : Nat)] 33)).alloc (.cells #[.int .i64 y.k, .int .u64 y.b] 33)).alloc (.cells #[.int .i64 0, .int .u64 0] 33)) := (((Below.refl _ _).alloc (by simp) _).alloc (by simp) _).alloc (by simp; omega) _
  generalize ((w.alloc (.cells #[.int .i64 2, .int .u64 (o.toNat : Nat)] 33)).alloc (.cells #[.int .i64 y.k, .int .u64 y.b] 33)).alloc (.cells #[.int .i64 0, .int .u64 0] 33) = W at *
  have ⟨c30, c31, _, _⟩ := vcells k3
  have ⟨c40, c41, _, _⟩ := vcells k4
  refine wp_region_b (by kernel_rfl) (fun k => (logicR_c1 o y w).getD k .any) (by kernel_rfl) ?_ ?_
  · refine BOk.cons rfl [] [3] rfl rfl (by kernel_rfl) (by kernel_rfl) (fun qK qa wr hB qO qF hK => ?_) ?_
    · have e3 : qa.tmps[3]? = some (.pointer (some ⟨w.heap.size, 0, none⟩)) := qO.1.trans rfl
      clear qO qF
      have hc30 := (bcell hB _ _ (World.block_lt_of_cell? _ _ c30)).trans c30
      have hc31 := (bcell hB _ _ (World.block_lt_of_cell? _ _ c31)).trans c31
      go_simp
      exact hK _ _ (Below.refl _ _) rfl
    refine BOk.cons rfl [] [2] rfl rfl (by kernel_rfl) (by kernel_rfl) (fun qK qa wr hB qO qF hK => ?_) ?_
    · have e2 : qa.tmps[2]? = some (.bool o) := qO.1.trans rfl
      clear qO qF
      go_simp
      exact hK _ _ (Below.refl _ _) rfl
    refine BOk.cons rfl [1] [] rfl rfl (by kernel_rfl) (by kernel_rfl) (fun qK qa wr hB qO qF hK => ?_) ?_
    · obtain ⟨u8, e8, r1⟩ := qF.1
      have e8 : qa.tmps[8]? = some (.bool o) := (show u8 = .bool o from r1) ▸ e8
      clear r1
      clear qO qF
      go_simp
      go_at_call 20
      refine (rtruth_any o _).mono ?_
      rintro e w2 ⟨rfl, hb2⟩
      exact hK _ _ hb2 rfl
    refine BOk.cons rfl [0, 2] [] rfl rfl (by kernel_rfl) (by kernel_rfl) (fun qK qa wr hB qO qF hK => ?_) ?_
    · obtain ⟨u7, e7, r0⟩ := qF.1
      have e7 : qa.tmps[7]? = some (.agg #[.int .i64 2, .int .u64 (o.toNat : Nat)]) := (show u7 = .agg #[.int .i64 2, .int .u64 (o.toNat : Nat)] from r0) ▸ e7
      clear r0
      obtain ⟨u9, e9, r2⟩ := qF.2.1
      have e9 : qa.tmps[9]? = some (.agg #[.int .i64 2, .int .u64 (o.toNat : Nat)]) := (show u9 = .agg #[.int .i64 2, .int .u64 (o.toNat : Nat)] from r2) ▸ e9
      clear r2
      clear qO qF
      go_simp
      exact hK _ _ (Below.refl _ _) rfl
    refine BOk.cons rfl [3] [] rfl rfl (by kernel_rfl) (by kernel_rfl) (fun qK qa wr hB qO qF hK => ?_) ?_
    · obtain ⟨u10, e10, r3⟩ := qF.1
      have e10 : qa.tmps[10]? = some (.bool true) := (show u10 = .bool true from r3) ▸ e10
      clear r3
      clear qO qF
      go_simp
      exact hK _ _ (Below.refl _ _) rfl
    refine BOk.no rfl rfl 4 false rfl rfl rfl (by kernel_rfl) (fun _ => rfl) ?_
    refine BOk.no rfl rfl 4 false rfl rfl rfl (by kernel_rfl) (fun _ => rfl) ?_
    refine BOk.no rfl rfl 4 false rfl rfl rfl (by kernel_rfl) (fun _ => rfl) ?_
    refine BOk.no rfl rfl 4 false rfl rfl rfl (by kernel_rfl) (fun _ => rfl) ?_
    refine BOk.cons rfl [4] [] rfl rfl (by kernel_rfl) (by kernel_rfl) (fun qK qa wr hB qO qF hK => ?_) ?_
    · obtain ⟨u11, e11, r4⟩ := qF.1
      have e11 : qa.tmps[11]? = some (.bool true) := (show u11 = .bool true from r4) ▸ e11
      clear r4
      clear qO qF
      go_simp
      refine hK _ _ (Below.refl _ _) ?_
      show (_ : Value) = _
      first | rfl | (simp; done) | (simp; omega)
    exact BOk.nil
  intro vals wr hl hB hR
  match vals, hl with
  | [z7, z8, z9, z10, z11, z12, z13, z14, z15, z16], _ =>
  have r9 : z16 = .bool true := hR 9 _ rfl
  subst r9
  clear hR
  simp only [List.cons_append, List.nil_append, putAll, Act.put, List.setIfInBounds_toArray, List.set_cons_zero, List.set_cons_succ]
  have k3 := k3.old hB
  have k4 := k4.old hB
  have k6 := k6.old hB
  have hbW := hbW.trans (hB.mono hbW.size)
  clear hB c30 c31 c40 c41
  have ⟨c30, c31, _, _⟩ := vcells k3
  have ⟨c40, c41, _, _⟩ := vcells k4
  have ⟨c60, c61, f60, f61⟩ := vcells k6
  go_wp2_with fail
  refine (rtruth_any _ _).mono ?_
  rintro e w2 ⟨rfl, hb2⟩
  rw [HR.out]
  have k6 := k6.old hb2
  have hbW := hbW.trans (hb2.mono hbW.size)
  clear hb2 c60 c61 f60 f61 c30 c31 c40 c41
  obtain ⟨rk, rb⟩ := R
  simp only [V.v]
  obtain ⟨c0, c1, f0, f1⟩ := vcells k6
  obtain ⟨d0, d1, _, _⟩ := vcells (vput k6 (.int .i64 rk) (.int .u64 rb))
  go_wp2_with fail
  exact bodyPost_ret (v := .agg #[.int .i64 rk, .int .u64 rb]) (by simp [results, Try.results28, go_sem, d0, d1]) rfl ⟨rfl, (hbW.setCell (by simp; omega) _).setCell (by simp; omega) _⟩
def logicR_c2 (o : Bool) (x : V) (w : World) : List Spec := [.is (.agg #[.int .i64 x.k, .int .u64 x.b]),
  .is (.bool o),
  .is (.agg #[.int .i64 2, .int .u64 (o.toNat : Nat)]),
  .is (.bool false),
  .is (.bool false),
  .is (.agg #[.int .i64 2, .int .u64 (o.toNat : Nat)]),
  .is (.bool o),
  .is (.agg #[.int .i64 2, .int .u64 (o.toNat : Nat)]),
  .is (.bool true),
  .is (.bool true)]
set_option maxHeartbeats 2000000 in
theorem rlogic_c2 (o : Bool) (x : V) (k1 : ¬ (x.k = 2 ∧ (x.b : Int) = (o.toNat : Nat))) (w : World) : Calls Try.prog 28 #[.agg #[.int .i64 x.k, .int .u64 x.b], .agg #[.int .i64 2, .int .u64 (o.toNat : Nat)], .bool o] w fun e w' => e = .returned (yesV o).v ∧ Below w.heap.size w w' := by
  generalize hR : yesV o = R
  have HR := Lib.hid hR
  clear hR
  go_enter Try.func28, Try.ntmps28
  go_wp2_with fail
  have k3 : Bk (((w.alloc (.cells #[.int .i64 x.k, .int .u64 x.b] 33)).alloc (.cells #[.int .i64 2, .int .u64 (o.toNat : Nat)] 33)).alloc (.cells #[.int .i64 0, .int .u64 0] 33)) w.heap.size 33 #[.int .i64 x.k, .int .u64 x.b] := ((Bk.new w _ _).alloc _).alloc _
  have k4 : Bk (((w.alloc (.cells #[.int .i64 x.k, .int .u64 x.b] 33)).alloc (.cells #[.int .i64 2, .int .u64 (o.toNat : Nat)] 33)).alloc (.cells #[.int .i64 0, .int .u64 0] 33)) (w.heap.size + 1) 33 #[.int .i64 2, .int .u64 (o.toNat : Nat)] := (Bk.newAt (by simp) _ _).alloc _
  have k6 : Bk (((w.alloc (.cells #[.int .i64 x.k, .int .u64 x.b] 33)).alloc (.cells #[.int .i64 2, .int .u64 (o.toNat : Nat)] 33)).alloc (.cells #[.int .i64 0, .int .u64 0] 33)) (w.heap.size + 1 + 1) 33 #[.int .i64 0, .int .u64 0] := Bk.newAt (by simp) _ _
  have hbW : Below w.heap.size w (((w.alloc (.cells #[.int .i64 x.k, .int .u64 x.b] 33)).alloc (.cells #[.int .i64 2, .int .u64 (o.toNat : Nat)] 33)).alloc (.cells #[.int .i64 0, .int .u64 0] 33)) := (((Below.refl _ _).alloc (by simp) _).alloc (by simp) _).alloc (by simp; omega) _
  generalize ((w.alloc (.cells #[.int .i64 x.k, .int .u64 x.b] 33)).alloc (.cells #[.int .i64 2, .int .u64 (o.toNat : Nat)] 33)).alloc (.cells #[.int .i64 0, .int .u64 0] 33) = W at *
  have ⟨c30, c31, _, _⟩ := vcells k3
  have ⟨c40, c41, _, _⟩ := vcells k4
  refine wp_region_b (by kernel_rfl) (fun k => (logicR_c2 o x w).getD k .any) (by kernel_rfl) ?_ ?_
  · refine BOk.cons rfl [] [3] rfl rfl (by kernel_rfl) (by kernel_rfl) (fun qK qa wr hB qO qF hK => ?_) ?_
    · have e3 : qa.tmps[3]? = some (.pointer (some ⟨w.heap.size, 0, none⟩)) := qO.1.trans rfl
      clear qO qF
      have hc30 := (bcell hB _ _ (World.block_lt_of_cell? _ _ c30)).trans c30
      have hc31 := (bcell hB _ _ (World.block_lt_of_cell? _ _ c31)).trans c31
      go_simp
      exact hK _ _ (Below.refl _ _) rfl
    refine BOk.cons rfl [] [2] rfl rfl (by kernel_rfl) (by kernel_rfl) (fun qK qa wr hB qO qF hK => ?_) ?_
    · have e2 : qa.tmps[2]? = some (.bool o) := qO.1.trans rfl
      clear qO qF
      go_simp
      exact hK _ _ (Below.refl _ _) rfl
    refine BOk.cons rfl [1] [] rfl rfl (by kernel_rfl) (by kernel_rfl) (fun qK qa wr hB qO qF hK => ?_) ?_
    · obtain ⟨u8, e8, r1⟩ := qF.1
      have e8 : qa.tmps[8]? = some (.bool o) := (show u8 = .bool o from r1) ▸ e8
      clear r1
      clear qO qF
      go_simp
      go_at_call 20
      refine (rtruth_any o _).mono ?_
      rintro e w2 ⟨rfl, hb2⟩
      exact hK _ _ hb2 rfl
    refine BOk.cons rfl [0, 2] [] rfl rfl (by kernel_rfl) (by kernel_rfl) (fun qK qa wr hB qO qF hK => ?_) ?_
    · obtain ⟨u7, e7, r0⟩ := qF.1
      have e7 : qa.tmps[7]? = some (.agg #[.int .i64 x.k, .int .u64 x.b]) := (show u7 = .agg #[.int .i64 x.k, .int .u64 x.b] from r0) ▸ e7
      clear r0
      obtain ⟨u9, e9, r2⟩ := qF.2.1
      have e9 : qa.tmps[9]? = some (.agg #[.int .i64 2, .int .u64 (o.toNat : Nat)]) := (show u9 = .agg #[.int .i64 2, .int .u64 (o.toNat : Nat)] from r2) ▸ e9
      clear r2
      clear qO qF
      go_simp
      repeat' split
      all_goals first | (exfalso; exact k1 ⟨by assumption, by assumption⟩) | exact hK _ _ (Below.refl _ _) rfl
    refine BOk.cons rfl [3] [] rfl rfl (by kernel_rfl) (by kernel_rfl) (fun qK qa wr hB qO qF hK => ?_) ?_
    · obtain ⟨u10, e10, r3⟩ := qF.1
      have e10 : qa.tmps[10]? = some (.bool false) := (show u10 = .bool false from r3) ▸ e10
      clear r3
      clear qO qF
      go_simp
      exact hK _ _ (Below.refl _ _) rfl
    refine BOk.yes rfl [] [4] rfl 4 false rfl rfl rfl (by kernel_rfl) (by kernel_rfl) (by kernel_rfl) (fun qK qa wr hB qO qF hK => ?_) ?_
    · have e4 : qa.tmps[4]? = some (.pointer (some ⟨w.heap.size + 1, 0, none⟩)) := qO.1.trans rfl
      clear qO qF
      have hc40 := (bcell hB _ _ (World.block_lt_of_cell? _ _ c40)).trans c40
      have hc41 := (bcell hB _ _ (World.block_lt_of_cell? _ _ c41)).trans c41
      go_simp
      exact hK _ _ (Below.refl _ _) rfl
    refine BOk.yes rfl [] [2] rfl 4 false rfl rfl rfl (by kernel_rfl) (by kernel_rfl) (by kernel_rfl) (fun qK qa wr hB qO qF hK => ?_) ?_
    · have e2 : qa.tmps[2]? = some (.bool o) := qO.1.trans rfl
      clear qO qF
      go_simp
      exact hK _ _ (Below.refl _ _) rfl
    refine BOk.yes rfl [6] [] rfl 4 false rfl rfl rfl (by kernel_rfl) (by kernel_rfl) (by kernel_rfl) (fun qK qa wr hB qO qF hK => ?_) ?_
    · obtain ⟨u13, e13, r6⟩ := qF.1
      have e13 : qa.tmps[13]? = some (.bool o) := (show u13 = .bool o from r6) ▸ e13
      clear r6
      clear qO qF
      go_simp
      go_at_call 20
      refine (rtruth_any o _).mono ?_
      rintro e w2 ⟨rfl, hb2⟩
      exact hK _ _ hb2 rfl
    refine BOk.yes rfl [5, 7] [] rfl 4 false rfl rfl rfl (by kernel_rfl) (by kernel_rfl) (by kernel_rfl) (fun qK qa wr hB qO qF hK => ?_) ?_
    · obtain ⟨u12, e12, r5⟩ := qF.1
      have e12 : qa.tmps[12]? = some (.agg #[.int .i64 2, .int .u64 (o.toNat : Nat)]) := (show u12 = .agg #[.int .i64 2, .int .u64 (o.toNat : Nat)] from r5) ▸ e12
      clear r5
      obtain ⟨u14, e14, r7⟩ := qF.2.1
      have e14 : qa.tmps[14]? = some (.agg #[.int .i64 2, .int .u64 (o.toNat : Nat)]) := (show u14 = .agg #[.int .i64 2, .int .u64 (o.toNat : Nat)] from r7) ▸ e14
      clear r7
      clear qO qF
      go_simp
      exact hK _ _ (Below.refl _ _) rfl
    refine BOk.cons rfl [4, 8] [] rfl rfl (by kernel_rfl) (by kernel_rfl) (fun qK qa wr hB qO qF hK => ?_) ?_
    · obtain ⟨u11, e11, r4⟩ := qF.1
      have e11 : qa.tmps[11]? = some (.bool false) := (show u11 = .bool false from r4) ▸ e11
      clear r4
      obtain ⟨u15, e15, r8⟩ := qF.2.1
      have e15 : qa.tmps[15]? = some (.bool true) := (show u15 = .bool true from r8) ▸ e15
      clear r8
      clear qO qF
      go_simp
      refine hK _ _ (Below.refl _ _) ?_
      show (_ : Value) = _
      first | rfl | (simp; done) | (simp; omega)
    exact BOk.nil
  intro vals wr hl hB hR
  match vals, hl with
  | [z7, z8, z9, z10, z11, z12, z13, z14, z15, z16], _ =>
  have r9 : z16 = .bool true := hR 9 _ rfl
  subst r9
  clear hR
  simp only [List.cons_append, List.nil_append, putAll, Act.put, List.setIfInBounds_toArray, List.set_cons_zero, List.set_cons_succ]
  have k3 := k3.old hB
  have k4 := k4.old hB
  have k6 := k6.old hB
  have hbW := hbW.trans (hB.mono hbW.size)
  clear hB c30 c31 c40 c41
  have ⟨c30, c31, _, _⟩ := vcells k3
  have ⟨c40, c41, _, _⟩ := vcells k4
  have ⟨c60, c61, f60, f61⟩ := vcells k6
  go_wp2_with fail
  refine (rtruth_any _ _).mono ?_
  rintro e w2 ⟨rfl, hb2⟩
  rw [HR.out]
  have k6 := k6.old hb2
  have hbW := hbW.trans (hb2.mono hbW.size)
  clear hb2 c60 c61 f60 f61 c30 c31 c40 c41
  obtain ⟨rk, rb⟩ := R
  simp only [V.v]
  obtain ⟨c0, c1, f0, f1⟩ := vcells k6
  obtain ⟨d0, d1, _, _⟩ := vcells (vput k6 (.int .i64 rk) (.int .u64 rb))
  go_wp2_with fail
  exact bodyPost_ret (v := .agg #[.int .i64 rk, .int .u64 rb]) (by simp [results, Try.results28, go_sem, d0, d1]) rfl ⟨rfl, (hbW.setCell (by simp; omega) _).setCell (by simp; omega) _⟩
def logicR_c3 (o : Bool) (x y : V) (w : World) : List Spec := [.is (.agg #[.int .i64 x.k, .int .u64 x.b]),
  .is (.bool o),
  .is (.agg #[.int .i64 2, .int .u64 (o.toNat : Nat)]),
  .is (.bool false),
  .is (.bool false),
  .is (.agg #[.int .i64 y.k, .int .u64 y.b]),
  .is (.bool o),
  .is (.agg #[.int .i64 2, .int .u64 (o.toNat : Nat)]),
  .is (.bool false),
  .is (.bool false)]
set_option maxHeartbeats 2000000 in
theorem rlogic_c3 (o : Bool) (x y : V) (k1 : ¬ (x.k = 2 ∧ (x.b : Int) = (o.toNat : Nat))) (k2 : ¬ (y.k = 2 ∧ (y.b : Int) = (o.toNat : Nat))) (k3 : (x.k != 2) = true) (w : World) : Calls Try.prog 28 #[.agg #[.int .i64 x.k, .int .u64 x.b], .agg #[.int .i64 y.k, .int .u64 y.b], .bool o] w fun e w' => e = .returned (none0).v ∧ Below w.heap.size w w' := by
  generalize hR : none0 = R
  have HR := Lib.hid hR
  clear hR
  go_enter Try.func28, Try.ntmps28
  go_wp2_with fail
  have k3 : Bk (((w.alloc (.cells #[.int .i64 x.k, .int .u64 x.b] 33)).alloc (.cells #[.int .i64 y.k, .int .u64 y.b] 33)).alloc (.cells #[.int .i64 0, .int .u64 0] 33)) w.heap.size 33 #[.int .i64 x.k, .int .u64 x.b] := ((Bk.new w _ _).alloc _).alloc _
  have k4 : Bk (((w.alloc (.cells #[.int .i64 x.k, .int .u64 x.b] 33)).alloc (.cells #[.int .i64 y.k, .int .u64 y.b] 33)).alloc (.cells #[.int .i64 0, .int .u64 0] 33)) (w.heap.size + 1) 33 #[.int .i64 y.k, .int .u64 y.b] := (Bk.newAt (by simp) _ _).alloc _
  have k6 : Bk (((w.alloc (.cells #[.int .i64 x.k, .int .u64 x.b] 33)).alloc (.cells #[.int .i64 y.k, .int .u64 y.b] 33)).alloc (.cells #[.int .i64 0, .int .u64 0] 33)) (w.heap.size + 1 + 1) 33 #[.int .i64 0, .int .u64 0] := Bk.newAt (by simp) _ _
  have hbW : Below w.heap.size w (((w.alloc (.cells #[.int .i64 x.k, .int .u64 x.b] 33)).alloc (.cells #[.int .i64 y.k, .int .u64 y.b] 33)).alloc (.cells #[.int .i64 0, .int .u64 0] 33)) := (((Below.refl _ _).alloc (by simp) _).alloc (by simp) _).alloc (by simp; omega) _
  generalize ((w.alloc (.cells #[.int .i64 x.k, .int .u64 x.b] 33)).alloc (.cells #[.int .i64 y.k, .int .u64 y.b] 33)).alloc (.cells #[.int .i64 0, .int .u64 0] 33) = W at *
  have ⟨c30, c31, _, _⟩ := vcells k3
  have ⟨c40, c41, _, _⟩ := vcells k4
  refine wp_region_b (by kernel_rfl) (fun k => (logicR_c3 o x y w).getD k .any) (by kernel_rfl) ?_ ?_
  · refine BOk.cons rfl [] [3] rfl rfl (by kernel_rfl) (by kernel_rfl) (fun qK qa wr hB qO qF hK => ?_) ?_
    · have e3 : qa.tmps[3]? = some (.pointer (some ⟨w.heap.size, 0, none⟩)) := qO.1.trans rfl
      clear qO qF
      have hc30 := (bcell hB _ _ (World.block_lt_of_cell? _ _ c30)).trans c30
      have hc31 := (bcell hB _ _ (World.block_lt_of_cell? _ _ c31)).trans c31
      go_simp
      exact hK _ _ (Below.refl _ _) rfl
    refine BOk.cons rfl [] [2] rfl rfl (by kernel_rfl) (by kernel_rfl) (fun qK qa wr hB qO qF hK => ?_) ?_
    · have e2 : qa.tmps[2]? = some (.bool o) := qO.1.trans rfl
      clear qO qF
      go_simp
      exact hK _ _ (Below.refl _ _) rfl
    refine BOk.cons rfl [1] [] rfl rfl (by kernel_rfl) (by kernel_rfl) (fun qK qa wr hB qO qF hK => ?_) ?_
    · obtain ⟨u8, e8, r1⟩ := qF.1
      have e8 : qa.tmps[8]? = some (.bool o) := (show u8 = .bool o from r1) ▸ e8
      clear r1
      clear qO qF
      go_simp
      go_at_call 20
      refine (rtruth_any o _).mono ?_
      rintro e w2 ⟨rfl, hb2⟩
      exact hK _ _ hb2 rfl
    refine BOk.cons rfl [0, 2] [] rfl rfl (by kernel_rfl) (by kernel_rfl) (fun qK qa wr hB qO qF hK => ?_) ?_
    · obtain ⟨u7, e7, r0⟩ := qF.1
      have e7 : qa.tmps[7]? = some (.agg #[.int .i64 x.k, .int .u64 x.b]) := (show u7 = .agg #[.int .i64 x.k, .int .u64 x.b] from r0) ▸ e7
      clear r0
      obtain ⟨u9, e9, r2⟩ := qF.2.1
      have e9 : qa.tmps[9]? = some (.agg #[.int .i64 2, .int .u64 (o.toNat : Nat)]) := (show u9 = .agg #[.int .i64 2, .int .u64 (o.toNat : Nat)] from r2) ▸ e9
      clear r2
      clear qO qF
      go_simp
      repeat' split
      all_goals first | (exfalso; exact k1 ⟨by assumption, by assumption⟩) | exact hK _ _ (Below.refl _ _) rfl
    refine BOk.cons rfl [3] [] rfl rfl (by kernel_rfl) (by kernel_rfl) (fun qK qa wr hB qO qF hK => ?_) ?_
    · obtain ⟨u10, e10, r3⟩ := qF.1
      have e10 : qa.tmps[10]? = some (.bool false) := (show u10 = .bool false from r3) ▸ e10
      clear r3
      clear qO qF
      go_simp
      exact hK _ _ (Below.refl _ _) rfl
    refine BOk.yes rfl [] [4] rfl 4 false rfl rfl rfl (by kernel_rfl) (by kernel_rfl) (by kernel_rfl) (fun qK qa wr hB qO qF hK => ?_) ?_
    · have e4 : qa.tmps[4]? = some (.pointer (some ⟨w.heap.size + 1, 0, none⟩)) := qO.1.trans rfl
      clear qO qF
      have hc40 := (bcell hB _ _ (World.block_lt_of_cell? _ _ c40)).trans c40
      have hc41 := (bcell hB _ _ (World.block_lt_of_cell? _ _ c41)).trans c41
      go_simp
      exact hK _ _ (Below.refl _ _) rfl
    refine BOk.yes rfl [] [2] rfl 4 false rfl rfl rfl (by kernel_rfl) (by kernel_rfl) (by kernel_rfl) (fun qK qa wr hB qO qF hK => ?_) ?_
    · have e2 : qa.tmps[2]? = some (.bool o) := qO.1.trans rfl
      clear qO qF
      go_simp
      exact hK _ _ (Below.refl _ _) rfl
    refine BOk.yes rfl [6] [] rfl 4 false rfl rfl rfl (by kernel_rfl) (by kernel_rfl) (by kernel_rfl) (fun qK qa wr hB qO qF hK => ?_) ?_
    · obtain ⟨u13, e13, r6⟩ := qF.1
      have e13 : qa.tmps[13]? = some (.bool o) := (show u13 = .bool o from r6) ▸ e13
      clear r6
      clear qO qF
      go_simp
      go_at_call 20
      refine (rtruth_any o _).mono ?_
      rintro e w2 ⟨rfl, hb2⟩
      exact hK _ _ hb2 rfl
    refine BOk.yes rfl [5, 7] [] rfl 4 false rfl rfl rfl (by kernel_rfl) (by kernel_rfl) (by kernel_rfl) (fun qK qa wr hB qO qF hK => ?_) ?_
    · obtain ⟨u12, e12, r5⟩ := qF.1
      have e12 : qa.tmps[12]? = some (.agg #[.int .i64 y.k, .int .u64 y.b]) := (show u12 = .agg #[.int .i64 y.k, .int .u64 y.b] from r5) ▸ e12
      clear r5
      obtain ⟨u14, e14, r7⟩ := qF.2.1
      have e14 : qa.tmps[14]? = some (.agg #[.int .i64 2, .int .u64 (o.toNat : Nat)]) := (show u14 = .agg #[.int .i64 2, .int .u64 (o.toNat : Nat)] from r7) ▸ e14
      clear r7
      clear qO qF
      go_simp
      repeat' split
      all_goals first | (exfalso; exact k2 ⟨by assumption, by assumption⟩) | exact hK _ _ (Below.refl _ _) rfl
    refine BOk.cons rfl [4, 8] [] rfl rfl (by kernel_rfl) (by kernel_rfl) (fun qK qa wr hB qO qF hK => ?_) ?_
    · obtain ⟨u11, e11, r4⟩ := qF.1
      have e11 : qa.tmps[11]? = some (.bool false) := (show u11 = .bool false from r4) ▸ e11
      clear r4
      obtain ⟨u15, e15, r8⟩ := qF.2.1
      have e15 : qa.tmps[15]? = some (.bool false) := (show u15 = .bool false from r8) ▸ e15
      clear r8
      clear qO qF
      go_simp
      refine hK _ _ (Below.refl _ _) ?_
      show (_ : Value) = _
      first | rfl | (simp; done) | (simp; omega)
    exact BOk.nil
  intro vals wr hl hB hR
  match vals, hl with
  | [z7, z8, z9, z10, z11, z12, z13, z14, z15, z16], _ =>
  have r9 : z16 = .bool false := hR 9 _ rfl
  subst r9
  clear hR
  simp only [List.cons_append, List.nil_append, putAll, Act.put, List.setIfInBounds_toArray, List.set_cons_zero, List.set_cons_succ]
  have k3 := k3.old hB
  have k4 := k4.old hB
  have k6 := k6.old hB
  have hbW := hbW.trans (hB.mono hbW.size)
  clear hB c30 c31 c40 c41
  have ⟨c30, c31, _, _⟩ := vcells k3
  have ⟨c40, c41, _, _⟩ := vcells k4
  have ⟨c60, c61, f60, f61⟩ := vcells k6
  obtain ⟨d0, d1, _, _⟩ := vcells (vput k6 (.int .i64 0) (.int .u64 0))
  go_wp2_with fail
  exact bodyPost_ret (v := .agg #[.int .i64 0, .int .u64 0]) (by simp [results, Try.results28, go_sem, d0, d1]) rfl ⟨by rw [← HR.out]; rfl, (hbW.setCell (by simp; omega) _).setCell (by simp; omega) _⟩
def logicR_c4 (o : Bool) (x y : V) (w : World) : List Spec := [.is (.agg #[.int .i64 x.k, .int .u64 x.b]),
  .is (.bool o),
  .is (.agg #[.int .i64 2, .int .u64 (o.toNat : Nat)]),
  .is (.bool false),
  .is (.bool false),
  .is (.agg #[.int .i64 y.k, .int .u64 y.b]),
  .is (.bool o),
  .is (.agg #[.int .i64 2, .int .u64 (o.toNat : Nat)]),
  .is (.bool false),
  .is (.bool false)]
set_option maxHeartbeats 2000000 in
theorem rlogic_c4 (o : Bool) (x y : V) (k1 : ¬ (x.k = 2 ∧ (x.b : Int) = (o.toNat : Nat))) (k2 : ¬ (y.k = 2 ∧ (y.b : Int) = (o.toNat : Nat))) (k3 : (x.k != 2) = false) (k4 : (y.k != 2) = true) (w : World) : Calls Try.prog 28 #[.agg #[.int .i64 x.k, .int .u64 x.b], .agg #[.int .i64 y.k, .int .u64 y.b], .bool o] w fun e w' => e = .returned (none0).v ∧ Below w.heap.size w w' := by
  generalize hR : none0 = R
  have HR := Lib.hid hR
  clear hR
  go_enter Try.func28, Try.ntmps28
  go_wp2_with fail
  have k3 : Bk (((w.alloc (.cells #[.int .i64 x.k, .int .u64 x.b] 33)).alloc (.cells #[.int .i64 y.k, .int .u64 y.b] 33)).alloc (.cells #[.int .i64 0, .int .u64 0] 33)) w.heap.size 33 #[.int .i64 x.k, .int .u64 x.b] := ((Bk.new w _ _).alloc _).alloc _
  have k4 : Bk (((w.alloc (.cells #[.int .i64 x.k, .int .u64 x.b] 33)).alloc (.cells #[.int .i64 y.k, .int .u64 y.b] 33)).alloc (.cells #[.int .i64 0, .int .u64 0] 33)) (w.heap.size + 1) 33 #[.int .i64 y.k, .int .u64 y.b] := (Bk.newAt (by simp) _ _).alloc _
  have k6 : Bk (((w.alloc (.cells #[.int .i64 x.k, .int .u64 x.b] 33)).alloc (.cells #[.int .i64 y.k, .int .u64 y.b] 33)).alloc (.cells #[.int .i64 0, .int .u64 0] 33)) (w.heap.size + 1 + 1) 33 #[.int .i64 0, .int .u64 0] := Bk.newAt (by simp) _ _
  have hbW : Below w.heap.size w (((w.alloc (.cells #[.int .i64 x.k, .int .u64 x.b] 33)).alloc (.cells #[.int .i64 y.k, .int .u64 y.b] 33)).alloc (.cells #[.int .i64 0, .int .u64 0] 33)) := (((Below.refl _ _).alloc (by simp) _).alloc (by simp) _).alloc (by simp; omega) _
  generalize ((w.alloc (.cells #[.int .i64 x.k, .int .u64 x.b] 33)).alloc (.cells #[.int .i64 y.k, .int .u64 y.b] 33)).alloc (.cells #[.int .i64 0, .int .u64 0] 33) = W at *
  have ⟨c30, c31, _, _⟩ := vcells k3
  have ⟨c40, c41, _, _⟩ := vcells k4
  refine wp_region_b (by kernel_rfl) (fun k => (logicR_c4 o x y w).getD k .any) (by kernel_rfl) ?_ ?_
  · refine BOk.cons rfl [] [3] rfl rfl (by kernel_rfl) (by kernel_rfl) (fun qK qa wr hB qO qF hK => ?_) ?_
    · have e3 : qa.tmps[3]? = some (.pointer (some ⟨w.heap.size, 0, none⟩)) := qO.1.trans rfl
      clear qO qF
      have hc30 := (bcell hB _ _ (World.block_lt_of_cell? _ _ c30)).trans c30
      have hc31 := (bcell hB _ _ (World.block_lt_of_cell? _ _ c31)).trans c31
      go_simp
      exact hK _ _ (Below.refl _ _) rfl
    refine BOk.cons rfl [] [2] rfl rfl (by kernel_rfl) (by kernel_rfl) (fun qK qa wr hB qO qF hK => ?_) ?_
    · have e2 : qa.tmps[2]? = some (.bool o) := qO.1.trans rfl
      clear qO qF
      go_simp
      exact hK _ _ (Below.refl _ _) rfl
    refine BOk.cons rfl [1] [] rfl rfl (by kernel_rfl) (by kernel_rfl) (fun qK qa wr hB qO qF hK => ?_) ?_
    · obtain ⟨u8, e8, r1⟩ := qF.1
      have e8 : qa.tmps[8]? = some (.bool o) := (show u8 = .bool o from r1) ▸ e8
      clear r1
      clear qO qF
      go_simp
      go_at_call 20
      refine (rtruth_any o _).mono ?_
      rintro e w2 ⟨rfl, hb2⟩
      exact hK _ _ hb2 rfl
    refine BOk.cons rfl [0, 2] [] rfl rfl (by kernel_rfl) (by kernel_rfl) (fun qK qa wr hB qO qF hK => ?_) ?_
    · obtain ⟨u7, e7, r0⟩ := qF.1
      have e7 : qa.tmps[7]? = some (.agg #[.int .i64 x.k, .int .u64 x.b]) := (show u7 = .agg #[.int .i64 x.k, .int .u64 x.b] from r0) ▸ e7
      clear r0
      obtain ⟨u9, e9, r2⟩ := qF.2.1
      have e9 : qa.tmps[9]? = some (.agg #[.int .i64 2, .int .u64 (o.toNat : Nat)]) := (show u9 = .agg #[.int .i64 2, .int .u64 (o.toNat : Nat)] from r2) ▸ e9
      clear r2
      clear qO qF
      go_simp
      repeat' split
      all_goals first | (exfalso; exact k1 ⟨by assumption, by assumption⟩) | exact hK _ _ (Below.refl _ _) rfl
    refine BOk.cons rfl [3] [] rfl rfl (by kernel_rfl) (by kernel_rfl) (fun qK qa wr hB qO qF hK => ?_) ?_
    · obtain ⟨u10, e10, r3⟩ := qF.1
      have e10 : qa.tmps[10]? = some (.bool false) := (show u10 = .bool false from r3) ▸ e10
      clear r3
      clear qO qF
      go_simp
      exact hK _ _ (Below.refl _ _) rfl
    refine BOk.yes rfl [] [4] rfl 4 false rfl rfl rfl (by kernel_rfl) (by kernel_rfl) (by kernel_rfl) (fun qK qa wr hB qO qF hK => ?_) ?_
    · have e4 : qa.tmps[4]? = some (.pointer (some ⟨w.heap.size + 1, 0, none⟩)) := qO.1.trans rfl
      clear qO qF
      have hc40 := (bcell hB _ _ (World.block_lt_of_cell? _ _ c40)).trans c40
      have hc41 := (bcell hB _ _ (World.block_lt_of_cell? _ _ c41)).trans c41
      go_simp
      exact hK _ _ (Below.refl _ _) rfl
    refine BOk.yes rfl [] [2] rfl 4 false rfl rfl rfl (by kernel_rfl) (by kernel_rfl) (by kernel_rfl) (fun qK qa wr hB qO qF hK => ?_) ?_
    · have e2 : qa.tmps[2]? = some (.bool o) := qO.1.trans rfl
      clear qO qF
      go_simp
      exact hK _ _ (Below.refl _ _) rfl
    refine BOk.yes rfl [6] [] rfl 4 false rfl rfl rfl (by kernel_rfl) (by kernel_rfl) (by kernel_rfl) (fun qK qa wr hB qO qF hK => ?_) ?_
    · obtain ⟨u13, e13, r6⟩ := qF.1
      have e13 : qa.tmps[13]? = some (.bool o) := (show u13 = .bool o from r6) ▸ e13
      clear r6
      clear qO qF
      go_simp
      go_at_call 20
      refine (rtruth_any o _).mono ?_
      rintro e w2 ⟨rfl, hb2⟩
      exact hK _ _ hb2 rfl
    refine BOk.yes rfl [5, 7] [] rfl 4 false rfl rfl rfl (by kernel_rfl) (by kernel_rfl) (by kernel_rfl) (fun qK qa wr hB qO qF hK => ?_) ?_
    · obtain ⟨u12, e12, r5⟩ := qF.1
      have e12 : qa.tmps[12]? = some (.agg #[.int .i64 y.k, .int .u64 y.b]) := (show u12 = .agg #[.int .i64 y.k, .int .u64 y.b] from r5) ▸ e12
      clear r5
      obtain ⟨u14, e14, r7⟩ := qF.2.1
      have e14 : qa.tmps[14]? = some (.agg #[.int .i64 2, .int .u64 (o.toNat : Nat)]) := (show u14 = .agg #[.int .i64 2, .int .u64 (o.toNat : Nat)] from r7) ▸ e14
      clear r7
      clear qO qF
      go_simp
      repeat' split
      all_goals first | (exfalso; exact k2 ⟨by assumption, by assumption⟩) | exact hK _ _ (Below.refl _ _) rfl
    refine BOk.cons rfl [4, 8] [] rfl rfl (by kernel_rfl) (by kernel_rfl) (fun qK qa wr hB qO qF hK => ?_) ?_
    · obtain ⟨u11, e11, r4⟩ := qF.1
      have e11 : qa.tmps[11]? = some (.bool false) := (show u11 = .bool false from r4) ▸ e11
      clear r4
      obtain ⟨u15, e15, r8⟩ := qF.2.1
      have e15 : qa.tmps[15]? = some (.bool false) := (show u15 = .bool false from r8) ▸ e15
      clear r8
      clear qO qF
      go_simp
      refine hK _ _ (Below.refl _ _) ?_
      show (_ : Value) = _
      first | rfl | (simp; done) | (simp; omega)
    exact BOk.nil
  intro vals wr hl hB hR
  match vals, hl with
  | [z7, z8, z9, z10, z11, z12, z13, z14, z15, z16], _ =>
  have r9 : z16 = .bool false := hR 9 _ rfl
  subst r9
  clear hR
  simp only [List.cons_append, List.nil_append, putAll, Act.put, List.setIfInBounds_toArray, List.set_cons_zero, List.set_cons_succ]
  have k3 := k3.old hB
  have k4 := k4.old hB
  have k6 := k6.old hB
  have hbW := hbW.trans (hB.mono hbW.size)
  clear hB c30 c31 c40 c41
  have ⟨c30, c31, _, _⟩ := vcells k3
  have ⟨c40, c41, _, _⟩ := vcells k4
  have ⟨c60, c61, f60, f61⟩ := vcells k6
  obtain ⟨d0, d1, _, _⟩ := vcells (vput k6 (.int .i64 0) (.int .u64 0))
  go_wp2_with fail
  exact bodyPost_ret (v := .agg #[.int .i64 0, .int .u64 0]) (by simp [results, Try.results28, go_sem, d0, d1]) rfl ⟨by rw [← HR.out]; rfl, (hbW.setCell (by simp; omega) _).setCell (by simp; omega) _⟩
def logicR_c5 (o : Bool) (x y : V) (w : World) : List Spec := [.is (.agg #[.int .i64 x.k, .int .u64 x.b]),
  .is (.bool o),
  .is (.agg #[.int .i64 2, .int .u64 (o.toNat : Nat)]),
  .is (.bool false),
  .is (.bool false),
  .is (.agg #[.int .i64 y.k, .int .u64 y.b]),
  .is (.bool o),
  .is (.agg #[.int .i64 2, .int .u64 (o.toNat : Nat)]),
  .is (.bool false),
  .is (.bool false)]
set_option maxHeartbeats 2000000 in
theorem rlogic_c5 (o : Bool) (x y : V) (k1 : ¬ (x.k = 2 ∧ (x.b : Int) = (o.toNat : Nat))) (k2 : ¬ (y.k = 2 ∧ (y.b : Int) = (o.toNat : Nat))) (k3 : (x.k != 2) = false) (k4 : (y.k != 2) = false) (w : World) : Calls Try.prog 28 #[.agg #[.int .i64 x.k, .int .u64 x.b], .agg #[.int .i64 y.k, .int .u64 y.b], .bool o] w fun e w' => e = .returned (yesV (!o)).v ∧ Below w.heap.size w w' := by
  generalize hR : yesV (!o) = R
  have HR := Lib.hid hR
  clear hR
  go_enter Try.func28, Try.ntmps28
  go_wp2_with fail
  have k3 : Bk (((w.alloc (.cells #[.int .i64 x.k, .int .u64 x.b] 33)).alloc (.cells #[.int .i64 y.k, .int .u64 y.b] 33)).alloc (.cells #[.int .i64 0, .int .u64 0] 33)) w.heap.size 33 #[.int .i64 x.k, .int .u64 x.b] := ((Bk.new w _ _).alloc _).alloc _
  have k4 : Bk (((w.alloc (.cells #[.int .i64 x.k, .int .u64 x.b] 33)).alloc (.cells #[.int .i64 y.k, .int .u64 y.b] 33)).alloc (.cells #[.int .i64 0, .int .u64 0] 33)) (w.heap.size + 1) 33 #[.int .i64 y.k, .int .u64 y.b] := (Bk.newAt (by simp) _ _).alloc _
  have k6 : Bk (((w.alloc (.cells #[.int .i64 x.k, .int .u64 x.b] 33)).alloc (.cells #[.int .i64 y.k, .int .u64 y.b] 33)).alloc (.cells #[.int .i64 0, .int .u64 0] 33)) (w.heap.size + 1 + 1) 33 #[.int .i64 0, .int .u64 0] := Bk.newAt (by simp) _ _
  have hbW : Below w.heap.size w (((w.alloc (.cells #[.int .i64 x.k, .int .u64 x.b] 33)).alloc (.cells #[.int .i64 y.k, .int .u64 y.b] 33)).alloc (.cells #[.int .i64 0, .int .u64 0] 33)) := (((Below.refl _ _).alloc (by simp) _).alloc (by simp) _).alloc (by simp; omega) _
  generalize ((w.alloc (.cells #[.int .i64 x.k, .int .u64 x.b] 33)).alloc (.cells #[.int .i64 y.k, .int .u64 y.b] 33)).alloc (.cells #[.int .i64 0, .int .u64 0] 33) = W at *
  have ⟨c30, c31, _, _⟩ := vcells k3
  have ⟨c40, c41, _, _⟩ := vcells k4
  refine wp_region_b (by kernel_rfl) (fun k => (logicR_c5 o x y w).getD k .any) (by kernel_rfl) ?_ ?_
  · refine BOk.cons rfl [] [3] rfl rfl (by kernel_rfl) (by kernel_rfl) (fun qK qa wr hB qO qF hK => ?_) ?_
    · have e3 : qa.tmps[3]? = some (.pointer (some ⟨w.heap.size, 0, none⟩)) := qO.1.trans rfl
      clear qO qF
      have hc30 := (bcell hB _ _ (World.block_lt_of_cell? _ _ c30)).trans c30
      have hc31 := (bcell hB _ _ (World.block_lt_of_cell? _ _ c31)).trans c31
      go_simp
      exact hK _ _ (Below.refl _ _) rfl
    refine BOk.cons rfl [] [2] rfl rfl (by kernel_rfl) (by kernel_rfl) (fun qK qa wr hB qO qF hK => ?_) ?_
    · have e2 : qa.tmps[2]? = some (.bool o) := qO.1.trans rfl
      clear qO qF
      go_simp
      exact hK _ _ (Below.refl _ _) rfl
    refine BOk.cons rfl [1] [] rfl rfl (by kernel_rfl) (by kernel_rfl) (fun qK qa wr hB qO qF hK => ?_) ?_
    · obtain ⟨u8, e8, r1⟩ := qF.1
      have e8 : qa.tmps[8]? = some (.bool o) := (show u8 = .bool o from r1) ▸ e8
      clear r1
      clear qO qF
      go_simp
      go_at_call 20
      refine (rtruth_any o _).mono ?_
      rintro e w2 ⟨rfl, hb2⟩
      exact hK _ _ hb2 rfl
    refine BOk.cons rfl [0, 2] [] rfl rfl (by kernel_rfl) (by kernel_rfl) (fun qK qa wr hB qO qF hK => ?_) ?_
    · obtain ⟨u7, e7, r0⟩ := qF.1
      have e7 : qa.tmps[7]? = some (.agg #[.int .i64 x.k, .int .u64 x.b]) := (show u7 = .agg #[.int .i64 x.k, .int .u64 x.b] from r0) ▸ e7
      clear r0
      obtain ⟨u9, e9, r2⟩ := qF.2.1
      have e9 : qa.tmps[9]? = some (.agg #[.int .i64 2, .int .u64 (o.toNat : Nat)]) := (show u9 = .agg #[.int .i64 2, .int .u64 (o.toNat : Nat)] from r2) ▸ e9
      clear r2
      clear qO qF
      go_simp
      repeat' split
      all_goals first | (exfalso; exact k1 ⟨by assumption, by assumption⟩) | exact hK _ _ (Below.refl _ _) rfl
    refine BOk.cons rfl [3] [] rfl rfl (by kernel_rfl) (by kernel_rfl) (fun qK qa wr hB qO qF hK => ?_) ?_
    · obtain ⟨u10, e10, r3⟩ := qF.1
      have e10 : qa.tmps[10]? = some (.bool false) := (show u10 = .bool false from r3) ▸ e10
      clear r3
      clear qO qF
      go_simp
      exact hK _ _ (Below.refl _ _) rfl
    refine BOk.yes rfl [] [4] rfl 4 false rfl rfl rfl (by kernel_rfl) (by kernel_rfl) (by kernel_rfl) (fun qK qa wr hB qO qF hK => ?_) ?_
    · have e4 : qa.tmps[4]? = some (.pointer (some ⟨w.heap.size + 1, 0, none⟩)) := qO.1.trans rfl
      clear qO qF
      have hc40 := (bcell hB _ _ (World.block_lt_of_cell? _ _ c40)).trans c40
      have hc41 := (bcell hB _ _ (World.block_lt_of_cell? _ _ c41)).trans c41
      go_simp
      exact hK _ _ (Below.refl _ _) rfl
    refine BOk.yes rfl [] [2] rfl 4 false rfl rfl rfl (by kernel_rfl) (by kernel_rfl) (by kernel_rfl) (fun qK qa wr hB qO qF hK => ?_) ?_
    · have e2 : qa.tmps[2]? = some (.bool o) := qO.1.trans rfl
      clear qO qF
      go_simp
      exact hK _ _ (Below.refl _ _) rfl
    refine BOk.yes rfl [6] [] rfl 4 false rfl rfl rfl (by kernel_rfl) (by kernel_rfl) (by kernel_rfl) (fun qK qa wr hB qO qF hK => ?_) ?_
    · obtain ⟨u13, e13, r6⟩ := qF.1
      have e13 : qa.tmps[13]? = some (.bool o) := (show u13 = .bool o from r6) ▸ e13
      clear r6
      clear qO qF
      go_simp
      go_at_call 20
      refine (rtruth_any o _).mono ?_
      rintro e w2 ⟨rfl, hb2⟩
      exact hK _ _ hb2 rfl
    refine BOk.yes rfl [5, 7] [] rfl 4 false rfl rfl rfl (by kernel_rfl) (by kernel_rfl) (by kernel_rfl) (fun qK qa wr hB qO qF hK => ?_) ?_
    · obtain ⟨u12, e12, r5⟩ := qF.1
      have e12 : qa.tmps[12]? = some (.agg #[.int .i64 y.k, .int .u64 y.b]) := (show u12 = .agg #[.int .i64 y.k, .int .u64 y.b] from r5) ▸ e12
      clear r5
      obtain ⟨u14, e14, r7⟩ := qF.2.1
      have e14 : qa.tmps[14]? = some (.agg #[.int .i64 2, .int .u64 (o.toNat : Nat)]) := (show u14 = .agg #[.int .i64 2, .int .u64 (o.toNat : Nat)] from r7) ▸ e14
      clear r7
      clear qO qF
      go_simp
      repeat' split
      all_goals first | (exfalso; exact k2 ⟨by assumption, by assumption⟩) | exact hK _ _ (Below.refl _ _) rfl
    refine BOk.cons rfl [4, 8] [] rfl rfl (by kernel_rfl) (by kernel_rfl) (fun qK qa wr hB qO qF hK => ?_) ?_
    · obtain ⟨u11, e11, r4⟩ := qF.1
      have e11 : qa.tmps[11]? = some (.bool false) := (show u11 = .bool false from r4) ▸ e11
      clear r4
      obtain ⟨u15, e15, r8⟩ := qF.2.1
      have e15 : qa.tmps[15]? = some (.bool false) := (show u15 = .bool false from r8) ▸ e15
      clear r8
      clear qO qF
      go_simp
      refine hK _ _ (Below.refl _ _) ?_
      show (_ : Value) = _
      first | rfl | (simp; done) | (simp; omega)
    exact BOk.nil
  intro vals wr hl hB hR
  match vals, hl with
  | [z7, z8, z9, z10, z11, z12, z13, z14, z15, z16], _ =>
  have r9 : z16 = .bool false := hR 9 _ rfl
  subst r9
  clear hR
  simp only [List.cons_append, List.nil_append, putAll, Act.put, List.setIfInBounds_toArray, List.set_cons_zero, List.set_cons_succ]
  have k3 := k3.old hB
  have k4 := k4.old hB
  have k6 := k6.old hB
  have hbW := hbW.trans (hB.mono hbW.size)
  clear hB c30 c31 c40 c41
  have ⟨c30, c31, _, _⟩ := vcells k3
  have ⟨c40, c41, _, _⟩ := vcells k4
  have ⟨c60, c61, f60, f61⟩ := vcells k6
  go_wp2_with fail
  refine (rtruth_any _ _).mono ?_
  rintro e w2 ⟨rfl, hb2⟩
  rw [HR.out]
  have k6 := k6.old hb2
  have hbW := hbW.trans (hb2.mono hbW.size)
  clear hb2 c60 c61 f60 f61 c30 c31 c40 c41
  obtain ⟨rk, rb⟩ := R
  simp only [V.v]
  obtain ⟨c0, c1, f0, f1⟩ := vcells k6
  obtain ⟨d0, d1, _, _⟩ := vcells (vput k6 (.int .i64 rk) (.int .u64 rb))
  go_wp2_with fail
  exact bodyPost_ret (v := .agg #[.int .i64 rk, .int .u64 rb]) (by simp [results, Try.results28, go_sem, d0, d1]) rfl ⟨rfl, (hbW.setCell (by simp; omega) _).setCell (by simp; omega) _⟩
theorem truth_bool (e : Bool) : truthI (yesV e) = if e = true then 1 else -1 := by
  unfold truthI; rw [clean_yes]; cases e <;> rfl
theorem rlogic_any (o : Bool) (x y : V) (hx : clean x = x) (hy : clean y = y) (w : World) :
    Calls Try.prog 28 #[x.v, y.v, .bool o] w fun e w' => e = .returned ((toldV (if o = true then max (truthI x) (truthI y) else min (truthI x) (truthI y))).getD none0).v ∧ Below w.heap.size w w' := by
  have tx : truthI x = if x.k = 2 then (if x.b = 1 then 1 else -1) else 0 := by unfold truthI; rw [hx]
  have ty : truthI y = if y.k = 2 then (if y.b = 1 then 1 else -1) else 0 := by unfold truthI; rw [hy]
  have small : ∀ z : V, clean z = z → z.k = 2 → z.b < 2 := fun z hz hk => by
    rcases clean_cases z with ⟨h0, e⟩ | ⟨h4, _⟩ | ⟨_, _, e⟩
    · omega
    · omega
    · rw [e] at hz; rw [← hz] at hk; simp [none0] at hk
  by_cases h1 : x.k = 2 ∧ (x.b : Int) = (o.toNat : Nat)
  · obtain ⟨xk, xb⟩ := x
    obtain ⟨h1, h2⟩ := h1
    simp only at h1 h2
    have h2 : xb = o.toNat := by omega
    subst h1; subst h2
    have ty2 : truthI y ≤ 1 ∧ -1 ≤ truthI y := by rw [ty]; repeat' split <;> omega
    have : (toldV (if o = true then max (truthI (yesV o)) (truthI y) else min (truthI (yesV o)) (truthI y))).getD none0 = yesV o := by
      rw [truth_bool]
      generalize truthI y = t at *
      cases o
      · rw [if_neg (by decide), if_neg (by decide), show min (-1) t = -1 by omega]; rfl
      · rw [if_pos rfl, if_pos rfl, show max 1 t = 1 by omega]; rfl
    rw [show truthI ⟨2, o.toNat⟩ = truthI (yesV o) from rfl, this]
    exact rlogic_c1 o y w
  by_cases h2 : y.k = 2 ∧ (y.b : Int) = (o.toNat : Nat)
  · obtain ⟨yk, yb⟩ := y
    obtain ⟨h2, h3⟩ := h2
    simp only at h2 h3
    have h3 : yb = o.toNat := by omega
    subst h2; subst h3
    have tx2 : truthI x ≤ 1 ∧ -1 ≤ truthI x := by rw [tx]; repeat' split <;> omega
    have : (toldV (if o = true then max (truthI x) (truthI (yesV o)) else min (truthI x) (truthI (yesV o)))).getD none0 = yesV o := by
      rw [truth_bool]
      generalize truthI x = t at *
      cases o
      · rw [if_neg (by decide), if_neg (by decide), show min t (-1) = -1 by omega]; rfl
      · rw [if_pos rfl, if_pos rfl, show max t 1 = 1 by omega]; rfl
    rw [show truthI ⟨2, o.toNat⟩ = truthI (yesV o) from rfl, this]
    exact rlogic_c2 o x h1 w
  have tx3 : truthI x = if x.k = 2 then (if o = true then -1 else 1) else 0 := by
    rw [tx]
    by_cases hk : x.k = 2
    · have := small x hx hk
      rw [if_pos hk, if_pos hk]
      cases o <;> simp [hk] at h1 ⊢ <;> omega
    · rw [if_neg hk, if_neg hk]
  have ty3 : truthI y = if y.k = 2 then (if o = true then -1 else 1) else 0 := by
    rw [ty]
    by_cases hk : y.k = 2
    · have := small y hy hk
      rw [if_pos hk, if_pos hk]
      cases o <;> simp [hk] at h2 ⊢ <;> omega
    · rw [if_neg hk, if_neg hk]
  rw [tx3, ty3]
  by_cases hk : x.k = 2
  · by_cases hk2 : y.k = 2
    · have := rlogic_c5 o x y h1 h2 (bne_eq_false_iff_eq.2 hk) (bne_eq_false_iff_eq.2 hk2) w
      rw [if_pos hk, if_pos hk2]
      cases o <;> exact this
    · have := rlogic_c4 o x y h1 h2 (bne_eq_false_iff_eq.2 hk) (bne_iff_ne.2 hk2) w
      rw [if_pos hk, if_neg hk2]
      cases o <;> exact this
  · have := rlogic_c3 o x y h1 h2 (bne_iff_ne.2 hk) w
    rw [if_neg hk]
    by_cases hk2 : y.k = 2
    · rw [if_pos hk2]; cases o <;> exact this
    · rw [if_neg hk2]; cases o <;> exact this
end Go.Proofs.Ytkfpmoilfillmaa
