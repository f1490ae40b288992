/- EvalPoison holds of what is of bounded bulk. No conditions. -/
import Derived.Test.YtomhheihhnmbcaaEvRd
import Derived.Deep.DeepCutAuto
namespace Go.Proofs.Ytomhheihhnmbcaa.evalPoison
open Go.ChangeShapes Go.WideShapes Go.ChangeAt Go.RowKit
open Go.ChangeMaps (open_string shut_string)
set_option linter.unusedSimpArgs false
set_option linter.unusedVariables false

def regPoison (A1 A2 : Option Addr) (c1 c2 : Nat) (l1 : List EventV) (l2 : List IntsV) (cur x y : Int) (w1 wq : World) : List Spec := [.is (.int .i64 x),
  .is (.agg #[.slice A1 l1.length c1, .slice A2 l2.length c2, .int .i64 cur]),
  .is (.agg #[.int .i64 1, .int .u64 0]),
  .is (.agg #[.int .i64 1, .int .u64 0]),
  .is (.bool true),
  .is (.bool true),
  .is (.agg #[.int .i64 42, .int .i64 0, .slice none 0 0, .int .i64 0, .int .u64 0, .int .i64 x, .int .i64 y]),
  .st (fun v w => ∃ g, v = .slice (some ⟨g, 0, none⟩) 1 1 ∧ Bk w g 41 #[.int .i64 42, .int .i64 0, .slice none 0 0, .int .i64 0, .int .u64 0, .int .i64 x, .int .i64 y]) (fun _ _ _ hb ⟨g, h1, h2⟩ => ⟨g, h1, h2.old hb⟩),
  .is (.agg #[.slice A1 l1.length c1, .slice A2 l2.length c2, .int .i64 cur]),
  .is (.bool false),
  .is (.bool true),
  .is (.bool true),
  .is (.bool true),
  .is (.agg #[.int .i64 42, .int .i64 0, .slice none 0 0, .int .i64 0, .int .u64 0, .int .i64 x, .int .i64 y]),
  .st (fun v w => ∃ g, v = .slice (some ⟨g, 0, none⟩) 1 1 ∧ Bk w g 41 #[.int .i64 42, .int .i64 0, .slice none 0 0, .int .i64 0, .int .u64 0, .int .i64 x, .int .i64 y]) (fun _ _ _ hb ⟨g, h1, h2⟩ => ⟨g, h1, h2.old hb⟩),
  .st (fun v w => ∃ g, v = .agg #[.int .i64 15, .int .i64 0, .slice (some ⟨g, 0, none⟩) 1 1, .int .i64 0, .int .u64 0, .int .i64 0, .int .i64 0] ∧ Bk w g 41 #[.int .i64 42, .int .i64 0, .slice none 0 0, .int .i64 0, .int .u64 0, .int .i64 x, .int .i64 y]) (fun _ _ _ hb ⟨g, h1, h2⟩ => ⟨g, h1, h2.old hb⟩),
  .st (fun v w => ∃ g g2, v = .slice (some ⟨g2, 0, none⟩) 1 1 ∧ Bk w g 41 #[.int .i64 42, .int .i64 0, .slice none 0 0, .int .i64 0, .int .u64 0, .int .i64 x, .int .i64 y] ∧ Bk w g2 41 #[.int .i64 15, .int .i64 0, .slice (some ⟨g, 0, none⟩) 1 1, .int .i64 0, .int .u64 0, .int .i64 0, .int .i64 0]) (fun _ _ _ hb ⟨g, g2, h1, h2, h3⟩ => ⟨g, g2, h1, h2.old hb, h3.old hb⟩),
  .is (.agg #[.slice A1 l1.length c1, .slice A2 l2.length c2, .int .i64 cur]),
  .is (.bool false),
  .is (.bool true),
  .is (.bool true),
  .is (.bool true)]

theorem run_bs_node (c0 c1 c2 c3 c4 c5 c6 : Value) (w : World) : (Instr.buildSlice 39 1 #[(0, .agg #[c0, c1, c2, c3, c4, c5, c6])]).run Try.prog w = .ok (.slice (some ⟨w.heap.size, 0, none⟩) 1 1) (w.alloc (.cells #[c0, c1, c2, c3, c4, c5, c6] 41)) := by kernel_rfl
theorem act_eval {a : Act} {d : Nat} {v : Value} (h : a.tmps[d]? = some v) : a.eval (.tmp d) = v := by simp [Act.eval, h]
theorem wp_bs_node {w : World} {o : Oper} {a : Act} {K : Act → World → Prop} {Q : Exit → Act → World → Prop} {c0 c1 c2 c3 c4 c5 c6 : Value} (x : Operand) (ho : o.op = .buildSlice 39 1 #[(0, x)]) (hx : a.eval x = .agg #[c0, c1, c2, c3, c4, c5, c6])
    (h : K (a.put o.dst (.slice (some ⟨w.heap.size, 0, none⟩) 1 1)) (w.alloc (.cells #[c0, c1, c2, c3, c4, c5, c6] 41))) : o.wp Try.prog a w K Q := by
  unfold Oper.wp execOp
  simp only [ho, List.map_toArray, List.map_cons, List.map_nil, hx, Sem.run_bind, run_bs_node, Result.andThen_ok, Sem.run_pure]
  exact h
theorem do_none (kk : LookV) (op pos a : Int) (h : 26 ≤ op ∧ op ≤ 31) (hh : hasL kk.bs pos = []) : doV kk op pos a = none0 := by
  rw [doV_eq, if_neg (by omega), if_neg (by omega), if_neg (by omega), if_pos (by omega), hh]; rfl
theorem none_v : none0.v = .agg #[.int .i64 0, .int .u64 0] := rfl
theorem not_none : applyV 15 [none0] = none0 := by rfl
theorem gone_none {kk : LookV} {x y : Int} (hh : hasL kk.bs x = []) : evalN kk 1 (.mk 42 0 none 0 [] 0 0 x y) = none0 := by
  show aggV 42 ((hasL kk.bs x).map fun at_ => attrL kk.es at_ y) = none0
  rw [hh]; rfl
theorem all_gone {kk : LookV} {x y : Int} (hh : hasL kk.bs x = []) : ([NodeV.mk 42 0 none 0 [] 0 0 x y].all fun n => isYes (evalN kk 1 n)) = false := by
  simp only [List.all_cons, List.all_nil, gone_none hh]; rfl
theorem all_not {kk : LookV} {x y : Int} {A : Option Addr} {c : Nat} (hh : hasL kk.bs x = []) : ([NodeV.mk 15 0 A c [.mk 42 0 none 0 [] 0 0 x y] 0 0 0 0].all fun n => isYes (evalN kk 2 n)) = false := by
  have e : evalN kk 2 (.mk 15 0 A c [.mk 42 0 none 0 [] 0 0 x y] 0 0 0 0) = none0 := by
    show applyV 15 [evalN kk 1 (.mk 42 0 none 0 [] 0 0 x y)] = none0
    rw [gone_none hh, not_none]
  simp only [List.all_cons, List.all_nil, e]; rfl
set_option maxRecDepth 100000 in
set_option maxHeartbeats 8000000 in
theorem walk (W0 : World) (A1 : Option Addr) (c1 : Nat) (l1 : List EventV) (hc1 : l1.length ≤ c1) (hl1 : l1.length ≤ 1048576) (hr1 : Rd W0 W0.heap.size A1 (l1.flatMap EventV.cells)) (hq1 : ∀ x ∈ l1, x.ok W0 W0.heap.size)
    (A2 : Option Addr) (c2 : Nat) (l2 : List IntsV) (cur : Int) (hl2 : l2.length ≤ 1048576) (hr2 : Rd W0 W0.heap.size A2 (l2.flatMap IntsV.cells)) (hq2 : ∀ x ∈ l2, x.ok W0 W0.heap.size) (x y : Int) :
    Calls Try.prog 7 #[.slice A1 l1.length c1, .agg #[.slice A2 l2.length c2, .int .i64 cur], .agg #[.int .i64 x, .int .i64 y]] W0 fun e W' => e = .returned (.bool true) ∧ Below W0.heap.size W0 W' := by
  have hok : LookV.ok ⟨A1, c1, l1, A2, c2, l2, cur⟩ W0 W0.heap.size := ⟨hr1, hl1, hq1, hr2, hl2, hq2⟩
  have hdo : ∀ (op pos a : Int) (w' : World), Below W0.heap.size W0 w' → Calls Try.prog 9 #[.int .i64 op, .int .i64 pos, .int .i64 a, .agg #[.slice A1 l1.length c1, .slice A2 l2.length c2, .int .i64 cur]] w' fun e w2 => e = .returned (doV ⟨A1, c1, l1, A2, c2, l2, cur⟩ op pos a).v ∧ Below w'.heap.size w' w2 :=
    fun op pos a w' hw => do_any ⟨A1, c1, l1, A2, c2, l2, cur⟩ op pos a w' (hok.old hw)
  have HDO := Lib.hid hdo
  have HOK := Lib.hid hok
  have hneq : ∀ w : World, (binOp .neq 31 (.agg #[.int .i64 0, .int .u64 0]) (.agg #[.int .i64 0, .int .u64 0])).run Try.prog w = .ok (.bool false) w := neq_V 0 0 0 0
  have heql : ∀ w : World, (binOp .eql 31 (.agg #[.int .i64 1, .int .u64 0]) (.agg #[.int .i64 1, .int .u64 0])).run Try.prog w = .ok (.bool true) w := eql_V 1 0 1 0
  clear hdo hok hr1 hq1 hr2 hq2
  go_enter Try.func7, Try.ntmps7
  go_wp2_with fail
  go_quiet (fail)
  go_wp2_with fail
  refine (awake_any _).mono ?_
  rintro e w1 ⟨rfl, hb1⟩
  have kp0 : Bk (((W0.alloc (.cells #[.slice A2 l2.length c2, .int .i64 cur] 43)).alloc (.cells #[.int .i64 x, .int .i64 y] 24)).drewN nq) W0.heap.size 43 #[.slice A2 l2.length c2, .int .i64 cur] := (Bk.new W0 43 #[.slice A2 l2.length c2, .int .i64 cur]).alloc (.cells #[.int .i64 x, .int .i64 y] 24)
  have kp := kp0.old hb1
  have hbel : Below W0.heap.size W0 w1 := (below_drewN (bel2 W0 (.cells #[.slice A2 l2.length c2, .int .i64 cur] 43) (.cells #[.int .i64 x, .int .i64 y] 24)) nq).trans (hb1.mono (by simp; omega))
  clear hb1 kp0
  have hgk := kp.lt
  have p0 : w1.cell? ⟨W0.heap.size, 0, none⟩ = some (.slice A2 l2.length c2) := kp.cell 0
  have p1 : w1.cell? ⟨W0.heap.size, 1, none⟩ = some (.int .i64 cur) := kp.cell 1
  have kp := kp.alloc (.cells #[.slice A1 l1.length c1, .slice A2 l2.length c2, .int .i64 cur] 28)
  have kl := Bk.new w1 28 #[.slice A1 l1.length c1, .slice A2 l2.length c2, .int .i64 cur]
  have hbel := hbel.alloc hbel.size (.cells #[.slice A1 l1.length c1, .slice A2 l2.length c2, .int .i64 cur] 28)
  by_cases hcn : cur < 0
  · have H41 : Hid (doV ⟨A1, c1, l1, A2, c2, l2, cur⟩ 41 0 y = none0) := Lib.hid (attrL_out (.inl hcn) _)
    go_wp2_with fail
    refine (HDO.out 41 0 y _ hbel).mono ?_
    rintro e w2 ⟨rfl, hb2⟩
    rw [H41.out, none_v]
    replace kp := kp.old hb2
    replace kl := kl.old hb2
    replace hbel := hbel.trans (hb2.mono hbel.size)
    clear hb2 p0 p1 H41
    have p0 : w2.cell? ⟨W0.heap.size, 0, none⟩ = some (.slice A2 l2.length c2) := kp.cell 0
    by_cases hx0 : x < 0
    · have HH : Hid (hasL l2 x = []) := Lib.hid (by unfold hasL; rw [dif_neg (by omega)])
      go_wp2_with fail
      go_loopw [10] (fun i wr => ∃ k : Nat, k ≤ 6 ∧ i = .int .i64 (26 + k) ∧ Below W0.heap.size W0 wr ∧ Bk wr w1.heap.size 28 #[.slice A1 l1.length c1, .slice A2 l2.length c2, .int .i64 cur]) (fun i _ => 32 - (intOf i).toNat)
      case atStart => exact ⟨0, by omega, rfl, hbel, kl⟩
      case round =>
        obtain ⟨wq, hwq⟩ : ∃ wq, wq = wr := ⟨_, rfl⟩
        subst hwq
        obtain ⟨k, hk, rfl, hbel, kl⟩ := hrel
        have k0 := kl.cell 0
        have k1 := kl.cell 1
        have k2 := kl.cell 2
        simp at k0 k1 k2
        by_cases hlt : k < 6
        · as_aux_lemma =>
          go_wp2_with fail
          refine (HDO.out (26 + k) x y _ hbel).mono ?_
          rintro e w3 ⟨rfl, hb3⟩
          rw [do_none _ _ _ _ (by omega) HH.out, none_v]
          have kl := kl.old hb3
          have hbel := hbel.trans (hb3.mono hbel.size)
          clear hb3
          go_wp2_with fail
          go_roundw
          case rel => exact ⟨k + 1, by omega, by go_num, hbel, kl⟩
          case measure => simp [intOf]; omega
        · as_aux_lemma =>
          obtain rfl : k = 6 := by omega
          have kl := kl.alloc (.cells #[.int .i64 42, .int .i64 0, .slice none 0 0, .int .i64 0, .int .u64 0, .int .i64 x, .int .i64 y] 41)
          have kg := Bk.new wq 41 #[.int .i64 42, .int .i64 0, .slice none 0 0, .int .i64 0, .int .u64 0, .int .i64 x, .int .i64 y]
          have hbel := hbel.alloc hbel.size (.cells #[.int .i64 42, .int .i64 0, .slice none 0 0, .int .i64 0, .int .u64 0, .int .i64 x, .int .i64 y] 41)
          clear k0 k1 k2
          have k0 := kl.cell 0
          have k1 := kl.cell 1
          have k2 := kl.cell 2
          have n0 := kg.cell 0
          have n1 := kg.cell 1
          have n2 := kg.cell 2
          have n3 := kg.cell 3
          have n4 := kg.cell 4
          have n5 := kg.cell 5
          have n6 := kg.cell 6
          have H25 : Hid (doV ⟨A1, c1, l1, A2, c2, l2, cur⟩ 25 x 0 = ⟨1, 0⟩) := Lib.hid (by rw [show doV ⟨A1, c1, l1, A2, c2, l2, cur⟩ 25 x 0 = intV (hasL l2 x).length from rfl, HH.out]; rfl)
          have HW := Lib.hid hbel
          go_upto_region 15 with fail
          refine wp_region_s (fun qk => (regPoison A1 A2 c1 c2 l1 l2 cur x y w1 wq).getD qk .any) (by kernel_rfl) ?_ ?_
          · refine BOk.cons rfl [] [7] rfl rfl (by kernel_rfl) (by kernel_rfl) (fun qK qa wr hB qO qF hK => ?_) ?_
            · have e7 : qa.tmps[7]? = some (.int .i64 x) := qO.1.trans rfl
              clear qO qF
              go_simp
              exact hK _ _ (Below.refl _ _) rfl
            refine BOk.cons rfl [] [9] rfl rfl (by kernel_rfl) (by kernel_rfl) (fun qK qa wr hB qO qF hK => ?_) ?_
            · have e9 : qa.tmps[9]? = some (.pointer (some ⟨w1.heap.size, 0, none⟩)) := qO.1.trans rfl
              clear qO qF
              have hk0 := (bcell hB _ _ (World.block_lt_of_cell? _ _ k0)).trans k0
              have hk1 := (bcell hB _ _ (World.block_lt_of_cell? _ _ k1)).trans k1
              have hk2 := (bcell hB _ _ (World.block_lt_of_cell? _ _ k2)).trans k2
              go_simp
              exact hK _ _ (Below.refl _ _) rfl
            refine BOk.cons rfl [0, 1] [] rfl rfl (by kernel_rfl) (by kernel_rfl) (fun qK qa wr hB qO qF hK => ?_) ?_
            · obtain ⟨u73, e73, r0⟩ := qF.1
              have e73 : qa.tmps[73]? = some (.int .i64 x) := (show u73 = .int .i64 x from r0) ▸ e73
              clear r0
              obtain ⟨u74, e74, r1⟩ := qF.2.1
              have e74 : qa.tmps[74]? = some (.agg #[.slice A1 l1.length c1, .slice A2 l2.length c2, .int .i64 cur]) := (show u74 = .agg #[.slice A1 l1.length c1, .slice A2 l2.length c2, .int .i64 cur] from r1) ▸ e74
              clear r1
              clear qO qF
              go_simp
              go_at_call 9
              refine (HDO.out 25 x 0 _ (HW.out.trans (hB.mono HW.out.size))).mono ?_
              rintro e w2 ⟨rfl, hb2⟩
              rw [H25.out]
              exact hK _ _ hb2 rfl
            refine BOk.cons rfl [] [] rfl rfl (by kernel_rfl) (by kernel_rfl) (fun qK qa wr hB qO qF hK => ?_) ?_
            · clear qO qF
              go_simp
              exact hK _ _ (Below.refl _ _) rfl
            refine BOk.cons rfl [2, 3] [] rfl rfl (by kernel_rfl) (by kernel_rfl) (fun qK qa wr hB qO qF hK => ?_) ?_
            · obtain ⟨u75, e75, r2⟩ := qF.1
              have e75 : qa.tmps[75]? = some (.agg #[.int .i64 1, .int .u64 0]) := (show u75 = .agg #[.int .i64 1, .int .u64 0] from r2) ▸ e75
              clear r2
              obtain ⟨u76, e76, r3⟩ := qF.2.1
              have e76 : qa.tmps[76]? = some (.agg #[.int .i64 1, .int .u64 0]) := (show u76 = .agg #[.int .i64 1, .int .u64 0] from r3) ▸ e76
              clear r3
              clear qO qF
              go_simp
              refine hK _ _ (Below.refl _ _) ?_
              show (_ : Value) = _
              first | rfl | (simp; done) | (simp; omega)
            refine BOk.cons rfl [4] [] rfl rfl (by kernel_rfl) (by kernel_rfl) (fun qK qa wr hB qO qF hK => ?_) ?_
            · obtain ⟨u77, e77, r4⟩ := qF.1
              have e77 : qa.tmps[77]? = some (.bool true) := (show u77 = .bool true from r4) ▸ e77
              clear r4
              clear qO qF
              go_simp
              exact hK _ _ (Below.refl _ _) rfl
            refine BOk.yes rfl [] [11] rfl 5 true rfl rfl rfl (by kernel_rfl) (by kernel_rfl) (by kernel_rfl) (fun qK qa wr hB qO qF hK => ?_) ?_
            · have e11 : qa.tmps[11]? = some (.pointer (some ⟨wq.heap.size, 0, none⟩)) := qO.1.trans rfl
              clear qO qF
              have hn0 := (bcell hB _ _ (World.block_lt_of_cell? _ _ n0)).trans n0
              have hn1 := (bcell hB _ _ (World.block_lt_of_cell? _ _ n1)).trans n1
              have hn2 := (bcell hB _ _ (World.block_lt_of_cell? _ _ n2)).trans n2
              have hn3 := (bcell hB _ _ (World.block_lt_of_cell? _ _ n3)).trans n3
              have hn4 := (bcell hB _ _ (World.block_lt_of_cell? _ _ n4)).trans n4
              have hn5 := (bcell hB _ _ (World.block_lt_of_cell? _ _ n5)).trans n5
              have hn6 := (bcell hB _ _ (World.block_lt_of_cell? _ _ n6)).trans n6
              go_simp
              exact hK _ _ (Below.refl _ _) rfl
            refine BOk.yes rfl [6] [] rfl 5 true rfl rfl rfl (by kernel_rfl) (by kernel_rfl) (by kernel_rfl) (fun qK qa wr hB qO qF hK => ?_) ?_
            · obtain ⟨u79, e79, r6⟩ := qF.1
              have e79 : qa.tmps[79]? = some (.agg #[.int .i64 42, .int .i64 0, .slice none 0 0, .int .i64 0, .int .u64 0, .int .i64 x, .int .i64 y]) := (show u79 = .agg #[.int .i64 42, .int .i64 0, .slice none 0 0, .int .i64 0, .int .u64 0, .int .i64 x, .int .i64 y] from r6) ▸ e79
              clear r6
              clear qO qF
              refine wp_bs_node (.tmp 79) rfl (act_eval e79) ?_
              exact hK _ _ ((Below.refl _ _).alloc (Nat.le_refl _) _) ⟨_, rfl, Bk.new _ _ _⟩
            refine BOk.yes rfl [] [9] rfl 5 true rfl rfl rfl (by kernel_rfl) (by kernel_rfl) (by kernel_rfl) (fun qK qa wr hB qO qF hK => ?_) ?_
            · have e9 : qa.tmps[9]? = some (.pointer (some ⟨w1.heap.size, 0, none⟩)) := qO.1.trans rfl
              clear qO qF
              have hk0 := (bcell hB _ _ (World.block_lt_of_cell? _ _ k0)).trans k0
              have hk1 := (bcell hB _ _ (World.block_lt_of_cell? _ _ k1)).trans k1
              have hk2 := (bcell hB _ _ (World.block_lt_of_cell? _ _ k2)).trans k2
              go_simp
              exact hK _ _ (Below.refl _ _) rfl
            refine BOk.yes rfl [7, 8] [] rfl 5 true rfl rfl rfl (by kernel_rfl) (by kernel_rfl) (by kernel_rfl) (fun qK qa wr hB qO qF hK => ?_) ?_
            · obtain ⟨u80, e80, r7⟩ := qF.1
              obtain ⟨g80, h80, k80⟩ := (show ∃ g, u80 = .slice (some ⟨g, 0, none⟩) 1 1 ∧ Bk wr g 41 #[.int .i64 42, .int .i64 0, .slice none 0 0, .int .i64 0, .int .u64 0, .int .i64 x, .int .i64 y] from r7)
              subst h80
              have e80 : qa.tmps[80]? = some (.slice (some ⟨g80, 0, none⟩) 1 1) := e80
              obtain ⟨u81, e81, r8⟩ := qF.2.1
              have e81 : qa.tmps[81]? = some (.agg #[.slice A1 l1.length c1, .slice A2 l2.length c2, .int .i64 cur]) := (show u81 = .agg #[.slice A1 l1.length c1, .slice A2 l2.length c2, .int .i64 cur] from r8) ▸ e81
              clear r8
              clear qO qF
              go_simp
              go_at_call 15
              refine (pall_any ⟨A1, c1, l1, A2, c2, l2, cur⟩ 1 [.mk 42 0 none 0 [] 0 0 x y] (some ⟨g80, 0, none⟩) 1 _ (bk_rd k80) (by simp) (by intro q hq; simp only [List.mem_cons, List.not_mem_nil, or_false] at hq; subst hq; exact ok_leaf _ _ _ _ _) (HOK.out.old (HW.out.trans (hB.mono HW.out.size)))).mono ?_
              rintro e w2 ⟨rfl, hb2⟩
              rw [all_gone HH.out]
              exact hK _ _ hb2 rfl
            refine BOk.yes rfl [9] [] rfl 5 true rfl rfl rfl (by kernel_rfl) (by kernel_rfl) (by kernel_rfl) (fun qK qa wr hB qO qF hK => ?_) ?_
            · obtain ⟨u82, e82, r9⟩ := qF.1
              have e82 : qa.tmps[82]? = some (.bool false) := (show u82 = .bool false from r9) ▸ e82
              clear r9
              clear qO qF
              go_simp
              exact hK _ _ (Below.refl _ _) rfl
            refine BOk.cons rfl [5, 10] [] rfl rfl (by kernel_rfl) (by kernel_rfl) (fun qK qa wr hB qO qF hK => ?_) ?_
            · obtain ⟨u78, e78, r5⟩ := qF.1
              have e78 : qa.tmps[78]? = some (.bool true) := (show u78 = .bool true from r5) ▸ e78
              clear r5
              obtain ⟨u83, e83, r10⟩ := qF.2.1
              have e83 : qa.tmps[83]? = some (.bool true) := (show u83 = .bool true from r10) ▸ e83
              clear r10
              clear qO qF
              go_simp
              refine hK _ _ (Below.refl _ _) ?_
              show (_ : Value) = _
              first | rfl | (simp; done) | (simp; omega)
            refine BOk.cons rfl [11] [] rfl rfl (by kernel_rfl) (by kernel_rfl) (fun qK qa wr hB qO qF hK => ?_) ?_
            · obtain ⟨u84, e84, r11⟩ := qF.1
              have e84 : qa.tmps[84]? = some (.bool true) := (show u84 = .bool true from r11) ▸ e84
              clear r11
              clear qO qF
              go_simp
              exact hK _ _ (Below.refl _ _) rfl
            refine BOk.yes rfl [] [11] rfl 12 true rfl rfl rfl (by kernel_rfl) (by kernel_rfl) (by kernel_rfl) (fun qK qa wr hB qO qF hK => ?_) ?_
            · have e11 : qa.tmps[11]? = some (.pointer (some ⟨wq.heap.size, 0, none⟩)) := qO.1.trans rfl
              clear qO qF
              have hn0 := (bcell hB _ _ (World.block_lt_of_cell? _ _ n0)).trans n0
              have hn1 := (bcell hB _ _ (World.block_lt_of_cell? _ _ n1)).trans n1
              have hn2 := (bcell hB _ _ (World.block_lt_of_cell? _ _ n2)).trans n2
              have hn3 := (bcell hB _ _ (World.block_lt_of_cell? _ _ n3)).trans n3
              have hn4 := (bcell hB _ _ (World.block_lt_of_cell? _ _ n4)).trans n4
              have hn5 := (bcell hB _ _ (World.block_lt_of_cell? _ _ n5)).trans n5
              have hn6 := (bcell hB _ _ (World.block_lt_of_cell? _ _ n6)).trans n6
              go_simp
              exact hK _ _ (Below.refl _ _) rfl
            refine BOk.yes rfl [13] [] rfl 12 true rfl rfl rfl (by kernel_rfl) (by kernel_rfl) (by kernel_rfl) (fun qK qa wr hB qO qF hK => ?_) ?_
            · obtain ⟨u86, e86, r13⟩ := qF.1
              have e86 : qa.tmps[86]? = some (.agg #[.int .i64 42, .int .i64 0, .slice none 0 0, .int .i64 0, .int .u64 0, .int .i64 x, .int .i64 y]) := (show u86 = .agg #[.int .i64 42, .int .i64 0, .slice none 0 0, .int .i64 0, .int .u64 0, .int .i64 x, .int .i64 y] from r13) ▸ e86
              clear r13
              clear qO qF
              refine wp_bs_node (.tmp 86) rfl (act_eval e86) ?_
              exact hK _ _ ((Below.refl _ _).alloc (Nat.le_refl _) _) ⟨_, rfl, Bk.new _ _ _⟩
            refine BOk.yes rfl [14] [] rfl 12 true rfl rfl rfl (by kernel_rfl) (by kernel_rfl) (by kernel_rfl) (fun qK qa wr hB qO qF hK => ?_) ?_
            · obtain ⟨u87, e87, r14⟩ := qF.1
              obtain ⟨g87, h87, k87⟩ := (show ∃ g, u87 = .slice (some ⟨g, 0, none⟩) 1 1 ∧ Bk wr g 41 #[.int .i64 42, .int .i64 0, .slice none 0 0, .int .i64 0, .int .u64 0, .int .i64 x, .int .i64 y] from r14)
              subst h87
              have e87 : qa.tmps[87]? = some (.slice (some ⟨g87, 0, none⟩) 1 1) := e87
              clear qO qF
              go_simp
              exact hK _ _ (Below.refl _ _) ⟨_, rfl, k87⟩
            refine BOk.yes rfl [15] [] rfl 12 true rfl rfl rfl (by kernel_rfl) (by kernel_rfl) (by kernel_rfl) (fun qK qa wr hB qO qF hK => ?_) ?_
            · obtain ⟨u88, e88, r15⟩ := qF.1
              obtain ⟨g88, h88, k88⟩ := (show ∃ g, u88 = .agg #[.int .i64 15, .int .i64 0, .slice (some ⟨g, 0, none⟩) 1 1, .int .i64 0, .int .u64 0, .int .i64 0, .int .i64 0] ∧ Bk wr g 41 #[.int .i64 42, .int .i64 0, .slice none 0 0, .int .i64 0, .int .u64 0, .int .i64 x, .int .i64 y] from r15)
              subst h88
              have e88 : qa.tmps[88]? = some (.agg #[.int .i64 15, .int .i64 0, .slice (some ⟨g88, 0, none⟩) 1 1, .int .i64 0, .int .u64 0, .int .i64 0, .int .i64 0]) := e88
              clear qO qF
              refine wp_bs_node (.tmp 88) rfl (act_eval e88) ?_
              exact hK _ _ ((Below.refl _ _).alloc (Nat.le_refl _) _) ⟨_, _, rfl, k88.alloc _, Bk.new _ _ _⟩
            refine BOk.yes rfl [] [9] rfl 12 true rfl rfl rfl (by kernel_rfl) (by kernel_rfl) (by kernel_rfl) (fun qK qa wr hB qO qF hK => ?_) ?_
            · have e9 : qa.tmps[9]? = some (.pointer (some ⟨w1.heap.size, 0, none⟩)) := qO.1.trans rfl
              clear qO qF
              have hk0 := (bcell hB _ _ (World.block_lt_of_cell? _ _ k0)).trans k0
              have hk1 := (bcell hB _ _ (World.block_lt_of_cell? _ _ k1)).trans k1
              have hk2 := (bcell hB _ _ (World.block_lt_of_cell? _ _ k2)).trans k2
              go_simp
              exact hK _ _ (Below.refl _ _) rfl
            refine BOk.yes rfl [16, 17] [] rfl 12 true rfl rfl rfl (by kernel_rfl) (by kernel_rfl) (by kernel_rfl) (fun qK qa wr hB qO qF hK => ?_) ?_
            · obtain ⟨u89, e89, r16⟩ := qF.1
              obtain ⟨g89, i89, h89, k89, m89⟩ := (show ∃ g g2, u89 = .slice (some ⟨g2, 0, none⟩) 1 1 ∧ Bk wr g 41 #[.int .i64 42, .int .i64 0, .slice none 0 0, .int .i64 0, .int .u64 0, .int .i64 x, .int .i64 y] ∧ Bk wr g2 41 #[.int .i64 15, .int .i64 0, .slice (some ⟨g, 0, none⟩) 1 1, .int .i64 0, .int .u64 0, .int .i64 0, .int .i64 0] from r16)
              subst h89
              have e89 : qa.tmps[89]? = some (.slice (some ⟨i89, 0, none⟩) 1 1) := e89
              obtain ⟨u90, e90, r17⟩ := qF.2.1
              have e90 : qa.tmps[90]? = some (.agg #[.slice A1 l1.length c1, .slice A2 l2.length c2, .int .i64 cur]) := (show u90 = .agg #[.slice A1 l1.length c1, .slice A2 l2.length c2, .int .i64 cur] from r17) ▸ e90
              clear r17
              clear qO qF
              go_simp
              go_at_call 15
              refine (pall_any ⟨A1, c1, l1, A2, c2, l2, cur⟩ 2 [.mk 15 0 (some ⟨g89, 0, none⟩) 1 [.mk 42 0 none 0 [] 0 0 x y] 0 0 0 0] (some ⟨i89, 0, none⟩) 1 _ (bk_rd m89) (by simp) (by intro q hq; simp only [List.mem_cons, List.not_mem_nil, or_false] at hq; subst hq; exact ⟨bk_rd k89, by simp, by decide, (by intro q hq; simp only [List.mem_cons, List.not_mem_nil, or_false] at hq; subst hq; exact ok_leaf _ _ _ _ _)⟩) (HOK.out.old (HW.out.trans (hB.mono HW.out.size)))).mono ?_
              rintro e w2 ⟨rfl, hb2⟩
              rw [all_not HH.out]
              exact hK _ _ hb2 rfl
            refine BOk.yes rfl [18] [] rfl 12 true rfl rfl rfl (by kernel_rfl) (by kernel_rfl) (by kernel_rfl) (fun qK qa wr hB qO qF hK => ?_) ?_
            · obtain ⟨u91, e91, r18⟩ := qF.1
              have e91 : qa.tmps[91]? = some (.bool false) := (show u91 = .bool false from r18) ▸ e91
              clear r18
              clear qO qF
              go_simp
              exact hK _ _ (Below.refl _ _) rfl
            refine BOk.cons rfl [12, 19] [] rfl rfl (by kernel_rfl) (by kernel_rfl) (fun qK qa wr hB qO qF hK => ?_) ?_
            · obtain ⟨u85, e85, r12⟩ := qF.1
              have e85 : qa.tmps[85]? = some (.bool true) := (show u85 = .bool true from r12) ▸ e85
              clear r12
              obtain ⟨u92, e92, r19⟩ := qF.2.1
              have e92 : qa.tmps[92]? = some (.bool true) := (show u92 = .bool true from r19) ▸ e92
              clear r19
              clear qO qF
              go_simp
              refine hK _ _ (Below.refl _ _) ?_
              show (_ : Value) = _
              first | rfl | (simp; done) | (simp; omega)
            refine BOk.cons rfl [20] [] rfl rfl (by kernel_rfl) (by kernel_rfl) (fun qK qa wr hB qO qF hK => ?_) ?_
            · obtain ⟨u93, e93, r20⟩ := qF.1
              have e93 : qa.tmps[93]? = some (.bool true) := (show u93 = .bool true from r20) ▸ e93
              clear r20
              clear qO qF
              go_simp
              exact hK _ _ (Below.refl _ _) rfl
            exact BOk.nil
          intro vals wr hl hB hR
          match vals, hl with
          | [z73, z74, z75, z76, z77, z78, z79, z80, z81, z82, z83, z84, z85, z86, z87, z88, z89, z90, z91, z92, z93, z6], _ =>
          have r21 : z6 = .bool true := hR 21 _ rfl
          subst r21
          clear hR
          simp only [List.cons_append, List.nil_append, putAll, Act.put, List.setIfInBounds_toArray, List.set_cons_zero, List.set_cons_succ]
          go_wp2_with fail
          go_ret
          exact ⟨rfl, HW.out.trans (hB.mono HW.out.size)⟩
    by_cases hx1 : (l2.length : Int) ≤ x
    · have HH : Hid (hasL l2 x = []) := Lib.hid (by unfold hasL; rw [dif_neg (by omega)])
      go_wp2_with fail
      go_loopw [10] (fun i wr => ∃ k : Nat, k ≤ 6 ∧ i = .int .i64 (26 + k) ∧ Below W0.heap.size W0 wr ∧ Bk wr w1.heap.size 28 #[.slice A1 l1.length c1, .slice A2 l2.length c2, .int .i64 cur]) (fun i _ => 32 - (intOf i).toNat)
      case atStart => exact ⟨0, by omega, rfl, hbel, kl⟩
      case round =>
        obtain ⟨wq, hwq⟩ : ∃ wq, wq = wr := ⟨_, rfl⟩
        subst hwq
        obtain ⟨k, hk, rfl, hbel, kl⟩ := hrel
        have k0 := kl.cell 0
        have k1 := kl.cell 1
        have k2 := kl.cell 2
        simp at k0 k1 k2
        by_cases hlt : k < 6
        · as_aux_lemma =>
          go_wp2_with fail
          refine (HDO.out (26 + k) x y _ hbel).mono ?_
          rintro e w3 ⟨rfl, hb3⟩
          rw [do_none _ _ _ _ (by omega) HH.out, none_v]
          have kl := kl.old hb3
          have hbel := hbel.trans (hb3.mono hbel.size)
          clear hb3
          go_wp2_with fail
          go_roundw
          case rel => exact ⟨k + 1, by omega, by go_num, hbel, kl⟩
          case measure => simp [intOf]; omega
        · as_aux_lemma =>
          obtain rfl : k = 6 := by omega
          have kl := kl.alloc (.cells #[.int .i64 42, .int .i64 0, .slice none 0 0, .int .i64 0, .int .u64 0, .int .i64 x, .int .i64 y] 41)
          have kg := Bk.new wq 41 #[.int .i64 42, .int .i64 0, .slice none 0 0, .int .i64 0, .int .u64 0, .int .i64 x, .int .i64 y]
          have hbel := hbel.alloc hbel.size (.cells #[.int .i64 42, .int .i64 0, .slice none 0 0, .int .i64 0, .int .u64 0, .int .i64 x, .int .i64 y] 41)
          clear k0 k1 k2
          have k0 := kl.cell 0
          have k1 := kl.cell 1
          have k2 := kl.cell 2
          have n0 := kg.cell 0
          have n1 := kg.cell 1
          have n2 := kg.cell 2
          have n3 := kg.cell 3
          have n4 := kg.cell 4
          have n5 := kg.cell 5
          have n6 := kg.cell 6
          have H25 : Hid (doV ⟨A1, c1, l1, A2, c2, l2, cur⟩ 25 x 0 = ⟨1, 0⟩) := Lib.hid (by rw [show doV ⟨A1, c1, l1, A2, c2, l2, cur⟩ 25 x 0 = intV (hasL l2 x).length from rfl, HH.out]; rfl)
          have HW := Lib.hid hbel
          go_upto_region 15 with fail
          refine wp_region_s (fun qk => (regPoison A1 A2 c1 c2 l1 l2 cur x y w1 wq).getD qk .any) (by kernel_rfl) ?_ ?_
          · refine BOk.cons rfl [] [7] rfl rfl (by kernel_rfl) (by kernel_rfl) (fun qK qa wr hB qO qF hK => ?_) ?_
            · have e7 : qa.tmps[7]? = some (.int .i64 x) := qO.1.trans rfl
              clear qO qF
              go_simp
              exact hK _ _ (Below.refl _ _) rfl
            refine BOk.cons rfl [] [9] rfl rfl (by kernel_rfl) (by kernel_rfl) (fun qK qa wr hB qO qF hK => ?_) ?_
            · have e9 : qa.tmps[9]? = some (.pointer (some ⟨w1.heap.size, 0, none⟩)) := qO.1.trans rfl
              clear qO qF
              have hk0 := (bcell hB _ _ (World.block_lt_of_cell? _ _ k0)).trans k0
              have hk1 := (bcell hB _ _ (World.block_lt_of_cell? _ _ k1)).trans k1
              have hk2 := (bcell hB _ _ (World.block_lt_of_cell? _ _ k2)).trans k2
              go_simp
              exact hK _ _ (Below.refl _ _) rfl
            refine BOk.cons rfl [0, 1] [] rfl rfl (by kernel_rfl) (by kernel_rfl) (fun qK qa wr hB qO qF hK => ?_) ?_
            · obtain ⟨u73, e73, r0⟩ := qF.1
              have e73 : qa.tmps[73]? = some (.int .i64 x) := (show u73 = .int .i64 x from r0) ▸ e73
              clear r0
              obtain ⟨u74, e74, r1⟩ := qF.2.1
              have e74 : qa.tmps[74]? = some (.agg #[.slice A1 l1.length c1, .slice A2 l2.length c2, .int .i64 cur]) := (show u74 = .agg #[.slice A1 l1.length c1, .slice A2 l2.length c2, .int .i64 cur] from r1) ▸ e74
              clear r1
              clear qO qF
              go_simp
              go_at_call 9
              refine (HDO.out 25 x 0 _ (HW.out.trans (hB.mono HW.out.size))).mono ?_
              rintro e w2 ⟨rfl, hb2⟩
              rw [H25.out]
              exact hK _ _ hb2 rfl
            refine BOk.cons rfl [] [] rfl rfl (by kernel_rfl) (by kernel_rfl) (fun qK qa wr hB qO qF hK => ?_) ?_
            · clear qO qF
              go_simp
              exact hK _ _ (Below.refl _ _) rfl
            refine BOk.cons rfl [2, 3] [] rfl rfl (by kernel_rfl) (by kernel_rfl) (fun qK qa wr hB qO qF hK => ?_) ?_
            · obtain ⟨u75, e75, r2⟩ := qF.1
              have e75 : qa.tmps[75]? = some (.agg #[.int .i64 1, .int .u64 0]) := (show u75 = .agg #[.int .i64 1, .int .u64 0] from r2) ▸ e75
              clear r2
              obtain ⟨u76, e76, r3⟩ := qF.2.1
              have e76 : qa.tmps[76]? = some (.agg #[.int .i64 1, .int .u64 0]) := (show u76 = .agg #[.int .i64 1, .int .u64 0] from r3) ▸ e76
              clear r3
              clear qO qF
              go_simp
              refine hK _ _ (Below.refl _ _) ?_
              show (_ : Value) = _
              first | rfl | (simp; done) | (simp; omega)
            refine BOk.cons rfl [4] [] rfl rfl (by kernel_rfl) (by kernel_rfl) (fun qK qa wr hB qO qF hK => ?_) ?_
            · obtain ⟨u77, e77, r4⟩ := qF.1
              have e77 : qa.tmps[77]? = some (.bool true) := (show u77 = .bool true from r4) ▸ e77
              clear r4
              clear qO qF
              go_simp
              exact hK _ _ (Below.refl _ _) rfl
            refine BOk.yes rfl [] [11] rfl 5 true rfl rfl rfl (by kernel_rfl) (by kernel_rfl) (by kernel_rfl) (fun qK qa wr hB qO qF hK => ?_) ?_
            · have e11 : qa.tmps[11]? = some (.pointer (some ⟨wq.heap.size, 0, none⟩)) := qO.1.trans rfl
              clear qO qF
              have hn0 := (bcell hB _ _ (World.block_lt_of_cell? _ _ n0)).trans n0
              have hn1 := (bcell hB _ _ (World.block_lt_of_cell? _ _ n1)).trans n1
              have hn2 := (bcell hB _ _ (World.block_lt_of_cell? _ _ n2)).trans n2
              have hn3 := (bcell hB _ _ (World.block_lt_of_cell? _ _ n3)).trans n3
              have hn4 := (bcell hB _ _ (World.block_lt_of_cell? _ _ n4)).trans n4
              have hn5 := (bcell hB _ _ (World.block_lt_of_cell? _ _ n5)).trans n5
              have hn6 := (bcell hB _ _ (World.block_lt_of_cell? _ _ n6)).trans n6
              go_simp
              exact hK _ _ (Below.refl _ _) rfl
            refine BOk.yes rfl [6] [] rfl 5 true rfl rfl rfl (by kernel_rfl) (by kernel_rfl) (by kernel_rfl) (fun qK qa wr hB qO qF hK => ?_) ?_
            · obtain ⟨u79, e79, r6⟩ := qF.1
              have e79 : qa.tmps[79]? = some (.agg #[.int .i64 42, .int .i64 0, .slice none 0 0, .int .i64 0, .int .u64 0, .int .i64 x, .int .i64 y]) := (show u79 = .agg #[.int .i64 42, .int .i64 0, .slice none 0 0, .int .i64 0, .int .u64 0, .int .i64 x, .int .i64 y] from r6) ▸ e79
              clear r6
              clear qO qF
              refine wp_bs_node (.tmp 79) rfl (act_eval e79) ?_
              exact hK _ _ ((Below.refl _ _).alloc (Nat.le_refl _) _) ⟨_, rfl, Bk.new _ _ _⟩
            refine BOk.yes rfl [] [9] rfl 5 true rfl rfl rfl (by kernel_rfl) (by kernel_rfl) (by kernel_rfl) (fun qK qa wr hB qO qF hK => ?_) ?_
            · have e9 : qa.tmps[9]? = some (.pointer (some ⟨w1.heap.size, 0, none⟩)) := qO.1.trans rfl
              clear qO qF
              have hk0 := (bcell hB _ _ (World.block_lt_of_cell? _ _ k0)).trans k0
              have hk1 := (bcell hB _ _ (World.block_lt_of_cell? _ _ k1)).trans k1
              have hk2 := (bcell hB _ _ (World.block_lt_of_cell? _ _ k2)).trans k2
              go_simp
              exact hK _ _ (Below.refl _ _) rfl
            refine BOk.yes rfl [7, 8] [] rfl 5 true rfl rfl rfl (by kernel_rfl) (by kernel_rfl) (by kernel_rfl) (fun qK qa wr hB qO qF hK => ?_) ?_
            · obtain ⟨u80, e80, r7⟩ := qF.1
              obtain ⟨g80, h80, k80⟩ := (show ∃ g, u80 = .slice (some ⟨g, 0, none⟩) 1 1 ∧ Bk wr g 41 #[.int .i64 42, .int .i64 0, .slice none 0 0, .int .i64 0, .int .u64 0, .int .i64 x, .int .i64 y] from r7)
              subst h80
              have e80 : qa.tmps[80]? = some (.slice (some ⟨g80, 0, none⟩) 1 1) := e80
              obtain ⟨u81, e81, r8⟩ := qF.2.1
              have e81 : qa.tmps[81]? = some (.agg #[.slice A1 l1.length c1, .slice A2 l2.length c2, .int .i64 cur]) := (show u81 = .agg #[.slice A1 l1.length c1, .slice A2 l2.length c2, .int .i64 cur] from r8) ▸ e81
              clear r8
              clear qO qF
              go_simp
              go_at_call 15
              refine (pall_any ⟨A1, c1, l1, A2, c2, l2, cur⟩ 1 [.mk 42 0 none 0 [] 0 0 x y] (some ⟨g80, 0, none⟩) 1 _ (bk_rd k80) (by simp) (by intro q hq; simp only [List.mem_cons, List.not_mem_nil, or_false] at hq; subst hq; exact ok_leaf _ _ _ _ _) (HOK.out.old (HW.out.trans (hB.mono HW.out.size)))).mono ?_
              rintro e w2 ⟨rfl, hb2⟩
              rw [all_gone HH.out]
              exact hK _ _ hb2 rfl
            refine BOk.yes rfl [9] [] rfl 5 true rfl rfl rfl (by kernel_rfl) (by kernel_rfl) (by kernel_rfl) (fun qK qa wr hB qO qF hK => ?_) ?_
            · obtain ⟨u82, e82, r9⟩ := qF.1
              have e82 : qa.tmps[82]? = some (.bool false) := (show u82 = .bool false from r9) ▸ e82
              clear r9
              clear qO qF
              go_simp
              exact hK _ _ (Below.refl _ _) rfl
            refine BOk.cons rfl [5, 10] [] rfl rfl (by kernel_rfl) (by kernel_rfl) (fun qK qa wr hB qO qF hK => ?_) ?_
            · obtain ⟨u78, e78, r5⟩ := qF.1
              have e78 : qa.tmps[78]? = some (.bool true) := (show u78 = .bool true from r5) ▸ e78
              clear r5
              obtain ⟨u83, e83, r10⟩ := qF.2.1
              have e83 : qa.tmps[83]? = some (.bool true) := (show u83 = .bool true from r10) ▸ e83
              clear r10
              clear qO qF
              go_simp
              refine hK _ _ (Below.refl _ _) ?_
              show (_ : Value) = _
              first | rfl | (simp; done) | (simp; omega)
            refine BOk.cons rfl [11] [] rfl rfl (by kernel_rfl) (by kernel_rfl) (fun qK qa wr hB qO qF hK => ?_) ?_
            · obtain ⟨u84, e84, r11⟩ := qF.1
              have e84 : qa.tmps[84]? = some (.bool true) := (show u84 = .bool true from r11) ▸ e84
              clear r11
              clear qO qF
              go_simp
              exact hK _ _ (Below.refl _ _) rfl
            refine BOk.yes rfl [] [11] rfl 12 true rfl rfl rfl (by kernel_rfl) (by kernel_rfl) (by kernel_rfl) (fun qK qa wr hB qO qF hK => ?_) ?_
            · have e11 : qa.tmps[11]? = some (.pointer (some ⟨wq.heap.size, 0, none⟩)) := qO.1.trans rfl
              clear qO qF
              have hn0 := (bcell hB _ _ (World.block_lt_of_cell? _ _ n0)).trans n0
              have hn1 := (bcell hB _ _ (World.block_lt_of_cell? _ _ n1)).trans n1
              have hn2 := (bcell hB _ _ (World.block_lt_of_cell? _ _ n2)).trans n2
              have hn3 := (bcell hB _ _ (World.block_lt_of_cell? _ _ n3)).trans n3
              have hn4 := (bcell hB _ _ (World.block_lt_of_cell? _ _ n4)).trans n4
              have hn5 := (bcell hB _ _ (World.block_lt_of_cell? _ _ n5)).trans n5
              have hn6 := (bcell hB _ _ (World.block_lt_of_cell? _ _ n6)).trans n6
              go_simp
              exact hK _ _ (Below.refl _ _) rfl
            refine BOk.yes rfl [13] [] rfl 12 true rfl rfl rfl (by kernel_rfl) (by kernel_rfl) (by kernel_rfl) (fun qK qa wr hB qO qF hK => ?_) ?_
            · obtain ⟨u86, e86, r13⟩ := qF.1
              have e86 : qa.tmps[86]? = some (.agg #[.int .i64 42, .int .i64 0, .slice none 0 0, .int .i64 0, .int .u64 0, .int .i64 x, .int .i64 y]) := (show u86 = .agg #[.int .i64 42, .int .i64 0, .slice none 0 0, .int .i64 0, .int .u64 0, .int .i64 x, .int .i64 y] from r13) ▸ e86
              clear r13
              clear qO qF
              refine wp_bs_node (.tmp 86) rfl (act_eval e86) ?_
              exact hK _ _ ((Below.refl _ _).alloc (Nat.le_refl _) _) ⟨_, rfl, Bk.new _ _ _⟩
            refine BOk.yes rfl [14] [] rfl 12 true rfl rfl rfl (by kernel_rfl) (by kernel_rfl) (by kernel_rfl) (fun qK qa wr hB qO qF hK => ?_) ?_
            · obtain ⟨u87, e87, r14⟩ := qF.1
              obtain ⟨g87, h87, k87⟩ := (show ∃ g, u87 = .slice (some ⟨g, 0, none⟩) 1 1 ∧ Bk wr g 41 #[.int .i64 42, .int .i64 0, .slice none 0 0, .int .i64 0, .int .u64 0, .int .i64 x, .int .i64 y] from r14)
              subst h87
              have e87 : qa.tmps[87]? = some (.slice (some ⟨g87, 0, none⟩) 1 1) := e87
              clear qO qF
              go_simp
              exact hK _ _ (Below.refl _ _) ⟨_, rfl, k87⟩
            refine BOk.yes rfl [15] [] rfl 12 true rfl rfl rfl (by kernel_rfl) (by kernel_rfl) (by kernel_rfl) (fun qK qa wr hB qO qF hK => ?_) ?_
            · obtain ⟨u88, e88, r15⟩ := qF.1
              obtain ⟨g88, h88, k88⟩ := (show ∃ g, u88 = .agg #[.int .i64 15, .int .i64 0, .slice (some ⟨g, 0, none⟩) 1 1, .int .i64 0, .int .u64 0, .int .i64 0, .int .i64 0] ∧ Bk wr g 41 #[.int .i64 42, .int .i64 0, .slice none 0 0, .int .i64 0, .int .u64 0, .int .i64 x, .int .i64 y] from r15)
              subst h88
              have e88 : qa.tmps[88]? = some (.agg #[.int .i64 15, .int .i64 0, .slice (some ⟨g88, 0, none⟩) 1 1, .int .i64 0, .int .u64 0, .int .i64 0, .int .i64 0]) := e88
              clear qO qF
              refine wp_bs_node (.tmp 88) rfl (act_eval e88) ?_
              exact hK _ _ ((Below.refl _ _).alloc (Nat.le_refl _) _) ⟨_, _, rfl, k88.alloc _, Bk.new _ _ _⟩
            refine BOk.yes rfl [] [9] rfl 12 true rfl rfl rfl (by kernel_rfl) (by kernel_rfl) (by kernel_rfl) (fun qK qa wr hB qO qF hK => ?_) ?_
            · have e9 : qa.tmps[9]? = some (.pointer (some ⟨w1.heap.size, 0, none⟩)) := qO.1.trans rfl
              clear qO qF
              have hk0 := (bcell hB _ _ (World.block_lt_of_cell? _ _ k0)).trans k0
              have hk1 := (bcell hB _ _ (World.block_lt_of_cell? _ _ k1)).trans k1
              have hk2 := (bcell hB _ _ (World.block_lt_of_cell? _ _ k2)).trans k2
              go_simp
              exact hK _ _ (Below.refl _ _) rfl
            refine BOk.yes rfl [16, 17] [] rfl 12 true rfl rfl rfl (by kernel_rfl) (by kernel_rfl) (by kernel_rfl) (fun qK qa wr hB qO qF hK => ?_) ?_
            · obtain ⟨u89, e89, r16⟩ := qF.1
              obtain ⟨g89, i89, h89, k89, m89⟩ := (show ∃ g g2, u89 = .slice (some ⟨g2, 0, none⟩) 1 1 ∧ Bk wr g 41 #[.int .i64 42, .int .i64 0, .slice none 0 0, .int .i64 0, .int .u64 0, .int .i64 x, .int .i64 y] ∧ Bk wr g2 41 #[.int .i64 15, .int .i64 0, .slice (some ⟨g, 0, none⟩) 1 1, .int .i64 0, .int .u64 0, .int .i64 0, .int .i64 0] from r16)
              subst h89
              have e89 : qa.tmps[89]? = some (.slice (some ⟨i89, 0, none⟩) 1 1) := e89
              obtain ⟨u90, e90, r17⟩ := qF.2.1
              have e90 : qa.tmps[90]? = some (.agg #[.slice A1 l1.length c1, .slice A2 l2.length c2, .int .i64 cur]) := (show u90 = .agg #[.slice A1 l1.length c1, .slice A2 l2.length c2, .int .i64 cur] from r17) ▸ e90
              clear r17
              clear qO qF
              go_simp
              go_at_call 15
              refine (pall_any ⟨A1, c1, l1, A2, c2, l2, cur⟩ 2 [.mk 15 0 (some ⟨g89, 0, none⟩) 1 [.mk 42 0 none 0 [] 0 0 x y] 0 0 0 0] (some ⟨i89, 0, none⟩) 1 _ (bk_rd m89) (by simp) (by intro q hq; simp only [List.mem_cons, List.not_mem_nil, or_false] at hq; subst hq; exact ⟨bk_rd k89, by simp, by decide, (by intro q hq; simp only [List.mem_cons, List.not_mem_nil, or_false] at hq; subst hq; exact ok_leaf _ _ _ _ _)⟩) (HOK.out.old (HW.out.trans (hB.mono HW.out.size)))).mono ?_
              rintro e w2 ⟨rfl, hb2⟩
              rw [all_not HH.out]
              exact hK _ _ hb2 rfl
            refine BOk.yes rfl [18] [] rfl 12 true rfl rfl rfl (by kernel_rfl) (by kernel_rfl) (by kernel_rfl) (fun qK qa wr hB qO qF hK => ?_) ?_
            · obtain ⟨u91, e91, r18⟩ := qF.1
              have e91 : qa.tmps[91]? = some (.bool false) := (show u91 = .bool false from r18) ▸ e91
              clear r18
              clear qO qF
              go_simp
              exact hK _ _ (Below.refl _ _) rfl
            refine BOk.cons rfl [12, 19] [] rfl rfl (by kernel_rfl) (by kernel_rfl) (fun qK qa wr hB qO qF hK => ?_) ?_
            · obtain ⟨u85, e85, r12⟩ := qF.1
              have e85 : qa.tmps[85]? = some (.bool true) := (show u85 = .bool true from r12) ▸ e85
              clear r12
              obtain ⟨u92, e92, r19⟩ := qF.2.1
              have e92 : qa.tmps[92]? = some (.bool true) := (show u92 = .bool true from r19) ▸ e92
              clear r19
              clear qO qF
              go_simp
              refine hK _ _ (Below.refl _ _) ?_
              show (_ : Value) = _
              first | rfl | (simp; done) | (simp; omega)
            refine BOk.cons rfl [20] [] rfl rfl (by kernel_rfl) (by kernel_rfl) (fun qK qa wr hB qO qF hK => ?_) ?_
            · obtain ⟨u93, e93, r20⟩ := qF.1
              have e93 : qa.tmps[93]? = some (.bool true) := (show u93 = .bool true from r20) ▸ e93
              clear r20
              clear qO qF
              go_simp
              exact hK _ _ (Below.refl _ _) rfl
            exact BOk.nil
          intro vals wr hl hB hR
          match vals, hl with
          | [z73, z74, z75, z76, z77, z78, z79, z80, z81, z82, z83, z84, z85, z86, z87, z88, z89, z90, z91, z92, z93, z6], _ =>
          have r21 : z6 = .bool true := hR 21 _ rfl
          subst r21
          clear hR
          simp only [List.cons_append, List.nil_append, putAll, Act.put, List.setIfInBounds_toArray, List.set_cons_zero, List.set_cons_succ]
          go_wp2_with fail
          go_ret
          exact ⟨rfl, HW.out.trans (hB.mono HW.out.size)⟩
    obtain ⟨n, rfl⟩ : ∃ n : Nat, x = n := ⟨x.toNat, by omega⟩
    have hn : n < l2.length := by omega
    obtain ⟨bB, oB, hA2, hbB, hcB⟩ := (HOK.out.brd.below hbel).elem (n := 1) (fun _ => rfl) (by omega) hn
    have hcB0 : w2.cell? ⟨bB, oB + n * 1, none⟩ = some (.slice l2[n].A l2[n].l.length l2[n].c) := hcB 0 _ rfl
    rw [Nat.mul_one] at hcB0
    have hhl : hasL l2 n = l2[n].l := by unfold hasL; rw [dif_pos ⟨by omega, by simpa using hn⟩]; rfl
    clear hcB
    generalize l2[n] = IV at *
    obtain ⟨A9, c9, l9⟩ := IV
    simp only at hcB0 hhl hA2
    subst hA2
    by_cases h9 : l9 = []
    · subst h9
      have HH : Hid (hasL l2 n = []) := Lib.hid hhl
      simp only [List.length_nil] at hcB0
      clear hhl
      go_wp2_with fail
      go_loopw [10] (fun i wr => ∃ k : Nat, k ≤ 6 ∧ i = .int .i64 (26 + k) ∧ Below W0.heap.size W0 wr ∧ Bk wr w1.heap.size 28 #[.slice A1 l1.length c1, .slice (some ⟨bB, oB, none⟩) l2.length c2, .int .i64 cur]) (fun i _ => 32 - (intOf i).toNat)
      case atStart => exact ⟨0, by omega, rfl, hbel, kl⟩
      case round =>
        obtain ⟨wq, hwq⟩ : ∃ wq, wq = wr := ⟨_, rfl⟩
        subst hwq
        obtain ⟨k, hk, rfl, hbel, kl⟩ := hrel
        have k0 := kl.cell 0
        have k1 := kl.cell 1
        have k2 := kl.cell 2
        simp at k0 k1 k2
        by_cases hlt : k < 6
        · as_aux_lemma =>
          go_wp2_with fail
          refine (HDO.out (26 + k) n y _ hbel).mono ?_
          rintro e w3 ⟨rfl, hb3⟩
          rw [do_none _ _ _ _ (by omega) HH.out, none_v]
          have kl := kl.old hb3
          have hbel := hbel.trans (hb3.mono hbel.size)
          clear hb3
          go_wp2_with fail
          go_roundw
          case rel => exact ⟨k + 1, by omega, by go_num, hbel, kl⟩
          case measure => simp [intOf]; omega
        · as_aux_lemma =>
          obtain rfl : k = 6 := by omega
          have kl := kl.alloc (.cells #[.int .i64 42, .int .i64 0, .slice none 0 0, .int .i64 0, .int .u64 0, .int .i64 (n : Nat), .int .i64 y] 41)
          have kg := Bk.new wq 41 #[.int .i64 42, .int .i64 0, .slice none 0 0, .int .i64 0, .int .u64 0, .int .i64 (n : Nat), .int .i64 y]
          have hbel := hbel.alloc hbel.size (.cells #[.int .i64 42, .int .i64 0, .slice none 0 0, .int .i64 0, .int .u64 0, .int .i64 (n : Nat), .int .i64 y] 41)
          clear k0 k1 k2
          have k0 := kl.cell 0
          have k1 := kl.cell 1
          have k2 := kl.cell 2
          have n0 := kg.cell 0
          have n1 := kg.cell 1
          have n2 := kg.cell 2
          have n3 := kg.cell 3
          have n4 := kg.cell 4
          have n5 := kg.cell 5
          have n6 := kg.cell 6
          have H25 : Hid (doV ⟨A1, c1, l1, some ⟨bB, oB, none⟩, c2, l2, cur⟩ 25 n 0 = ⟨1, 0⟩) := Lib.hid (by rw [show doV ⟨A1, c1, l1, some ⟨bB, oB, none⟩, c2, l2, cur⟩ 25 n 0 = intV (hasL l2 n).length from rfl, HH.out]; rfl)
          have HW := Lib.hid hbel
          go_upto_region 15 with fail
          refine wp_region_s (fun qk => (regPoison A1 (some ⟨bB, oB, none⟩) c1 c2 l1 l2 cur n y w1 wq).getD qk .any) (by kernel_rfl) ?_ ?_
          · refine BOk.cons rfl [] [7] rfl rfl (by kernel_rfl) (by kernel_rfl) (fun qK qa wr hB qO qF hK => ?_) ?_
            · have e7 : qa.tmps[7]? = some (.int .i64 (n : Nat)) := qO.1.trans rfl
              clear qO qF
              go_simp
              exact hK _ _ (Below.refl _ _) rfl
            refine BOk.cons rfl [] [9] rfl rfl (by kernel_rfl) (by kernel_rfl) (fun qK qa wr hB qO qF hK => ?_) ?_
            · have e9 : qa.tmps[9]? = some (.pointer (some ⟨w1.heap.size, 0, none⟩)) := qO.1.trans rfl
              clear qO qF
              have hk0 := (bcell hB _ _ (World.block_lt_of_cell? _ _ k0)).trans k0
              have hk1 := (bcell hB _ _ (World.block_lt_of_cell? _ _ k1)).trans k1
              have hk2 := (bcell hB _ _ (World.block_lt_of_cell? _ _ k2)).trans k2
              go_simp
              exact hK _ _ (Below.refl _ _) rfl
            refine BOk.cons rfl [0, 1] [] rfl rfl (by kernel_rfl) (by kernel_rfl) (fun qK qa wr hB qO qF hK => ?_) ?_
            · obtain ⟨u73, e73, r0⟩ := qF.1
              have e73 : qa.tmps[73]? = some (.int .i64 (n : Nat)) := (show u73 = .int .i64 (n : Nat) from r0) ▸ e73
              clear r0
              obtain ⟨u74, e74, r1⟩ := qF.2.1
              have e74 : qa.tmps[74]? = some (.agg #[.slice A1 l1.length c1, .slice (some ⟨bB, oB, none⟩) l2.length c2, .int .i64 cur]) := (show u74 = .agg #[.slice A1 l1.length c1, .slice (some ⟨bB, oB, none⟩) l2.length c2, .int .i64 cur] from r1) ▸ e74
              clear r1
              clear qO qF
              go_simp
              go_at_call 9
              refine (HDO.out 25 n 0 _ (HW.out.trans (hB.mono HW.out.size))).mono ?_
              rintro e w2 ⟨rfl, hb2⟩
              rw [H25.out]
              exact hK _ _ hb2 rfl
            refine BOk.cons rfl [] [] rfl rfl (by kernel_rfl) (by kernel_rfl) (fun qK qa wr hB qO qF hK => ?_) ?_
            · clear qO qF
              go_simp
              exact hK _ _ (Below.refl _ _) rfl
            refine BOk.cons rfl [2, 3] [] rfl rfl (by kernel_rfl) (by kernel_rfl) (fun qK qa wr hB qO qF hK => ?_) ?_
            · obtain ⟨u75, e75, r2⟩ := qF.1
              have e75 : qa.tmps[75]? = some (.agg #[.int .i64 1, .int .u64 0]) := (show u75 = .agg #[.int .i64 1, .int .u64 0] from r2) ▸ e75
              clear r2
              obtain ⟨u76, e76, r3⟩ := qF.2.1
              have e76 : qa.tmps[76]? = some (.agg #[.int .i64 1, .int .u64 0]) := (show u76 = .agg #[.int .i64 1, .int .u64 0] from r3) ▸ e76
              clear r3
              clear qO qF
              go_simp
              refine hK _ _ (Below.refl _ _) ?_
              show (_ : Value) = _
              first | rfl | (simp; done) | (simp; omega)
            refine BOk.cons rfl [4] [] rfl rfl (by kernel_rfl) (by kernel_rfl) (fun qK qa wr hB qO qF hK => ?_) ?_
            · obtain ⟨u77, e77, r4⟩ := qF.1
              have e77 : qa.tmps[77]? = some (.bool true) := (show u77 = .bool true from r4) ▸ e77
              clear r4
              clear qO qF
              go_simp
              exact hK _ _ (Below.refl _ _) rfl
            refine BOk.yes rfl [] [11] rfl 5 true rfl rfl rfl (by kernel_rfl) (by kernel_rfl) (by kernel_rfl) (fun qK qa wr hB qO qF hK => ?_) ?_
            · have e11 : qa.tmps[11]? = some (.pointer (some ⟨wq.heap.size, 0, none⟩)) := qO.1.trans rfl
              clear qO qF
              have hn0 := (bcell hB _ _ (World.block_lt_of_cell? _ _ n0)).trans n0
              have hn1 := (bcell hB _ _ (World.block_lt_of_cell? _ _ n1)).trans n1
              have hn2 := (bcell hB _ _ (World.block_lt_of_cell? _ _ n2)).trans n2
              have hn3 := (bcell hB _ _ (World.block_lt_of_cell? _ _ n3)).trans n3
              have hn4 := (bcell hB _ _ (World.block_lt_of_cell? _ _ n4)).trans n4
              have hn5 := (bcell hB _ _ (World.block_lt_of_cell? _ _ n5)).trans n5
              have hn6 := (bcell hB _ _ (World.block_lt_of_cell? _ _ n6)).trans n6
              go_simp
              exact hK _ _ (Below.refl _ _) rfl
            refine BOk.yes rfl [6] [] rfl 5 true rfl rfl rfl (by kernel_rfl) (by kernel_rfl) (by kernel_rfl) (fun qK qa wr hB qO qF hK => ?_) ?_
            · obtain ⟨u79, e79, r6⟩ := qF.1
              have e79 : qa.tmps[79]? = some (.agg #[.int .i64 42, .int .i64 0, .slice none 0 0, .int .i64 0, .int .u64 0, .int .i64 (n : Nat), .int .i64 y]) := (show u79 = .agg #[.int .i64 42, .int .i64 0, .slice none 0 0, .int .i64 0, .int .u64 0, .int .i64 (n : Nat), .int .i64 y] from r6) ▸ e79
              clear r6
              clear qO qF
              refine wp_bs_node (.tmp 79) rfl (act_eval e79) ?_
              exact hK _ _ ((Below.refl _ _).alloc (Nat.le_refl _) _) ⟨_, rfl, Bk.new _ _ _⟩
            refine BOk.yes rfl [] [9] rfl 5 true rfl rfl rfl (by kernel_rfl) (by kernel_rfl) (by kernel_rfl) (fun qK qa wr hB qO qF hK => ?_) ?_
            · have e9 : qa.tmps[9]? = some (.pointer (some ⟨w1.heap.size, 0, none⟩)) := qO.1.trans rfl
              clear qO qF
              have hk0 := (bcell hB _ _ (World.block_lt_of_cell? _ _ k0)).trans k0
              have hk1 := (bcell hB _ _ (World.block_lt_of_cell? _ _ k1)).trans k1
              have hk2 := (bcell hB _ _ (World.block_lt_of_cell? _ _ k2)).trans k2
              go_simp
              exact hK _ _ (Below.refl _ _) rfl
            refine BOk.yes rfl [7, 8] [] rfl 5 true rfl rfl rfl (by kernel_rfl) (by kernel_rfl) (by kernel_rfl) (fun qK qa wr hB qO qF hK => ?_) ?_
            · obtain ⟨u80, e80, r7⟩ := qF.1
              obtain ⟨g80, h80, k80⟩ := (show ∃ g, u80 = .slice (some ⟨g, 0, none⟩) 1 1 ∧ Bk wr g 41 #[.int .i64 42, .int .i64 0, .slice none 0 0, .int .i64 0, .int .u64 0, .int .i64 (n : Nat), .int .i64 y] from r7)
              subst h80
              have e80 : qa.tmps[80]? = some (.slice (some ⟨g80, 0, none⟩) 1 1) := e80
              obtain ⟨u81, e81, r8⟩ := qF.2.1
              have e81 : qa.tmps[81]? = some (.agg #[.slice A1 l1.length c1, .slice (some ⟨bB, oB, none⟩) l2.length c2, .int .i64 cur]) := (show u81 = .agg #[.slice A1 l1.length c1, .slice (some ⟨bB, oB, none⟩) l2.length c2, .int .i64 cur] from r8) ▸ e81
              clear r8
              clear qO qF
              go_simp
              go_at_call 15
              refine (pall_any ⟨A1, c1, l1, some ⟨bB, oB, none⟩, c2, l2, cur⟩ 1 [.mk 42 0 none 0 [] 0 0 n y] (some ⟨g80, 0, none⟩) 1 _ (bk_rd k80) (by simp) (by intro q hq; simp only [List.mem_cons, List.not_mem_nil, or_false] at hq; subst hq; exact ok_leaf _ _ _ _ _) (HOK.out.old (HW.out.trans (hB.mono HW.out.size)))).mono ?_
              rintro e w2 ⟨rfl, hb2⟩
              rw [all_gone HH.out]
              exact hK _ _ hb2 rfl
            refine BOk.yes rfl [9] [] rfl 5 true rfl rfl rfl (by kernel_rfl) (by kernel_rfl) (by kernel_rfl) (fun qK qa wr hB qO qF hK => ?_) ?_
            · obtain ⟨u82, e82, r9⟩ := qF.1
              have e82 : qa.tmps[82]? = some (.bool false) := (show u82 = .bool false from r9) ▸ e82
              clear r9
              clear qO qF
              go_simp
              exact hK _ _ (Below.refl _ _) rfl
            refine BOk.cons rfl [5, 10] [] rfl rfl (by kernel_rfl) (by kernel_rfl) (fun qK qa wr hB qO qF hK => ?_) ?_
            · obtain ⟨u78, e78, r5⟩ := qF.1
              have e78 : qa.tmps[78]? = some (.bool true) := (show u78 = .bool true from r5) ▸ e78
              clear r5
              obtain ⟨u83, e83, r10⟩ := qF.2.1
              have e83 : qa.tmps[83]? = some (.bool true) := (show u83 = .bool true from r10) ▸ e83
              clear r10
              clear qO qF
              go_simp
              refine hK _ _ (Below.refl _ _) ?_
              show (_ : Value) = _
              first | rfl | (simp; done) | (simp; omega)
            refine BOk.cons rfl [11] [] rfl rfl (by kernel_rfl) (by kernel_rfl) (fun qK qa wr hB qO qF hK => ?_) ?_
            · obtain ⟨u84, e84, r11⟩ := qF.1
              have e84 : qa.tmps[84]? = some (.bool true) := (show u84 = .bool true from r11) ▸ e84
              clear r11
              clear qO qF
              go_simp
              exact hK _ _ (Below.refl _ _) rfl
            refine BOk.yes rfl [] [11] rfl 12 true rfl rfl rfl (by kernel_rfl) (by kernel_rfl) (by kernel_rfl) (fun qK qa wr hB qO qF hK => ?_) ?_
            · have e11 : qa.tmps[11]? = some (.pointer (some ⟨wq.heap.size, 0, none⟩)) := qO.1.trans rfl
              clear qO qF
              have hn0 := (bcell hB _ _ (World.block_lt_of_cell? _ _ n0)).trans n0
              have hn1 := (bcell hB _ _ (World.block_lt_of_cell? _ _ n1)).trans n1
              have hn2 := (bcell hB _ _ (World.block_lt_of_cell? _ _ n2)).trans n2
              have hn3 := (bcell hB _ _ (World.block_lt_of_cell? _ _ n3)).trans n3
              have hn4 := (bcell hB _ _ (World.block_lt_of_cell? _ _ n4)).trans n4
              have hn5 := (bcell hB _ _ (World.block_lt_of_cell? _ _ n5)).trans n5
              have hn6 := (bcell hB _ _ (World.block_lt_of_cell? _ _ n6)).trans n6
              go_simp
              exact hK _ _ (Below.refl _ _) rfl
            refine BOk.yes rfl [13] [] rfl 12 true rfl rfl rfl (by kernel_rfl) (by kernel_rfl) (by kernel_rfl) (fun qK qa wr hB qO qF hK => ?_) ?_
            · obtain ⟨u86, e86, r13⟩ := qF.1
              have e86 : qa.tmps[86]? = some (.agg #[.int .i64 42, .int .i64 0, .slice none 0 0, .int .i64 0, .int .u64 0, .int .i64 (n : Nat), .int .i64 y]) := (show u86 = .agg #[.int .i64 42, .int .i64 0, .slice none 0 0, .int .i64 0, .int .u64 0, .int .i64 (n : Nat), .int .i64 y] from r13) ▸ e86
              clear r13
              clear qO qF
              refine wp_bs_node (.tmp 86) rfl (act_eval e86) ?_
              exact hK _ _ ((Below.refl _ _).alloc (Nat.le_refl _) _) ⟨_, rfl, Bk.new _ _ _⟩
            refine BOk.yes rfl [14] [] rfl 12 true rfl rfl rfl (by kernel_rfl) (by kernel_rfl) (by kernel_rfl) (fun qK qa wr hB qO qF hK => ?_) ?_
            · obtain ⟨u87, e87, r14⟩ := qF.1
              obtain ⟨g87, h87, k87⟩ := (show ∃ g, u87 = .slice (some ⟨g, 0, none⟩) 1 1 ∧ Bk wr g 41 #[.int .i64 42, .int .i64 0, .slice none 0 0, .int .i64 0, .int .u64 0, .int .i64 (n : Nat), .int .i64 y] from r14)
              subst h87
              have e87 : qa.tmps[87]? = some (.slice (some ⟨g87, 0, none⟩) 1 1) := e87
              clear qO qF
              go_simp
              exact hK _ _ (Below.refl _ _) ⟨_, rfl, k87⟩
            refine BOk.yes rfl [15] [] rfl 12 true rfl rfl rfl (by kernel_rfl) (by kernel_rfl) (by kernel_rfl) (fun qK qa wr hB qO qF hK => ?_) ?_
            · obtain ⟨u88, e88, r15⟩ := qF.1
              obtain ⟨g88, h88, k88⟩ := (show ∃ g, u88 = .agg #[.int .i64 15, .int .i64 0, .slice (some ⟨g, 0, none⟩) 1 1, .int .i64 0, .int .u64 0, .int .i64 0, .int .i64 0] ∧ Bk wr g 41 #[.int .i64 42, .int .i64 0, .slice none 0 0, .int .i64 0, .int .u64 0, .int .i64 (n : Nat), .int .i64 y] from r15)
              subst h88
              have e88 : qa.tmps[88]? = some (.agg #[.int .i64 15, .int .i64 0, .slice (some ⟨g88, 0, none⟩) 1 1, .int .i64 0, .int .u64 0, .int .i64 0, .int .i64 0]) := e88
              clear qO qF
              refine wp_bs_node (.tmp 88) rfl (act_eval e88) ?_
              exact hK _ _ ((Below.refl _ _).alloc (Nat.le_refl _) _) ⟨_, _, rfl, k88.alloc _, Bk.new _ _ _⟩
            refine BOk.yes rfl [] [9] rfl 12 true rfl rfl rfl (by kernel_rfl) (by kernel_rfl) (by kernel_rfl) (fun qK qa wr hB qO qF hK => ?_) ?_
            · have e9 : qa.tmps[9]? = some (.pointer (some ⟨w1.heap.size, 0, none⟩)) := qO.1.trans rfl
              clear qO qF
              have hk0 := (bcell hB _ _ (World.block_lt_of_cell? _ _ k0)).trans k0
              have hk1 := (bcell hB _ _ (World.block_lt_of_cell? _ _ k1)).trans k1
              have hk2 := (bcell hB _ _ (World.block_lt_of_cell? _ _ k2)).trans k2
              go_simp
              exact hK _ _ (Below.refl _ _) rfl
            refine BOk.yes rfl [16, 17] [] rfl 12 true rfl rfl rfl (by kernel_rfl) (by kernel_rfl) (by kernel_rfl) (fun qK qa wr hB qO qF hK => ?_) ?_
            · obtain ⟨u89, e89, r16⟩ := qF.1
              obtain ⟨g89, i89, h89, k89, m89⟩ := (show ∃ g g2, u89 = .slice (some ⟨g2, 0, none⟩) 1 1 ∧ Bk wr g 41 #[.int .i64 42, .int .i64 0, .slice none 0 0, .int .i64 0, .int .u64 0, .int .i64 (n : Nat), .int .i64 y] ∧ Bk wr g2 41 #[.int .i64 15, .int .i64 0, .slice (some ⟨g, 0, none⟩) 1 1, .int .i64 0, .int .u64 0, .int .i64 0, .int .i64 0] from r16)
              subst h89
              have e89 : qa.tmps[89]? = some (.slice (some ⟨i89, 0, none⟩) 1 1) := e89
              obtain ⟨u90, e90, r17⟩ := qF.2.1
              have e90 : qa.tmps[90]? = some (.agg #[.slice A1 l1.length c1, .slice (some ⟨bB, oB, none⟩) l2.length c2, .int .i64 cur]) := (show u90 = .agg #[.slice A1 l1.length c1, .slice (some ⟨bB, oB, none⟩) l2.length c2, .int .i64 cur] from r17) ▸ e90
              clear r17
              clear qO qF
              go_simp
              go_at_call 15
              refine (pall_any ⟨A1, c1, l1, some ⟨bB, oB, none⟩, c2, l2, cur⟩ 2 [.mk 15 0 (some ⟨g89, 0, none⟩) 1 [.mk 42 0 none 0 [] 0 0 n y] 0 0 0 0] (some ⟨i89, 0, none⟩) 1 _ (bk_rd m89) (by simp) (by intro q hq; simp only [List.mem_cons, List.not_mem_nil, or_false] at hq; subst hq; exact ⟨bk_rd k89, by simp, by decide, (by intro q hq; simp only [List.mem_cons, List.not_mem_nil, or_false] at hq; subst hq; exact ok_leaf _ _ _ _ _)⟩) (HOK.out.old (HW.out.trans (hB.mono HW.out.size)))).mono ?_
              rintro e w2 ⟨rfl, hb2⟩
              rw [all_not HH.out]
              exact hK _ _ hb2 rfl
            refine BOk.yes rfl [18] [] rfl 12 true rfl rfl rfl (by kernel_rfl) (by kernel_rfl) (by kernel_rfl) (fun qK qa wr hB qO qF hK => ?_) ?_
            · obtain ⟨u91, e91, r18⟩ := qF.1
              have e91 : qa.tmps[91]? = some (.bool false) := (show u91 = .bool false from r18) ▸ e91
              clear r18
              clear qO qF
              go_simp
              exact hK _ _ (Below.refl _ _) rfl
            refine BOk.cons rfl [12, 19] [] rfl rfl (by kernel_rfl) (by kernel_rfl) (fun qK qa wr hB qO qF hK => ?_) ?_
            · obtain ⟨u85, e85, r12⟩ := qF.1
              have e85 : qa.tmps[85]? = some (.bool true) := (show u85 = .bool true from r12) ▸ e85
              clear r12
              obtain ⟨u92, e92, r19⟩ := qF.2.1
              have e92 : qa.tmps[92]? = some (.bool true) := (show u92 = .bool true from r19) ▸ e92
              clear r19
              clear qO qF
              go_simp
              refine hK _ _ (Below.refl _ _) ?_
              show (_ : Value) = _
              first | rfl | (simp; done) | (simp; omega)
            refine BOk.cons rfl [20] [] rfl rfl (by kernel_rfl) (by kernel_rfl) (fun qK qa wr hB qO qF hK => ?_) ?_
            · obtain ⟨u93, e93, r20⟩ := qF.1
              have e93 : qa.tmps[93]? = some (.bool true) := (show u93 = .bool true from r20) ▸ e93
              clear r20
              clear qO qF
              go_simp
              exact hK _ _ (Below.refl _ _) rfl
            exact BOk.nil
          intro vals wr hl hB hR
          match vals, hl with
          | [z73, z74, z75, z76, z77, z78, z79, z80, z81, z82, z83, z84, z85, z86, z87, z88, z89, z90, z91, z92, z93, z6], _ =>
          have r21 : z6 = .bool true := hR 21 _ rfl
          subst r21
          clear hR
          simp only [List.cons_append, List.nil_append, putAll, Act.put, List.setIfInBounds_toArray, List.set_cons_zero, List.set_cons_succ]
          go_wp2_with fail
          go_ret
          exact ⟨rfl, HW.out.trans (hB.mono HW.out.size)⟩
    have h9l : 0 < l9.length := List.length_pos_iff.2 h9
    clear hhl h9 HOK HDO
    go_wp2_with fail
    go_ret
    exact ⟨rfl, hbel⟩
  by_cases hcm : (l1.length : Int) ≤ cur
  · have H41 : Hid (doV ⟨A1, c1, l1, A2, c2, l2, cur⟩ 41 0 y = none0) := Lib.hid (attrL_out (.inr hcm) _)
    go_wp2_with fail
    refine (HDO.out 41 0 y _ hbel).mono ?_
    rintro e w2 ⟨rfl, hb2⟩
    rw [H41.out, none_v]
    replace kp := kp.old hb2
    replace kl := kl.old hb2
    replace hbel := hbel.trans (hb2.mono hbel.size)
    clear hb2 p0 p1 H41
    have p0 : w2.cell? ⟨W0.heap.size, 0, none⟩ = some (.slice A2 l2.length c2) := kp.cell 0
    by_cases hx0 : x < 0
    · have HH : Hid (hasL l2 x = []) := Lib.hid (by unfold hasL; rw [dif_neg (by omega)])
      go_wp2_with fail
      go_loopw [10] (fun i wr => ∃ k : Nat, k ≤ 6 ∧ i = .int .i64 (26 + k) ∧ Below W0.heap.size W0 wr ∧ Bk wr w1.heap.size 28 #[.slice A1 l1.length c1, .slice A2 l2.length c2, .int .i64 cur]) (fun i _ => 32 - (intOf i).toNat)
      case atStart => exact ⟨0, by omega, rfl, hbel, kl⟩
      case round =>
        obtain ⟨wq, hwq⟩ : ∃ wq, wq = wr := ⟨_, rfl⟩
        subst hwq
        obtain ⟨k, hk, rfl, hbel, kl⟩ := hrel
        have k0 := kl.cell 0
        have k1 := kl.cell 1
        have k2 := kl.cell 2
        simp at k0 k1 k2
        by_cases hlt : k < 6
        · as_aux_lemma =>
          go_wp2_with fail
          refine (HDO.out (26 + k) x y _ hbel).mono ?_
          rintro e w3 ⟨rfl, hb3⟩
          rw [do_none _ _ _ _ (by omega) HH.out, none_v]
          have kl := kl.old hb3
          have hbel := hbel.trans (hb3.mono hbel.size)
          clear hb3
          go_wp2_with fail
          go_roundw
          case rel => exact ⟨k + 1, by omega, by go_num, hbel, kl⟩
          case measure => simp [intOf]; omega
        · as_aux_lemma =>
          obtain rfl : k = 6 := by omega
          have kl := kl.alloc (.cells #[.int .i64 42, .int .i64 0, .slice none 0 0, .int .i64 0, .int .u64 0, .int .i64 x, .int .i64 y] 41)
          have kg := Bk.new wq 41 #[.int .i64 42, .int .i64 0, .slice none 0 0, .int .i64 0, .int .u64 0, .int .i64 x, .int .i64 y]
          have hbel := hbel.alloc hbel.size (.cells #[.int .i64 42, .int .i64 0, .slice none 0 0, .int .i64 0, .int .u64 0, .int .i64 x, .int .i64 y] 41)
          clear k0 k1 k2
          have k0 := kl.cell 0
          have k1 := kl.cell 1
          have k2 := kl.cell 2
          have n0 := kg.cell 0
          have n1 := kg.cell 1
          have n2 := kg.cell 2
          have n3 := kg.cell 3
          have n4 := kg.cell 4
          have n5 := kg.cell 5
          have n6 := kg.cell 6
          have H25 : Hid (doV ⟨A1, c1, l1, A2, c2, l2, cur⟩ 25 x 0 = ⟨1, 0⟩) := Lib.hid (by rw [show doV ⟨A1, c1, l1, A2, c2, l2, cur⟩ 25 x 0 = intV (hasL l2 x).length from rfl, HH.out]; rfl)
          have HW := Lib.hid hbel
          go_upto_region 15 with fail
          refine wp_region_s (fun qk => (regPoison A1 A2 c1 c2 l1 l2 cur x y w1 wq).getD qk .any) (by kernel_rfl) ?_ ?_
          · refine BOk.cons rfl [] [7] rfl rfl (by kernel_rfl) (by kernel_rfl) (fun qK qa wr hB qO qF hK => ?_) ?_
            · have e7 : qa.tmps[7]? = some (.int .i64 x) := qO.1.trans rfl
              clear qO qF
              go_simp
              exact hK _ _ (Below.refl _ _) rfl
            refine BOk.cons rfl [] [9] rfl rfl (by kernel_rfl) (by kernel_rfl) (fun qK qa wr hB qO qF hK => ?_) ?_
            · have e9 : qa.tmps[9]? = some (.pointer (some ⟨w1.heap.size, 0, none⟩)) := qO.1.trans rfl
              clear qO qF
              have hk0 := (bcell hB _ _ (World.block_lt_of_cell? _ _ k0)).trans k0
              have hk1 := (bcell hB _ _ (World.block_lt_of_cell? _ _ k1)).trans k1
              have hk2 := (bcell hB _ _ (World.block_lt_of_cell? _ _ k2)).trans k2
              go_simp
              exact hK _ _ (Below.refl _ _) rfl
            refine BOk.cons rfl [0, 1] [] rfl rfl (by kernel_rfl) (by kernel_rfl) (fun qK qa wr hB qO qF hK => ?_) ?_
            · obtain ⟨u73, e73, r0⟩ := qF.1
              have e73 : qa.tmps[73]? = some (.int .i64 x) := (show u73 = .int .i64 x from r0) ▸ e73
              clear r0
              obtain ⟨u74, e74, r1⟩ := qF.2.1
              have e74 : qa.tmps[74]? = some (.agg #[.slice A1 l1.length c1, .slice A2 l2.length c2, .int .i64 cur]) := (show u74 = .agg #[.slice A1 l1.length c1, .slice A2 l2.length c2, .int .i64 cur] from r1) ▸ e74
              clear r1
              clear qO qF
              go_simp
              go_at_call 9
              refine (HDO.out 25 x 0 _ (HW.out.trans (hB.mono HW.out.size))).mono ?_
              rintro e w2 ⟨rfl, hb2⟩
              rw [H25.out]
              exact hK _ _ hb2 rfl
            refine BOk.cons rfl [] [] rfl rfl (by kernel_rfl) (by kernel_rfl) (fun qK qa wr hB qO qF hK => ?_) ?_
            · clear qO qF
              go_simp
              exact hK _ _ (Below.refl _ _) rfl
            refine BOk.cons rfl [2, 3] [] rfl rfl (by kernel_rfl) (by kernel_rfl) (fun qK qa wr hB qO qF hK => ?_) ?_
            · obtain ⟨u75, e75, r2⟩ := qF.1
              have e75 : qa.tmps[75]? = some (.agg #[.int .i64 1, .int .u64 0]) := (show u75 = .agg #[.int .i64 1, .int .u64 0] from r2) ▸ e75
              clear r2
              obtain ⟨u76, e76, r3⟩ := qF.2.1
              have e76 : qa.tmps[76]? = some (.agg #[.int .i64 1, .int .u64 0]) := (show u76 = .agg #[.int .i64 1, .int .u64 0] from r3) ▸ e76
              clear r3
              clear qO qF
              go_simp
              refine hK _ _ (Below.refl _ _) ?_
              show (_ : Value) = _
              first | rfl | (simp; done) | (simp; omega)
            refine BOk.cons rfl [4] [] rfl rfl (by kernel_rfl) (by kernel_rfl) (fun qK qa wr hB qO qF hK => ?_) ?_
            · obtain ⟨u77, e77, r4⟩ := qF.1
              have e77 : qa.tmps[77]? = some (.bool true) := (show u77 = .bool true from r4) ▸ e77
              clear r4
              clear qO qF
              go_simp
              exact hK _ _ (Below.refl _ _) rfl
            refine BOk.yes rfl [] [11] rfl 5 true rfl rfl rfl (by kernel_rfl) (by kernel_rfl) (by kernel_rfl) (fun qK qa wr hB qO qF hK => ?_) ?_
            · have e11 : qa.tmps[11]? = some (.pointer (some ⟨wq.heap.size, 0, none⟩)) := qO.1.trans rfl
              clear qO qF
              have hn0 := (bcell hB _ _ (World.block_lt_of_cell? _ _ n0)).trans n0
              have hn1 := (bcell hB _ _ (World.block_lt_of_cell? _ _ n1)).trans n1
              have hn2 := (bcell hB _ _ (World.block_lt_of_cell? _ _ n2)).trans n2
              have hn3 := (bcell hB _ _ (World.block_lt_of_cell? _ _ n3)).trans n3
              have hn4 := (bcell hB _ _ (World.block_lt_of_cell? _ _ n4)).trans n4
              have hn5 := (bcell hB _ _ (World.block_lt_of_cell? _ _ n5)).trans n5
              have hn6 := (bcell hB _ _ (World.block_lt_of_cell? _ _ n6)).trans n6
              go_simp
              exact hK _ _ (Below.refl _ _) rfl
            refine BOk.yes rfl [6] [] rfl 5 true rfl rfl rfl (by kernel_rfl) (by kernel_rfl) (by kernel_rfl) (fun qK qa wr hB qO qF hK => ?_) ?_
            · obtain ⟨u79, e79, r6⟩ := qF.1
              have e79 : qa.tmps[79]? = some (.agg #[.int .i64 42, .int .i64 0, .slice none 0 0, .int .i64 0, .int .u64 0, .int .i64 x, .int .i64 y]) := (show u79 = .agg #[.int .i64 42, .int .i64 0, .slice none 0 0, .int .i64 0, .int .u64 0, .int .i64 x, .int .i64 y] from r6) ▸ e79
              clear r6
              clear qO qF
              refine wp_bs_node (.tmp 79) rfl (act_eval e79) ?_
              exact hK _ _ ((Below.refl _ _).alloc (Nat.le_refl _) _) ⟨_, rfl, Bk.new _ _ _⟩
            refine BOk.yes rfl [] [9] rfl 5 true rfl rfl rfl (by kernel_rfl) (by kernel_rfl) (by kernel_rfl) (fun qK qa wr hB qO qF hK => ?_) ?_
            · have e9 : qa.tmps[9]? = some (.pointer (some ⟨w1.heap.size, 0, none⟩)) := qO.1.trans rfl
              clear qO qF
              have hk0 := (bcell hB _ _ (World.block_lt_of_cell? _ _ k0)).trans k0
              have hk1 := (bcell hB _ _ (World.block_lt_of_cell? _ _ k1)).trans k1
              have hk2 := (bcell hB _ _ (World.block_lt_of_cell? _ _ k2)).trans k2
              go_simp
              exact hK _ _ (Below.refl _ _) rfl
            refine BOk.yes rfl [7, 8] [] rfl 5 true rfl rfl rfl (by kernel_rfl) (by kernel_rfl) (by kernel_rfl) (fun qK qa wr hB qO qF hK => ?_) ?_
            · obtain ⟨u80, e80, r7⟩ := qF.1
              obtain ⟨g80, h80, k80⟩ := (show ∃ g, u80 = .slice (some ⟨g, 0, none⟩) 1 1 ∧ Bk wr g 41 #[.int .i64 42, .int .i64 0, .slice none 0 0, .int .i64 0, .int .u64 0, .int .i64 x, .int .i64 y] from r7)
              subst h80
              have e80 : qa.tmps[80]? = some (.slice (some ⟨g80, 0, none⟩) 1 1) := e80
              obtain ⟨u81, e81, r8⟩ := qF.2.1
              have e81 : qa.tmps[81]? = some (.agg #[.slice A1 l1.length c1, .slice A2 l2.length c2, .int .i64 cur]) := (show u81 = .agg #[.slice A1 l1.length c1, .slice A2 l2.length c2, .int .i64 cur] from r8) ▸ e81
              clear r8
              clear qO qF
              go_simp
              go_at_call 15
              refine (pall_any ⟨A1, c1, l1, A2, c2, l2, cur⟩ 1 [.mk 42 0 none 0 [] 0 0 x y] (some ⟨g80, 0, none⟩) 1 _ (bk_rd k80) (by simp) (by intro q hq; simp only [List.mem_cons, List.not_mem_nil, or_false] at hq; subst hq; exact ok_leaf _ _ _ _ _) (HOK.out.old (HW.out.trans (hB.mono HW.out.size)))).mono ?_
              rintro e w2 ⟨rfl, hb2⟩
              rw [all_gone HH.out]
              exact hK _ _ hb2 rfl
            refine BOk.yes rfl [9] [] rfl 5 true rfl rfl rfl (by kernel_rfl) (by kernel_rfl) (by kernel_rfl) (fun qK qa wr hB qO qF hK => ?_) ?_
            · obtain ⟨u82, e82, r9⟩ := qF.1
              have e82 : qa.tmps[82]? = some (.bool false) := (show u82 = .bool false from r9) ▸ e82
              clear r9
              clear qO qF
              go_simp
              exact hK _ _ (Below.refl _ _) rfl
            refine BOk.cons rfl [5, 10] [] rfl rfl (by kernel_rfl) (by kernel_rfl) (fun qK qa wr hB qO qF hK => ?_) ?_
            · obtain ⟨u78, e78, r5⟩ := qF.1
              have e78 : qa.tmps[78]? = some (.bool true) := (show u78 = .bool true from r5) ▸ e78
              clear r5
              obtain ⟨u83, e83, r10⟩ := qF.2.1
              have e83 : qa.tmps[83]? = some (.bool true) := (show u83 = .bool true from r10) ▸ e83
              clear r10
              clear qO qF
              go_simp
              refine hK _ _ (Below.refl _ _) ?_
              show (_ : Value) = _
              first | rfl | (simp; done) | (simp; omega)
            refine BOk.cons rfl [11] [] rfl rfl (by kernel_rfl) (by kernel_rfl) (fun qK qa wr hB qO qF hK => ?_) ?_
            · obtain ⟨u84, e84, r11⟩ := qF.1
              have e84 : qa.tmps[84]? = some (.bool true) := (show u84 = .bool true from r11) ▸ e84
              clear r11
              clear qO qF
              go_simp
              exact hK _ _ (Below.refl _ _) rfl
            refine BOk.yes rfl [] [11] rfl 12 true rfl rfl rfl (by kernel_rfl) (by kernel_rfl) (by kernel_rfl) (fun qK qa wr hB qO qF hK => ?_) ?_
            · have e11 : qa.tmps[11]? = some (.pointer (some ⟨wq.heap.size, 0, none⟩)) := qO.1.trans rfl
              clear qO qF
              have hn0 := (bcell hB _ _ (World.block_lt_of_cell? _ _ n0)).trans n0
              have hn1 := (bcell hB _ _ (World.block_lt_of_cell? _ _ n1)).trans n1
              have hn2 := (bcell hB _ _ (World.block_lt_of_cell? _ _ n2)).trans n2
              have hn3 := (bcell hB _ _ (World.block_lt_of_cell? _ _ n3)).trans n3
              have hn4 := (bcell hB _ _ (World.block_lt_of_cell? _ _ n4)).trans n4
              have hn5 := (bcell hB _ _ (World.block_lt_of_cell? _ _ n5)).trans n5
              have hn6 := (bcell hB _ _ (World.block_lt_of_cell? _ _ n6)).trans n6
              go_simp
              exact hK _ _ (Below.refl _ _) rfl
            refine BOk.yes rfl [13] [] rfl 12 true rfl rfl rfl (by kernel_rfl) (by kernel_rfl) (by kernel_rfl) (fun qK qa wr hB qO qF hK => ?_) ?_
            · obtain ⟨u86, e86, r13⟩ := qF.1
              have e86 : qa.tmps[86]? = some (.agg #[.int .i64 42, .int .i64 0, .slice none 0 0, .int .i64 0, .int .u64 0, .int .i64 x, .int .i64 y]) := (show u86 = .agg #[.int .i64 42, .int .i64 0, .slice none 0 0, .int .i64 0, .int .u64 0, .int .i64 x, .int .i64 y] from r13) ▸ e86
              clear r13
              clear qO qF
              refine wp_bs_node (.tmp 86) rfl (act_eval e86) ?_
              exact hK _ _ ((Below.refl _ _).alloc (Nat.le_refl _) _) ⟨_, rfl, Bk.new _ _ _⟩
            refine BOk.yes rfl [14] [] rfl 12 true rfl rfl rfl (by kernel_rfl) (by kernel_rfl) (by kernel_rfl) (fun qK qa wr hB qO qF hK => ?_) ?_
            · obtain ⟨u87, e87, r14⟩ := qF.1
              obtain ⟨g87, h87, k87⟩ := (show ∃ g, u87 = .slice (some ⟨g, 0, none⟩) 1 1 ∧ Bk wr g 41 #[.int .i64 42, .int .i64 0, .slice none 0 0, .int .i64 0, .int .u64 0, .int .i64 x, .int .i64 y] from r14)
              subst h87
              have e87 : qa.tmps[87]? = some (.slice (some ⟨g87, 0, none⟩) 1 1) := e87
              clear qO qF
              go_simp
              exact hK _ _ (Below.refl _ _) ⟨_, rfl, k87⟩
            refine BOk.yes rfl [15] [] rfl 12 true rfl rfl rfl (by kernel_rfl) (by kernel_rfl) (by kernel_rfl) (fun qK qa wr hB qO qF hK => ?_) ?_
            · obtain ⟨u88, e88, r15⟩ := qF.1
              obtain ⟨g88, h88, k88⟩ := (show ∃ g, u88 = .agg #[.int .i64 15, .int .i64 0, .slice (some ⟨g, 0, none⟩) 1 1, .int .i64 0, .int .u64 0, .int .i64 0, .int .i64 0] ∧ Bk wr g 41 #[.int .i64 42, .int .i64 0, .slice none 0 0, .int .i64 0, .int .u64 0, .int .i64 x, .int .i64 y] from r15)
              subst h88
              have e88 : qa.tmps[88]? = some (.agg #[.int .i64 15, .int .i64 0, .slice (some ⟨g88, 0, none⟩) 1 1, .int .i64 0, .int .u64 0, .int .i64 0, .int .i64 0]) := e88
              clear qO qF
              refine wp_bs_node (.tmp 88) rfl (act_eval e88) ?_
              exact hK _ _ ((Below.refl _ _).alloc (Nat.le_refl _) _) ⟨_, _, rfl, k88.alloc _, Bk.new _ _ _⟩
            refine BOk.yes rfl [] [9] rfl 12 true rfl rfl rfl (by kernel_rfl) (by kernel_rfl) (by kernel_rfl) (fun qK qa wr hB qO qF hK => ?_) ?_
            · have e9 : qa.tmps[9]? = some (.pointer (some ⟨w1.heap.size, 0, none⟩)) := qO.1.trans rfl
              clear qO qF
              have hk0 := (bcell hB _ _ (World.block_lt_of_cell? _ _ k0)).trans k0
              have hk1 := (bcell hB _ _ (World.block_lt_of_cell? _ _ k1)).trans k1
              have hk2 := (bcell hB _ _ (World.block_lt_of_cell? _ _ k2)).trans k2
              go_simp
              exact hK _ _ (Below.refl _ _) rfl
            refine BOk.yes rfl [16, 17] [] rfl 12 true rfl rfl rfl (by kernel_rfl) (by kernel_rfl) (by kernel_rfl) (fun qK qa wr hB qO qF hK => ?_) ?_
            · obtain ⟨u89, e89, r16⟩ := qF.1
              obtain ⟨g89, i89, h89, k89, m89⟩ := (show ∃ g g2, u89 = .slice (some ⟨g2, 0, none⟩) 1 1 ∧ Bk wr g 41 #[.int .i64 42, .int .i64 0, .slice none 0 0, .int .i64 0, .int .u64 0, .int .i64 x, .int .i64 y] ∧ Bk wr g2 41 #[.int .i64 15, .int .i64 0, .slice (some ⟨g, 0, none⟩) 1 1, .int .i64 0, .int .u64 0, .int .i64 0, .int .i64 0] from r16)
              subst h89
              have e89 : qa.tmps[89]? = some (.slice (some ⟨i89, 0, none⟩) 1 1) := e89
              obtain ⟨u90, e90, r17⟩ := qF.2.1
              have e90 : qa.tmps[90]? = some (.agg #[.slice A1 l1.length c1, .slice A2 l2.length c2, .int .i64 cur]) := (show u90 = .agg #[.slice A1 l1.length c1, .slice A2 l2.length c2, .int .i64 cur] from r17) ▸ e90
              clear r17
              clear qO qF
              go_simp
              go_at_call 15
              refine (pall_any ⟨A1, c1, l1, A2, c2, l2, cur⟩ 2 [.mk 15 0 (some ⟨g89, 0, none⟩) 1 [.mk 42 0 none 0 [] 0 0 x y] 0 0 0 0] (some ⟨i89, 0, none⟩) 1 _ (bk_rd m89) (by simp) (by intro q hq; simp only [List.mem_cons, List.not_mem_nil, or_false] at hq; subst hq; exact ⟨bk_rd k89, by simp, by decide, (by intro q hq; simp only [List.mem_cons, List.not_mem_nil, or_false] at hq; subst hq; exact ok_leaf _ _ _ _ _)⟩) (HOK.out.old (HW.out.trans (hB.mono HW.out.size)))).mono ?_
              rintro e w2 ⟨rfl, hb2⟩
              rw [all_not HH.out]
              exact hK _ _ hb2 rfl
            refine BOk.yes rfl [18] [] rfl 12 true rfl rfl rfl (by kernel_rfl) (by kernel_rfl) (by kernel_rfl) (fun qK qa wr hB qO qF hK => ?_) ?_
            · obtain ⟨u91, e91, r18⟩ := qF.1
              have e91 : qa.tmps[91]? = some (.bool false) := (show u91 = .bool false from r18) ▸ e91
              clear r18
              clear qO qF
              go_simp
              exact hK _ _ (Below.refl _ _) rfl
            refine BOk.cons rfl [12, 19] [] rfl rfl (by kernel_rfl) (by kernel_rfl) (fun qK qa wr hB qO qF hK => ?_) ?_
            · obtain ⟨u85, e85, r12⟩ := qF.1
              have e85 : qa.tmps[85]? = some (.bool true) := (show u85 = .bool true from r12) ▸ e85
              clear r12
              obtain ⟨u92, e92, r19⟩ := qF.2.1
              have e92 : qa.tmps[92]? = some (.bool true) := (show u92 = .bool true from r19) ▸ e92
              clear r19
              clear qO qF
              go_simp
              refine hK _ _ (Below.refl _ _) ?_
              show (_ : Value) = _
              first | rfl | (simp; done) | (simp; omega)
            refine BOk.cons rfl [20] [] rfl rfl (by kernel_rfl) (by kernel_rfl) (fun qK qa wr hB qO qF hK => ?_) ?_
            · obtain ⟨u93, e93, r20⟩ := qF.1
              have e93 : qa.tmps[93]? = some (.bool true) := (show u93 = .bool true from r20) ▸ e93
              clear r20
              clear qO qF
              go_simp
              exact hK _ _ (Below.refl _ _) rfl
            exact BOk.nil
          intro vals wr hl hB hR
          match vals, hl with
          | [z73, z74, z75, z76, z77, z78, z79, z80, z81, z82, z83, z84, z85, z86, z87, z88, z89, z90, z91, z92, z93, z6], _ =>
          have r21 : z6 = .bool true := hR 21 _ rfl
          subst r21
          clear hR
          simp only [List.cons_append, List.nil_append, putAll, Act.put, List.setIfInBounds_toArray, List.set_cons_zero, List.set_cons_succ]
          go_wp2_with fail
          go_ret
          exact ⟨rfl, HW.out.trans (hB.mono HW.out.size)⟩
    by_cases hx1 : (l2.length : Int) ≤ x
    · have HH : Hid (hasL l2 x = []) := Lib.hid (by unfold hasL; rw [dif_neg (by omega)])
      go_wp2_with fail
      go_loopw [10] (fun i wr => ∃ k : Nat, k ≤ 6 ∧ i = .int .i64 (26 + k) ∧ Below W0.heap.size W0 wr ∧ Bk wr w1.heap.size 28 #[.slice A1 l1.length c1, .slice A2 l2.length c2, .int .i64 cur]) (fun i _ => 32 - (intOf i).toNat)
      case atStart => exact ⟨0, by omega, rfl, hbel, kl⟩
      case round =>
        obtain ⟨wq, hwq⟩ : ∃ wq, wq = wr := ⟨_, rfl⟩
        subst hwq
        obtain ⟨k, hk, rfl, hbel, kl⟩ := hrel
        have k0 := kl.cell 0
        have k1 := kl.cell 1
        have k2 := kl.cell 2
        simp at k0 k1 k2
        by_cases hlt : k < 6
        · as_aux_lemma =>
          go_wp2_with fail
          refine (HDO.out (26 + k) x y _ hbel).mono ?_
          rintro e w3 ⟨rfl, hb3⟩
          rw [do_none _ _ _ _ (by omega) HH.out, none_v]
          have kl := kl.old hb3
          have hbel := hbel.trans (hb3.mono hbel.size)
          clear hb3
          go_wp2_with fail
          go_roundw
          case rel => exact ⟨k + 1, by omega, by go_num, hbel, kl⟩
          case measure => simp [intOf]; omega
        · as_aux_lemma =>
          obtain rfl : k = 6 := by omega
          have kl := kl.alloc (.cells #[.int .i64 42, .int .i64 0, .slice none 0 0, .int .i64 0, .int .u64 0, .int .i64 x, .int .i64 y] 41)
          have kg := Bk.new wq 41 #[.int .i64 42, .int .i64 0, .slice none 0 0, .int .i64 0, .int .u64 0, .int .i64 x, .int .i64 y]
          have hbel := hbel.alloc hbel.size (.cells #[.int .i64 42, .int .i64 0, .slice none 0 0, .int .i64 0, .int .u64 0, .int .i64 x, .int .i64 y] 41)
          clear k0 k1 k2
          have k0 := kl.cell 0
          have k1 := kl.cell 1
          have k2 := kl.cell 2
          have n0 := kg.cell 0
          have n1 := kg.cell 1
          have n2 := kg.cell 2
          have n3 := kg.cell 3
          have n4 := kg.cell 4
          have n5 := kg.cell 5
          have n6 := kg.cell 6
          have H25 : Hid (doV ⟨A1, c1, l1, A2, c2, l2, cur⟩ 25 x 0 = ⟨1, 0⟩) := Lib.hid (by rw [show doV ⟨A1, c1, l1, A2, c2, l2, cur⟩ 25 x 0 = intV (hasL l2 x).length from rfl, HH.out]; rfl)
          have HW := Lib.hid hbel
          go_upto_region 15 with fail
          refine wp_region_s (fun qk => (regPoison A1 A2 c1 c2 l1 l2 cur x y w1 wq).getD qk .any) (by kernel_rfl) ?_ ?_
          · refine BOk.cons rfl [] [7] rfl rfl (by kernel_rfl) (by kernel_rfl) (fun qK qa wr hB qO qF hK => ?_) ?_
            · have e7 : qa.tmps[7]? = some (.int .i64 x) := qO.1.trans rfl
              clear qO qF
              go_simp
              exact hK _ _ (Below.refl _ _) rfl
            refine BOk.cons rfl [] [9] rfl rfl (by kernel_rfl) (by kernel_rfl) (fun qK qa wr hB qO qF hK => ?_) ?_
            · have e9 : qa.tmps[9]? = some (.pointer (some ⟨w1.heap.size, 0, none⟩)) := qO.1.trans rfl
              clear qO qF
              have hk0 := (bcell hB _ _ (World.block_lt_of_cell? _ _ k0)).trans k0
              have hk1 := (bcell hB _ _ (World.block_lt_of_cell? _ _ k1)).trans k1
              have hk2 := (bcell hB _ _ (World.block_lt_of_cell? _ _ k2)).trans k2
              go_simp
              exact hK _ _ (Below.refl _ _) rfl
            refine BOk.cons rfl [0, 1] [] rfl rfl (by kernel_rfl) (by kernel_rfl) (fun qK qa wr hB qO qF hK => ?_) ?_
            · obtain ⟨u73, e73, r0⟩ := qF.1
              have e73 : qa.tmps[73]? = some (.int .i64 x) := (show u73 = .int .i64 x from r0) ▸ e73
              clear r0
              obtain ⟨u74, e74, r1⟩ := qF.2.1
              have e74 : qa.tmps[74]? = some (.agg #[.slice A1 l1.length c1, .slice A2 l2.length c2, .int .i64 cur]) := (show u74 = .agg #[.slice A1 l1.length c1, .slice A2 l2.length c2, .int .i64 cur] from r1) ▸ e74
              clear r1
              clear qO qF
              go_simp
              go_at_call 9
              refine (HDO.out 25 x 0 _ (HW.out.trans (hB.mono HW.out.size))).mono ?_
              rintro e w2 ⟨rfl, hb2⟩
              rw [H25.out]
              exact hK _ _ hb2 rfl
            refine BOk.cons rfl [] [] rfl rfl (by kernel_rfl) (by kernel_rfl) (fun qK qa wr hB qO qF hK => ?_) ?_
            · clear qO qF
              go_simp
              exact hK _ _ (Below.refl _ _) rfl
            refine BOk.cons rfl [2, 3] [] rfl rfl (by kernel_rfl) (by kernel_rfl) (fun qK qa wr hB qO qF hK => ?_) ?_
            · obtain ⟨u75, e75, r2⟩ := qF.1
              have e75 : qa.tmps[75]? = some (.agg #[.int .i64 1, .int .u64 0]) := (show u75 = .agg #[.int .i64 1, .int .u64 0] from r2) ▸ e75
              clear r2
              obtain ⟨u76, e76, r3⟩ := qF.2.1
              have e76 : qa.tmps[76]? = some (.agg #[.int .i64 1, .int .u64 0]) := (show u76 = .agg #[.int .i64 1, .int .u64 0] from r3) ▸ e76
              clear r3
              clear qO qF
              go_simp
              refine hK _ _ (Below.refl _ _) ?_
              show (_ : Value) = _
              first | rfl | (simp; done) | (simp; omega)
            refine BOk.cons rfl [4] [] rfl rfl (by kernel_rfl) (by kernel_rfl) (fun qK qa wr hB qO qF hK => ?_) ?_
            · obtain ⟨u77, e77, r4⟩ := qF.1
              have e77 : qa.tmps[77]? = some (.bool true) := (show u77 = .bool true from r4) ▸ e77
              clear r4
              clear qO qF
              go_simp
              exact hK _ _ (Below.refl _ _) rfl
            refine BOk.yes rfl [] [11] rfl 5 true rfl rfl rfl (by kernel_rfl) (by kernel_rfl) (by kernel_rfl) (fun qK qa wr hB qO qF hK => ?_) ?_
            · have e11 : qa.tmps[11]? = some (.pointer (some ⟨wq.heap.size, 0, none⟩)) := qO.1.trans rfl
              clear qO qF
              have hn0 := (bcell hB _ _ (World.block_lt_of_cell? _ _ n0)).trans n0
              have hn1 := (bcell hB _ _ (World.block_lt_of_cell? _ _ n1)).trans n1
              have hn2 := (bcell hB _ _ (World.block_lt_of_cell? _ _ n2)).trans n2
              have hn3 := (bcell hB _ _ (World.block_lt_of_cell? _ _ n3)).trans n3
              have hn4 := (bcell hB _ _ (World.block_lt_of_cell? _ _ n4)).trans n4
              have hn5 := (bcell hB _ _ (World.block_lt_of_cell? _ _ n5)).trans n5
              have hn6 := (bcell hB _ _ (World.block_lt_of_cell? _ _ n6)).trans n6
              go_simp
              exact hK _ _ (Below.refl _ _) rfl
            refine BOk.yes rfl [6] [] rfl 5 true rfl rfl rfl (by kernel_rfl) (by kernel_rfl) (by kernel_rfl) (fun qK qa wr hB qO qF hK => ?_) ?_
            · obtain ⟨u79, e79, r6⟩ := qF.1
              have e79 : qa.tmps[79]? = some (.agg #[.int .i64 42, .int .i64 0, .slice none 0 0, .int .i64 0, .int .u64 0, .int .i64 x, .int .i64 y]) := (show u79 = .agg #[.int .i64 42, .int .i64 0, .slice none 0 0, .int .i64 0, .int .u64 0, .int .i64 x, .int .i64 y] from r6) ▸ e79
              clear r6
              clear qO qF
              refine wp_bs_node (.tmp 79) rfl (act_eval e79) ?_
              exact hK _ _ ((Below.refl _ _).alloc (Nat.le_refl _) _) ⟨_, rfl, Bk.new _ _ _⟩
            refine BOk.yes rfl [] [9] rfl 5 true rfl rfl rfl (by kernel_rfl) (by kernel_rfl) (by kernel_rfl) (fun qK qa wr hB qO qF hK => ?_) ?_
            · have e9 : qa.tmps[9]? = some (.pointer (some ⟨w1.heap.size, 0, none⟩)) := qO.1.trans rfl
              clear qO qF
              have hk0 := (bcell hB _ _ (World.block_lt_of_cell? _ _ k0)).trans k0
              have hk1 := (bcell hB _ _ (World.block_lt_of_cell? _ _ k1)).trans k1
              have hk2 := (bcell hB _ _ (World.block_lt_of_cell? _ _ k2)).trans k2
              go_simp
              exact hK _ _ (Below.refl _ _) rfl
            refine BOk.yes rfl [7, 8] [] rfl 5 true rfl rfl rfl (by kernel_rfl) (by kernel_rfl) (by kernel_rfl) (fun qK qa wr hB qO qF hK => ?_) ?_
            · obtain ⟨u80, e80, r7⟩ := qF.1
              obtain ⟨g80, h80, k80⟩ := (show ∃ g, u80 = .slice (some ⟨g, 0, none⟩) 1 1 ∧ Bk wr g 41 #[.int .i64 42, .int .i64 0, .slice none 0 0, .int .i64 0, .int .u64 0, .int .i64 x, .int .i64 y] from r7)
              subst h80
              have e80 : qa.tmps[80]? = some (.slice (some ⟨g80, 0, none⟩) 1 1) := e80
              obtain ⟨u81, e81, r8⟩ := qF.2.1
              have e81 : qa.tmps[81]? = some (.agg #[.slice A1 l1.length c1, .slice A2 l2.length c2, .int .i64 cur]) := (show u81 = .agg #[.slice A1 l1.length c1, .slice A2 l2.length c2, .int .i64 cur] from r8) ▸ e81
              clear r8
              clear qO qF
              go_simp
              go_at_call 15
              refine (pall_any ⟨A1, c1, l1, A2, c2, l2, cur⟩ 1 [.mk 42 0 none 0 [] 0 0 x y] (some ⟨g80, 0, none⟩) 1 _ (bk_rd k80) (by simp) (by intro q hq; simp only [List.mem_cons, List.not_mem_nil, or_false] at hq; subst hq; exact ok_leaf _ _ _ _ _) (HOK.out.old (HW.out.trans (hB.mono HW.out.size)))).mono ?_
              rintro e w2 ⟨rfl, hb2⟩
              rw [all_gone HH.out]
              exact hK _ _ hb2 rfl
            refine BOk.yes rfl [9] [] rfl 5 true rfl rfl rfl (by kernel_rfl) (by kernel_rfl) (by kernel_rfl) (fun qK qa wr hB qO qF hK => ?_) ?_
            · obtain ⟨u82, e82, r9⟩ := qF.1
              have e82 : qa.tmps[82]? = some (.bool false) := (show u82 = .bool false from r9) ▸ e82
              clear r9
              clear qO qF
              go_simp
              exact hK _ _ (Below.refl _ _) rfl
            refine BOk.cons rfl [5, 10] [] rfl rfl (by kernel_rfl) (by kernel_rfl) (fun qK qa wr hB qO qF hK => ?_) ?_
            · obtain ⟨u78, e78, r5⟩ := qF.1
              have e78 : qa.tmps[78]? = some (.bool true) := (show u78 = .bool true from r5) ▸ e78
              clear r5
              obtain ⟨u83, e83, r10⟩ := qF.2.1
              have e83 : qa.tmps[83]? = some (.bool true) := (show u83 = .bool true from r10) ▸ e83
              clear r10
              clear qO qF
              go_simp
              refine hK _ _ (Below.refl _ _) ?_
              show (_ : Value) = _
              first | rfl | (simp; done) | (simp; omega)
            refine BOk.cons rfl [11] [] rfl rfl (by kernel_rfl) (by kernel_rfl) (fun qK qa wr hB qO qF hK => ?_) ?_
            · obtain ⟨u84, e84, r11⟩ := qF.1
              have e84 : qa.tmps[84]? = some (.bool true) := (show u84 = .bool true from r11) ▸ e84
              clear r11
              clear qO qF
              go_simp
              exact hK _ _ (Below.refl _ _) rfl
            refine BOk.yes rfl [] [11] rfl 12 true rfl rfl rfl (by kernel_rfl) (by kernel_rfl) (by kernel_rfl) (fun qK qa wr hB qO qF hK => ?_) ?_
            · have e11 : qa.tmps[11]? = some (.pointer (some ⟨wq.heap.size, 0, none⟩)) := qO.1.trans rfl
              clear qO qF
              have hn0 := (bcell hB _ _ (World.block_lt_of_cell? _ _ n0)).trans n0
              have hn1 := (bcell hB _ _ (World.block_lt_of_cell? _ _ n1)).trans n1
              have hn2 := (bcell hB _ _ (World.block_lt_of_cell? _ _ n2)).trans n2
              have hn3 := (bcell hB _ _ (World.block_lt_of_cell? _ _ n3)).trans n3
              have hn4 := (bcell hB _ _ (World.block_lt_of_cell? _ _ n4)).trans n4
              have hn5 := (bcell hB _ _ (World.block_lt_of_cell? _ _ n5)).trans n5
              have hn6 := (bcell hB _ _ (World.block_lt_of_cell? _ _ n6)).trans n6
              go_simp
              exact hK _ _ (Below.refl _ _) rfl
            refine BOk.yes rfl [13] [] rfl 12 true rfl rfl rfl (by kernel_rfl) (by kernel_rfl) (by kernel_rfl) (fun qK qa wr hB qO qF hK => ?_) ?_
            · obtain ⟨u86, e86, r13⟩ := qF.1
              have e86 : qa.tmps[86]? = some (.agg #[.int .i64 42, .int .i64 0, .slice none 0 0, .int .i64 0, .int .u64 0, .int .i64 x, .int .i64 y]) := (show u86 = .agg #[.int .i64 42, .int .i64 0, .slice none 0 0, .int .i64 0, .int .u64 0, .int .i64 x, .int .i64 y] from r13) ▸ e86
              clear r13
              clear qO qF
              refine wp_bs_node (.tmp 86) rfl (act_eval e86) ?_
              exact hK _ _ ((Below.refl _ _).alloc (Nat.le_refl _) _) ⟨_, rfl, Bk.new _ _ _⟩
            refine BOk.yes rfl [14] [] rfl 12 true rfl rfl rfl (by kernel_rfl) (by kernel_rfl) (by kernel_rfl) (fun qK qa wr hB qO qF hK => ?_) ?_
            · obtain ⟨u87, e87, r14⟩ := qF.1
              obtain ⟨g87, h87, k87⟩ := (show ∃ g, u87 = .slice (some ⟨g, 0, none⟩) 1 1 ∧ Bk wr g 41 #[.int .i64 42, .int .i64 0, .slice none 0 0, .int .i64 0, .int .u64 0, .int .i64 x, .int .i64 y] from r14)
              subst h87
              have e87 : qa.tmps[87]? = some (.slice (some ⟨g87, 0, none⟩) 1 1) := e87
              clear qO qF
              go_simp
              exact hK _ _ (Below.refl _ _) ⟨_, rfl, k87⟩
            refine BOk.yes rfl [15] [] rfl 12 true rfl rfl rfl (by kernel_rfl) (by kernel_rfl) (by kernel_rfl) (fun qK qa wr hB qO qF hK => ?_) ?_
            · obtain ⟨u88, e88, r15⟩ := qF.1
              obtain ⟨g88, h88, k88⟩ := (show ∃ g, u88 = .agg #[.int .i64 15, .int .i64 0, .slice (some ⟨g, 0, none⟩) 1 1, .int .i64 0, .int .u64 0, .int .i64 0, .int .i64 0] ∧ Bk wr g 41 #[.int .i64 42, .int .i64 0, .slice none 0 0, .int .i64 0, .int .u64 0, .int .i64 x, .int .i64 y] from r15)
              subst h88
              have e88 : qa.tmps[88]? = some (.agg #[.int .i64 15, .int .i64 0, .slice (some ⟨g88, 0, none⟩) 1 1, .int .i64 0, .int .u64 0, .int .i64 0, .int .i64 0]) := e88
              clear qO qF
              refine wp_bs_node (.tmp 88) rfl (act_eval e88) ?_
              exact hK _ _ ((Below.refl _ _).alloc (Nat.le_refl _) _) ⟨_, _, rfl, k88.alloc _, Bk.new _ _ _⟩
            refine BOk.yes rfl [] [9] rfl 12 true rfl rfl rfl (by kernel_rfl) (by kernel_rfl) (by kernel_rfl) (fun qK qa wr hB qO qF hK => ?_) ?_
            · have e9 : qa.tmps[9]? = some (.pointer (some ⟨w1.heap.size, 0, none⟩)) := qO.1.trans rfl
              clear qO qF
              have hk0 := (bcell hB _ _ (World.block_lt_of_cell? _ _ k0)).trans k0
              have hk1 := (bcell hB _ _ (World.block_lt_of_cell? _ _ k1)).trans k1
              have hk2 := (bcell hB _ _ (World.block_lt_of_cell? _ _ k2)).trans k2
              go_simp
              exact hK _ _ (Below.refl _ _) rfl
            refine BOk.yes rfl [16, 17] [] rfl 12 true rfl rfl rfl (by kernel_rfl) (by kernel_rfl) (by kernel_rfl) (fun qK qa wr hB qO qF hK => ?_) ?_
            · obtain ⟨u89, e89, r16⟩ := qF.1
              obtain ⟨g89, i89, h89, k89, m89⟩ := (show ∃ g g2, u89 = .slice (some ⟨g2, 0, none⟩) 1 1 ∧ Bk wr g 41 #[.int .i64 42, .int .i64 0, .slice none 0 0, .int .i64 0, .int .u64 0, .int .i64 x, .int .i64 y] ∧ Bk wr g2 41 #[.int .i64 15, .int .i64 0, .slice (some ⟨g, 0, none⟩) 1 1, .int .i64 0, .int .u64 0, .int .i64 0, .int .i64 0] from r16)
              subst h89
              have e89 : qa.tmps[89]? = some (.slice (some ⟨i89, 0, none⟩) 1 1) := e89
              obtain ⟨u90, e90, r17⟩ := qF.2.1
              have e90 : qa.tmps[90]? = some (.agg #[.slice A1 l1.length c1, .slice A2 l2.length c2, .int .i64 cur]) := (show u90 = .agg #[.slice A1 l1.length c1, .slice A2 l2.length c2, .int .i64 cur] from r17) ▸ e90
              clear r17
              clear qO qF
              go_simp
              go_at_call 15
              refine (pall_any ⟨A1, c1, l1, A2, c2, l2, cur⟩ 2 [.mk 15 0 (some ⟨g89, 0, none⟩) 1 [.mk 42 0 none 0 [] 0 0 x y] 0 0 0 0] (some ⟨i89, 0, none⟩) 1 _ (bk_rd m89) (by simp) (by intro q hq; simp only [List.mem_cons, List.not_mem_nil, or_false] at hq; subst hq; exact ⟨bk_rd k89, by simp, by decide, (by intro q hq; simp only [List.mem_cons, List.not_mem_nil, or_false] at hq; subst hq; exact ok_leaf _ _ _ _ _)⟩) (HOK.out.old (HW.out.trans (hB.mono HW.out.size)))).mono ?_
              rintro e w2 ⟨rfl, hb2⟩
              rw [all_not HH.out]
              exact hK _ _ hb2 rfl
            refine BOk.yes rfl [18] [] rfl 12 true rfl rfl rfl (by kernel_rfl) (by kernel_rfl) (by kernel_rfl) (fun qK qa wr hB qO qF hK => ?_) ?_
            · obtain ⟨u91, e91, r18⟩ := qF.1
              have e91 : qa.tmps[91]? = some (.bool false) := (show u91 = .bool false from r18) ▸ e91
              clear r18
              clear qO qF
              go_simp
              exact hK _ _ (Below.refl _ _) rfl
            refine BOk.cons rfl [12, 19] [] rfl rfl (by kernel_rfl) (by kernel_rfl) (fun qK qa wr hB qO qF hK => ?_) ?_
            · obtain ⟨u85, e85, r12⟩ := qF.1
              have e85 : qa.tmps[85]? = some (.bool true) := (show u85 = .bool true from r12) ▸ e85
              clear r12
              obtain ⟨u92, e92, r19⟩ := qF.2.1
              have e92 : qa.tmps[92]? = some (.bool true) := (show u92 = .bool true from r19) ▸ e92
              clear r19
              clear qO qF
              go_simp
              refine hK _ _ (Below.refl _ _) ?_
              show (_ : Value) = _
              first | rfl | (simp; done) | (simp; omega)
            refine BOk.cons rfl [20] [] rfl rfl (by kernel_rfl) (by kernel_rfl) (fun qK qa wr hB qO qF hK => ?_) ?_
            · obtain ⟨u93, e93, r20⟩ := qF.1
              have e93 : qa.tmps[93]? = some (.bool true) := (show u93 = .bool true from r20) ▸ e93
              clear r20
              clear qO qF
              go_simp
              exact hK _ _ (Below.refl _ _) rfl
            exact BOk.nil
          intro vals wr hl hB hR
          match vals, hl with
          | [z73, z74, z75, z76, z77, z78, z79, z80, z81, z82, z83, z84, z85, z86, z87, z88, z89, z90, z91, z92, z93, z6], _ =>
          have r21 : z6 = .bool true := hR 21 _ rfl
          subst r21
          clear hR
          simp only [List.cons_append, List.nil_append, putAll, Act.put, List.setIfInBounds_toArray, List.set_cons_zero, List.set_cons_succ]
          go_wp2_with fail
          go_ret
          exact ⟨rfl, HW.out.trans (hB.mono HW.out.size)⟩
    obtain ⟨n, rfl⟩ : ∃ n : Nat, x = n := ⟨x.toNat, by omega⟩
    have hn : n < l2.length := by omega
    obtain ⟨bB, oB, hA2, hbB, hcB⟩ := (HOK.out.brd.below hbel).elem (n := 1) (fun _ => rfl) (by omega) hn
    have hcB0 : w2.cell? ⟨bB, oB + n * 1, none⟩ = some (.slice l2[n].A l2[n].l.length l2[n].c) := hcB 0 _ rfl
    rw [Nat.mul_one] at hcB0
    have hhl : hasL l2 n = l2[n].l := by unfold hasL; rw [dif_pos ⟨by omega, by simpa using hn⟩]; rfl
    clear hcB
    generalize l2[n] = IV at *
    obtain ⟨A9, c9, l9⟩ := IV
    simp only at hcB0 hhl hA2
    subst hA2
    by_cases h9 : l9 = []
    · subst h9
      have HH : Hid (hasL l2 n = []) := Lib.hid hhl
      simp only [List.length_nil] at hcB0
      clear hhl
      go_wp2_with fail
      go_loopw [10] (fun i wr => ∃ k : Nat, k ≤ 6 ∧ i = .int .i64 (26 + k) ∧ Below W0.heap.size W0 wr ∧ Bk wr w1.heap.size 28 #[.slice A1 l1.length c1, .slice (some ⟨bB, oB, none⟩) l2.length c2, .int .i64 cur]) (fun i _ => 32 - (intOf i).toNat)
      case atStart => exact ⟨0, by omega, rfl, hbel, kl⟩
      case round =>
        obtain ⟨wq, hwq⟩ : ∃ wq, wq = wr := ⟨_, rfl⟩
        subst hwq
        obtain ⟨k, hk, rfl, hbel, kl⟩ := hrel
        have k0 := kl.cell 0
        have k1 := kl.cell 1
        have k2 := kl.cell 2
        simp at k0 k1 k2
        by_cases hlt : k < 6
        · as_aux_lemma =>
          go_wp2_with fail
          refine (HDO.out (26 + k) n y _ hbel).mono ?_
          rintro e w3 ⟨rfl, hb3⟩
          rw [do_none _ _ _ _ (by omega) HH.out, none_v]
          have kl := kl.old hb3
          have hbel := hbel.trans (hb3.mono hbel.size)
          clear hb3
          go_wp2_with fail
          go_roundw
          case rel => exact ⟨k + 1, by omega, by go_num, hbel, kl⟩
          case measure => simp [intOf]; omega
        · as_aux_lemma =>
          obtain rfl : k = 6 := by omega
          have kl := kl.alloc (.cells #[.int .i64 42, .int .i64 0, .slice none 0 0, .int .i64 0, .int .u64 0, .int .i64 (n : Nat), .int .i64 y] 41)
          have kg := Bk.new wq 41 #[.int .i64 42, .int .i64 0, .slice none 0 0, .int .i64 0, .int .u64 0, .int .i64 (n : Nat), .int .i64 y]
          have hbel := hbel.alloc hbel.size (.cells #[.int .i64 42, .int .i64 0, .slice none 0 0, .int .i64 0, .int .u64 0, .int .i64 (n : Nat), .int .i64 y] 41)
          clear k0 k1 k2
          have k0 := kl.cell 0
          have k1 := kl.cell 1
          have k2 := kl.cell 2
          have n0 := kg.cell 0
          have n1 := kg.cell 1
          have n2 := kg.cell 2
          have n3 := kg.cell 3
          have n4 := kg.cell 4
          have n5 := kg.cell 5
          have n6 := kg.cell 6
          have H25 : Hid (doV ⟨A1, c1, l1, some ⟨bB, oB, none⟩, c2, l2, cur⟩ 25 n 0 = ⟨1, 0⟩) := Lib.hid (by rw [show doV ⟨A1, c1, l1, some ⟨bB, oB, none⟩, c2, l2, cur⟩ 25 n 0 = intV (hasL l2 n).length from rfl, HH.out]; rfl)
          have HW := Lib.hid hbel
          go_upto_region 15 with fail
          refine wp_region_s (fun qk => (regPoison A1 (some ⟨bB, oB, none⟩) c1 c2 l1 l2 cur n y w1 wq).getD qk .any) (by kernel_rfl) ?_ ?_
          · refine BOk.cons rfl [] [7] rfl rfl (by kernel_rfl) (by kernel_rfl) (fun qK qa wr hB qO qF hK => ?_) ?_
            · have e7 : qa.tmps[7]? = some (.int .i64 (n : Nat)) := qO.1.trans rfl
              clear qO qF
              go_simp
              exact hK _ _ (Below.refl _ _) rfl
            refine BOk.cons rfl [] [9] rfl rfl (by kernel_rfl) (by kernel_rfl) (fun qK qa wr hB qO qF hK => ?_) ?_
            · have e9 : qa.tmps[9]? = some (.pointer (some ⟨w1.heap.size, 0, none⟩)) := qO.1.trans rfl
              clear qO qF
              have hk0 := (bcell hB _ _ (World.block_lt_of_cell? _ _ k0)).trans k0
              have hk1 := (bcell hB _ _ (World.block_lt_of_cell? _ _ k1)).trans k1
              have hk2 := (bcell hB _ _ (World.block_lt_of_cell? _ _ k2)).trans k2
              go_simp
              exact hK _ _ (Below.refl _ _) rfl
            refine BOk.cons rfl [0, 1] [] rfl rfl (by kernel_rfl) (by kernel_rfl) (fun qK qa wr hB qO qF hK => ?_) ?_
            · obtain ⟨u73, e73, r0⟩ := qF.1
              have e73 : qa.tmps[73]? = some (.int .i64 (n : Nat)) := (show u73 = .int .i64 (n : Nat) from r0) ▸ e73
              clear r0
              obtain ⟨u74, e74, r1⟩ := qF.2.1
              have e74 : qa.tmps[74]? = some (.agg #[.slice A1 l1.length c1, .slice (some ⟨bB, oB, none⟩) l2.length c2, .int .i64 cur]) := (show u74 = .agg #[.slice A1 l1.length c1, .slice (some ⟨bB, oB, none⟩) l2.length c2, .int .i64 cur] from r1) ▸ e74
              clear r1
              clear qO qF
              go_simp
              go_at_call 9
              refine (HDO.out 25 n 0 _ (HW.out.trans (hB.mono HW.out.size))).mono ?_
              rintro e w2 ⟨rfl, hb2⟩
              rw [H25.out]
              exact hK _ _ hb2 rfl
            refine BOk.cons rfl [] [] rfl rfl (by kernel_rfl) (by kernel_rfl) (fun qK qa wr hB qO qF hK => ?_) ?_
            · clear qO qF
              go_simp
              exact hK _ _ (Below.refl _ _) rfl
            refine BOk.cons rfl [2, 3] [] rfl rfl (by kernel_rfl) (by kernel_rfl) (fun qK qa wr hB qO qF hK => ?_) ?_
            · obtain ⟨u75, e75, r2⟩ := qF.1
              have e75 : qa.tmps[75]? = some (.agg #[.int .i64 1, .int .u64 0]) := (show u75 = .agg #[.int .i64 1, .int .u64 0] from r2) ▸ e75
              clear r2
              obtain ⟨u76, e76, r3⟩ := qF.2.1
              have e76 : qa.tmps[76]? = some (.agg #[.int .i64 1, .int .u64 0]) := (show u76 = .agg #[.int .i64 1, .int .u64 0] from r3) ▸ e76
              clear r3
              clear qO qF
              go_simp
              refine hK _ _ (Below.refl _ _) ?_
              show (_ : Value) = _
              first | rfl | (simp; done) | (simp; omega)
            refine BOk.cons rfl [4] [] rfl rfl (by kernel_rfl) (by kernel_rfl) (fun qK qa wr hB qO qF hK => ?_) ?_
            · obtain ⟨u77, e77, r4⟩ := qF.1
              have e77 : qa.tmps[77]? = some (.bool true) := (show u77 = .bool true from r4) ▸ e77
              clear r4
              clear qO qF
              go_simp
              exact hK _ _ (Below.refl _ _) rfl
            refine BOk.yes rfl [] [11] rfl 5 true rfl rfl rfl (by kernel_rfl) (by kernel_rfl) (by kernel_rfl) (fun qK qa wr hB qO qF hK => ?_) ?_
            · have e11 : qa.tmps[11]? = some (.pointer (some ⟨wq.heap.size, 0, none⟩)) := qO.1.trans rfl
              clear qO qF
              have hn0 := (bcell hB _ _ (World.block_lt_of_cell? _ _ n0)).trans n0
              have hn1 := (bcell hB _ _ (World.block_lt_of_cell? _ _ n1)).trans n1
              have hn2 := (bcell hB _ _ (World.block_lt_of_cell? _ _ n2)).trans n2
              have hn3 := (bcell hB _ _ (World.block_lt_of_cell? _ _ n3)).trans n3
              have hn4 := (bcell hB _ _ (World.block_lt_of_cell? _ _ n4)).trans n4
              have hn5 := (bcell hB _ _ (World.block_lt_of_cell? _ _ n5)).trans n5
              have hn6 := (bcell hB _ _ (World.block_lt_of_cell? _ _ n6)).trans n6
              go_simp
              exact hK _ _ (Below.refl _ _) rfl
            refine BOk.yes rfl [6] [] rfl 5 true rfl rfl rfl (by kernel_rfl) (by kernel_rfl) (by kernel_rfl) (fun qK qa wr hB qO qF hK => ?_) ?_
            · obtain ⟨u79, e79, r6⟩ := qF.1
              have e79 : qa.tmps[79]? = some (.agg #[.int .i64 42, .int .i64 0, .slice none 0 0, .int .i64 0, .int .u64 0, .int .i64 (n : Nat), .int .i64 y]) := (show u79 = .agg #[.int .i64 42, .int .i64 0, .slice none 0 0, .int .i64 0, .int .u64 0, .int .i64 (n : Nat), .int .i64 y] from r6) ▸ e79
              clear r6
              clear qO qF
              refine wp_bs_node (.tmp 79) rfl (act_eval e79) ?_
              exact hK _ _ ((Below.refl _ _).alloc (Nat.le_refl _) _) ⟨_, rfl, Bk.new _ _ _⟩
            refine BOk.yes rfl [] [9] rfl 5 true rfl rfl rfl (by kernel_rfl) (by kernel_rfl) (by kernel_rfl) (fun qK qa wr hB qO qF hK => ?_) ?_
            · have e9 : qa.tmps[9]? = some (.pointer (some ⟨w1.heap.size, 0, none⟩)) := qO.1.trans rfl
              clear qO qF
              have hk0 := (bcell hB _ _ (World.block_lt_of_cell? _ _ k0)).trans k0
              have hk1 := (bcell hB _ _ (World.block_lt_of_cell? _ _ k1)).trans k1
              have hk2 := (bcell hB _ _ (World.block_lt_of_cell? _ _ k2)).trans k2
              go_simp
              exact hK _ _ (Below.refl _ _) rfl
            refine BOk.yes rfl [7, 8] [] rfl 5 true rfl rfl rfl (by kernel_rfl) (by kernel_rfl) (by kernel_rfl) (fun qK qa wr hB qO qF hK => ?_) ?_
            · obtain ⟨u80, e80, r7⟩ := qF.1
              obtain ⟨g80, h80, k80⟩ := (show ∃ g, u80 = .slice (some ⟨g, 0, none⟩) 1 1 ∧ Bk wr g 41 #[.int .i64 42, .int .i64 0, .slice none 0 0, .int .i64 0, .int .u64 0, .int .i64 (n : Nat), .int .i64 y] from r7)
              subst h80
              have e80 : qa.tmps[80]? = some (.slice (some ⟨g80, 0, none⟩) 1 1) := e80
              obtain ⟨u81, e81, r8⟩ := qF.2.1
              have e81 : qa.tmps[81]? = some (.agg #[.slice A1 l1.length c1, .slice (some ⟨bB, oB, none⟩) l2.length c2, .int .i64 cur]) := (show u81 = .agg #[.slice A1 l1.length c1, .slice (some ⟨bB, oB, none⟩) l2.length c2, .int .i64 cur] from r8) ▸ e81
              clear r8
              clear qO qF
              go_simp
              go_at_call 15
              refine (pall_any ⟨A1, c1, l1, some ⟨bB, oB, none⟩, c2, l2, cur⟩ 1 [.mk 42 0 none 0 [] 0 0 n y] (some ⟨g80, 0, none⟩) 1 _ (bk_rd k80) (by simp) (by intro q hq; simp only [List.mem_cons, List.not_mem_nil, or_false] at hq; subst hq; exact ok_leaf _ _ _ _ _) (HOK.out.old (HW.out.trans (hB.mono HW.out.size)))).mono ?_
              rintro e w2 ⟨rfl, hb2⟩
              rw [all_gone HH.out]
              exact hK _ _ hb2 rfl
            refine BOk.yes rfl [9] [] rfl 5 true rfl rfl rfl (by kernel_rfl) (by kernel_rfl) (by kernel_rfl) (fun qK qa wr hB qO qF hK => ?_) ?_
            · obtain ⟨u82, e82, r9⟩ := qF.1
              have e82 : qa.tmps[82]? = some (.bool false) := (show u82 = .bool false from r9) ▸ e82
              clear r9
              clear qO qF
              go_simp
              exact hK _ _ (Below.refl _ _) rfl
            refine BOk.cons rfl [5, 10] [] rfl rfl (by kernel_rfl) (by kernel_rfl) (fun qK qa wr hB qO qF hK => ?_) ?_
            · obtain ⟨u78, e78, r5⟩ := qF.1
              have e78 : qa.tmps[78]? = some (.bool true) := (show u78 = .bool true from r5) ▸ e78
              clear r5
              obtain ⟨u83, e83, r10⟩ := qF.2.1
              have e83 : qa.tmps[83]? = some (.bool true) := (show u83 = .bool true from r10) ▸ e83
              clear r10
              clear qO qF
              go_simp
              refine hK _ _ (Below.refl _ _) ?_
              show (_ : Value) = _
              first | rfl | (simp; done) | (simp; omega)
            refine BOk.cons rfl [11] [] rfl rfl (by kernel_rfl) (by kernel_rfl) (fun qK qa wr hB qO qF hK => ?_) ?_
            · obtain ⟨u84, e84, r11⟩ := qF.1
              have e84 : qa.tmps[84]? = some (.bool true) := (show u84 = .bool true from r11) ▸ e84
              clear r11
              clear qO qF
              go_simp
              exact hK _ _ (Below.refl _ _) rfl
            refine BOk.yes rfl [] [11] rfl 12 true rfl rfl rfl (by kernel_rfl) (by kernel_rfl) (by kernel_rfl) (fun qK qa wr hB qO qF hK => ?_) ?_
            · have e11 : qa.tmps[11]? = some (.pointer (some ⟨wq.heap.size, 0, none⟩)) := qO.1.trans rfl
              clear qO qF
              have hn0 := (bcell hB _ _ (World.block_lt_of_cell? _ _ n0)).trans n0
              have hn1 := (bcell hB _ _ (World.block_lt_of_cell? _ _ n1)).trans n1
              have hn2 := (bcell hB _ _ (World.block_lt_of_cell? _ _ n2)).trans n2
              have hn3 := (bcell hB _ _ (World.block_lt_of_cell? _ _ n3)).trans n3
              have hn4 := (bcell hB _ _ (World.block_lt_of_cell? _ _ n4)).trans n4
              have hn5 := (bcell hB _ _ (World.block_lt_of_cell? _ _ n5)).trans n5
              have hn6 := (bcell hB _ _ (World.block_lt_of_cell? _ _ n6)).trans n6
              go_simp
              exact hK _ _ (Below.refl _ _) rfl
            refine BOk.yes rfl [13] [] rfl 12 true rfl rfl rfl (by kernel_rfl) (by kernel_rfl) (by kernel_rfl) (fun qK qa wr hB qO qF hK => ?_) ?_
            · obtain ⟨u86, e86, r13⟩ := qF.1
              have e86 : qa.tmps[86]? = some (.agg #[.int .i64 42, .int .i64 0, .slice none 0 0, .int .i64 0, .int .u64 0, .int .i64 (n : Nat), .int .i64 y]) := (show u86 = .agg #[.int .i64 42, .int .i64 0, .slice none 0 0, .int .i64 0, .int .u64 0, .int .i64 (n : Nat), .int .i64 y] from r13) ▸ e86
              clear r13
              clear qO qF
              refine wp_bs_node (.tmp 86) rfl (act_eval e86) ?_
              exact hK _ _ ((Below.refl _ _).alloc (Nat.le_refl _) _) ⟨_, rfl, Bk.new _ _ _⟩
            refine BOk.yes rfl [14] [] rfl 12 true rfl rfl rfl (by kernel_rfl) (by kernel_rfl) (by kernel_rfl) (fun qK qa wr hB qO qF hK => ?_) ?_
            · obtain ⟨u87, e87, r14⟩ := qF.1
              obtain ⟨g87, h87, k87⟩ := (show ∃ g, u87 = .slice (some ⟨g, 0, none⟩) 1 1 ∧ Bk wr g 41 #[.int .i64 42, .int .i64 0, .slice none 0 0, .int .i64 0, .int .u64 0, .int .i64 (n : Nat), .int .i64 y] from r14)
              subst h87
              have e87 : qa.tmps[87]? = some (.slice (some ⟨g87, 0, none⟩) 1 1) := e87
              clear qO qF
              go_simp
              exact hK _ _ (Below.refl _ _) ⟨_, rfl, k87⟩
            refine BOk.yes rfl [15] [] rfl 12 true rfl rfl rfl (by kernel_rfl) (by kernel_rfl) (by kernel_rfl) (fun qK qa wr hB qO qF hK => ?_) ?_
            · obtain ⟨u88, e88, r15⟩ := qF.1
              obtain ⟨g88, h88, k88⟩ := (show ∃ g, u88 = .agg #[.int .i64 15, .int .i64 0, .slice (some ⟨g, 0, none⟩) 1 1, .int .i64 0, .int .u64 0, .int .i64 0, .int .i64 0] ∧ Bk wr g 41 #[.int .i64 42, .int .i64 0, .slice none 0 0, .int .i64 0, .int .u64 0, .int .i64 (n : Nat), .int .i64 y] from r15)
              subst h88
              have e88 : qa.tmps[88]? = some (.agg #[.int .i64 15, .int .i64 0, .slice (some ⟨g88, 0, none⟩) 1 1, .int .i64 0, .int .u64 0, .int .i64 0, .int .i64 0]) := e88
              clear qO qF
              refine wp_bs_node (.tmp 88) rfl (act_eval e88) ?_
              exact hK _ _ ((Below.refl _ _).alloc (Nat.le_refl _) _) ⟨_, _, rfl, k88.alloc _, Bk.new _ _ _⟩
            refine BOk.yes rfl [] [9] rfl 12 true rfl rfl rfl (by kernel_rfl) (by kernel_rfl) (by kernel_rfl) (fun qK qa wr hB qO qF hK => ?_) ?_
            · have e9 : qa.tmps[9]? = some (.pointer (some ⟨w1.heap.size, 0, none⟩)) := qO.1.trans rfl
              clear qO qF
              have hk0 := (bcell hB _ _ (World.block_lt_of_cell? _ _ k0)).trans k0
              have hk1 := (bcell hB _ _ (World.block_lt_of_cell? _ _ k1)).trans k1
              have hk2 := (bcell hB _ _ (World.block_lt_of_cell? _ _ k2)).trans k2
              go_simp
              exact hK _ _ (Below.refl _ _) rfl
            refine BOk.yes rfl [16, 17] [] rfl 12 true rfl rfl rfl (by kernel_rfl) (by kernel_rfl) (by kernel_rfl) (fun qK qa wr hB qO qF hK => ?_) ?_
            · obtain ⟨u89, e89, r16⟩ := qF.1
              obtain ⟨g89, i89, h89, k89, m89⟩ := (show ∃ g g2, u89 = .slice (some ⟨g2, 0, none⟩) 1 1 ∧ Bk wr g 41 #[.int .i64 42, .int .i64 0, .slice none 0 0, .int .i64 0, .int .u64 0, .int .i64 (n : Nat), .int .i64 y] ∧ Bk wr g2 41 #[.int .i64 15, .int .i64 0, .slice (some ⟨g, 0, none⟩) 1 1, .int .i64 0, .int .u64 0, .int .i64 0, .int .i64 0] from r16)
              subst h89
              have e89 : qa.tmps[89]? = some (.slice (some ⟨i89, 0, none⟩) 1 1) := e89
              obtain ⟨u90, e90, r17⟩ := qF.2.1
              have e90 : qa.tmps[90]? = some (.agg #[.slice A1 l1.length c1, .slice (some ⟨bB, oB, none⟩) l2.length c2, .int .i64 cur]) := (show u90 = .agg #[.slice A1 l1.length c1, .slice (some ⟨bB, oB, none⟩) l2.length c2, .int .i64 cur] from r17) ▸ e90
              clear r17
              clear qO qF
              go_simp
              go_at_call 15
              refine (pall_any ⟨A1, c1, l1, some ⟨bB, oB, none⟩, c2, l2, cur⟩ 2 [.mk 15 0 (some ⟨g89, 0, none⟩) 1 [.mk 42 0 none 0 [] 0 0 n y] 0 0 0 0] (some ⟨i89, 0, none⟩) 1 _ (bk_rd m89) (by simp) (by intro q hq; simp only [List.mem_cons, List.not_mem_nil, or_false] at hq; subst hq; exact ⟨bk_rd k89, by simp, by decide, (by intro q hq; simp only [List.mem_cons, List.not_mem_nil, or_false] at hq; subst hq; exact ok_leaf _ _ _ _ _)⟩) (HOK.out.old (HW.out.trans (hB.mono HW.out.size)))).mono ?_
              rintro e w2 ⟨rfl, hb2⟩
              rw [all_not HH.out]
              exact hK _ _ hb2 rfl
            refine BOk.yes rfl [18] [] rfl 12 true rfl rfl rfl (by kernel_rfl) (by kernel_rfl) (by kernel_rfl) (fun qK qa wr hB qO qF hK => ?_) ?_
            · obtain ⟨u91, e91, r18⟩ := qF.1
              have e91 : qa.tmps[91]? = some (.bool false) := (show u91 = .bool false from r18) ▸ e91
              clear r18
              clear qO qF
              go_simp
              exact hK _ _ (Below.refl _ _) rfl
            refine BOk.cons rfl [12, 19] [] rfl rfl (by kernel_rfl) (by kernel_rfl) (fun qK qa wr hB qO qF hK => ?_) ?_
            · obtain ⟨u85, e85, r12⟩ := qF.1
              have e85 : qa.tmps[85]? = some (.bool true) := (show u85 = .bool true from r12) ▸ e85
              clear r12
              obtain ⟨u92, e92, r19⟩ := qF.2.1
              have e92 : qa.tmps[92]? = some (.bool true) := (show u92 = .bool true from r19) ▸ e92
              clear r19
              clear qO qF
              go_simp
              refine hK _ _ (Below.refl _ _) ?_
              show (_ : Value) = _
              first | rfl | (simp; done) | (simp; omega)
            refine BOk.cons rfl [20] [] rfl rfl (by kernel_rfl) (by kernel_rfl) (fun qK qa wr hB qO qF hK => ?_) ?_
            · obtain ⟨u93, e93, r20⟩ := qF.1
              have e93 : qa.tmps[93]? = some (.bool true) := (show u93 = .bool true from r20) ▸ e93
              clear r20
              clear qO qF
              go_simp
              exact hK _ _ (Below.refl _ _) rfl
            exact BOk.nil
          intro vals wr hl hB hR
          match vals, hl with
          | [z73, z74, z75, z76, z77, z78, z79, z80, z81, z82, z83, z84, z85, z86, z87, z88, z89, z90, z91, z92, z93, z6], _ =>
          have r21 : z6 = .bool true := hR 21 _ rfl
          subst r21
          clear hR
          simp only [List.cons_append, List.nil_append, putAll, Act.put, List.setIfInBounds_toArray, List.set_cons_zero, List.set_cons_succ]
          go_wp2_with fail
          go_ret
          exact ⟨rfl, HW.out.trans (hB.mono HW.out.size)⟩
    have h9l : 0 < l9.length := List.length_pos_iff.2 h9
    clear hhl h9 HOK HDO
    go_wp2_with fail
    go_ret
    exact ⟨rfl, hbel⟩
  have p0 : (w1.alloc (.cells #[.slice A1 l1.length c1, .slice A2 l2.length c2, .int .i64 cur] 28)).cell? ⟨W0.heap.size, 0, none⟩ = some (.slice A2 l2.length c2) := kp.cell 0
  have p1 : (w1.alloc (.cells #[.slice A1 l1.length c1, .slice A2 l2.length c2, .int .i64 cur] 28)).cell? ⟨W0.heap.size, 1, none⟩ = some (.int .i64 cur) := kp.cell 1
  by_cases hx0 : x < 0
  · have HH : Hid (hasL l2 x = []) := Lib.hid (by unfold hasL; rw [dif_neg (by omega)])
    go_wp2_with fail
    go_loopw [10] (fun i wr => ∃ k : Nat, k ≤ 6 ∧ i = .int .i64 (26 + k) ∧ Below W0.heap.size W0 wr ∧ Bk wr w1.heap.size 28 #[.slice A1 l1.length c1, .slice A2 l2.length c2, .int .i64 cur]) (fun i _ => 32 - (intOf i).toNat)
    case atStart => exact ⟨0, by omega, rfl, hbel, kl⟩
    case round =>
      obtain ⟨wq, hwq⟩ : ∃ wq, wq = wr := ⟨_, rfl⟩
      subst hwq
      obtain ⟨k, hk, rfl, hbel, kl⟩ := hrel
      have k0 := kl.cell 0
      have k1 := kl.cell 1
      have k2 := kl.cell 2
      simp at k0 k1 k2
      by_cases hlt : k < 6
      · as_aux_lemma =>
        go_wp2_with fail
        refine (HDO.out (26 + k) x y _ hbel).mono ?_
        rintro e w3 ⟨rfl, hb3⟩
        rw [do_none _ _ _ _ (by omega) HH.out, none_v]
        have kl := kl.old hb3
        have hbel := hbel.trans (hb3.mono hbel.size)
        clear hb3
        go_wp2_with fail
        go_roundw
        case rel => exact ⟨k + 1, by omega, by go_num, hbel, kl⟩
        case measure => simp [intOf]; omega
      · as_aux_lemma =>
        obtain rfl : k = 6 := by omega
        have kl := kl.alloc (.cells #[.int .i64 42, .int .i64 0, .slice none 0 0, .int .i64 0, .int .u64 0, .int .i64 x, .int .i64 y] 41)
        have kg := Bk.new wq 41 #[.int .i64 42, .int .i64 0, .slice none 0 0, .int .i64 0, .int .u64 0, .int .i64 x, .int .i64 y]
        have hbel := hbel.alloc hbel.size (.cells #[.int .i64 42, .int .i64 0, .slice none 0 0, .int .i64 0, .int .u64 0, .int .i64 x, .int .i64 y] 41)
        clear k0 k1 k2
        have k0 := kl.cell 0
        have k1 := kl.cell 1
        have k2 := kl.cell 2
        have n0 := kg.cell 0
        have n1 := kg.cell 1
        have n2 := kg.cell 2
        have n3 := kg.cell 3
        have n4 := kg.cell 4
        have n5 := kg.cell 5
        have n6 := kg.cell 6
        have H25 : Hid (doV ⟨A1, c1, l1, A2, c2, l2, cur⟩ 25 x 0 = ⟨1, 0⟩) := Lib.hid (by rw [show doV ⟨A1, c1, l1, A2, c2, l2, cur⟩ 25 x 0 = intV (hasL l2 x).length from rfl, HH.out]; rfl)
        have HW := Lib.hid hbel
        go_upto_region 15 with fail
        refine wp_region_s (fun qk => (regPoison A1 A2 c1 c2 l1 l2 cur x y w1 wq).getD qk .any) (by kernel_rfl) ?_ ?_
        · refine BOk.cons rfl [] [7] rfl rfl (by kernel_rfl) (by kernel_rfl) (fun qK qa wr hB qO qF hK => ?_) ?_
          · have e7 : qa.tmps[7]? = some (.int .i64 x) := qO.1.trans rfl
            clear qO qF
            go_simp
            exact hK _ _ (Below.refl _ _) rfl
          refine BOk.cons rfl [] [9] rfl rfl (by kernel_rfl) (by kernel_rfl) (fun qK qa wr hB qO qF hK => ?_) ?_
          · have e9 : qa.tmps[9]? = some (.pointer (some ⟨w1.heap.size, 0, none⟩)) := qO.1.trans rfl
            clear qO qF
            have hk0 := (bcell hB _ _ (World.block_lt_of_cell? _ _ k0)).trans k0
            have hk1 := (bcell hB _ _ (World.block_lt_of_cell? _ _ k1)).trans k1
            have hk2 := (bcell hB _ _ (World.block_lt_of_cell? _ _ k2)).trans k2
            go_simp
            exact hK _ _ (Below.refl _ _) rfl
          refine BOk.cons rfl [0, 1] [] rfl rfl (by kernel_rfl) (by kernel_rfl) (fun qK qa wr hB qO qF hK => ?_) ?_
          · obtain ⟨u73, e73, r0⟩ := qF.1
            have e73 : qa.tmps[73]? = some (.int .i64 x) := (show u73 = .int .i64 x from r0) ▸ e73
            clear r0
            obtain ⟨u74, e74, r1⟩ := qF.2.1
            have e74 : qa.tmps[74]? = some (.agg #[.slice A1 l1.length c1, .slice A2 l2.length c2, .int .i64 cur]) := (show u74 = .agg #[.slice A1 l1.length c1, .slice A2 l2.length c2, .int .i64 cur] from r1) ▸ e74
            clear r1
            clear qO qF
            go_simp
            go_at_call 9
            refine (HDO.out 25 x 0 _ (HW.out.trans (hB.mono HW.out.size))).mono ?_
            rintro e w2 ⟨rfl, hb2⟩
            rw [H25.out]
            exact hK _ _ hb2 rfl
          refine BOk.cons rfl [] [] rfl rfl (by kernel_rfl) (by kernel_rfl) (fun qK qa wr hB qO qF hK => ?_) ?_
          · clear qO qF
            go_simp
            exact hK _ _ (Below.refl _ _) rfl
          refine BOk.cons rfl [2, 3] [] rfl rfl (by kernel_rfl) (by kernel_rfl) (fun qK qa wr hB qO qF hK => ?_) ?_
          · obtain ⟨u75, e75, r2⟩ := qF.1
            have e75 : qa.tmps[75]? = some (.agg #[.int .i64 1, .int .u64 0]) := (show u75 = .agg #[.int .i64 1, .int .u64 0] from r2) ▸ e75
            clear r2
            obtain ⟨u76, e76, r3⟩ := qF.2.1
            have e76 : qa.tmps[76]? = some (.agg #[.int .i64 1, .int .u64 0]) := (show u76 = .agg #[.int .i64 1, .int .u64 0] from r3) ▸ e76
            clear r3
            clear qO qF
            go_simp
            refine hK _ _ (Below.refl _ _) ?_
            show (_ : Value) = _
            first | rfl | (simp; done) | (simp; omega)
          refine BOk.cons rfl [4] [] rfl rfl (by kernel_rfl) (by kernel_rfl) (fun qK qa wr hB qO qF hK => ?_) ?_
          · obtain ⟨u77, e77, r4⟩ := qF.1
            have e77 : qa.tmps[77]? = some (.bool true) := (show u77 = .bool true from r4) ▸ e77
            clear r4
            clear qO qF
            go_simp
            exact hK _ _ (Below.refl _ _) rfl
          refine BOk.yes rfl [] [11] rfl 5 true rfl rfl rfl (by kernel_rfl) (by kernel_rfl) (by kernel_rfl) (fun qK qa wr hB qO qF hK => ?_) ?_
          · have e11 : qa.tmps[11]? = some (.pointer (some ⟨wq.heap.size, 0, none⟩)) := qO.1.trans rfl
            clear qO qF
            have hn0 := (bcell hB _ _ (World.block_lt_of_cell? _ _ n0)).trans n0
            have hn1 := (bcell hB _ _ (World.block_lt_of_cell? _ _ n1)).trans n1
            have hn2 := (bcell hB _ _ (World.block_lt_of_cell? _ _ n2)).trans n2
            have hn3 := (bcell hB _ _ (World.block_lt_of_cell? _ _ n3)).trans n3
            have hn4 := (bcell hB _ _ (World.block_lt_of_cell? _ _ n4)).trans n4
            have hn5 := (bcell hB _ _ (World.block_lt_of_cell? _ _ n5)).trans n5
            have hn6 := (bcell hB _ _ (World.block_lt_of_cell? _ _ n6)).trans n6
            go_simp
            exact hK _ _ (Below.refl _ _) rfl
          refine BOk.yes rfl [6] [] rfl 5 true rfl rfl rfl (by kernel_rfl) (by kernel_rfl) (by kernel_rfl) (fun qK qa wr hB qO qF hK => ?_) ?_
          · obtain ⟨u79, e79, r6⟩ := qF.1
            have e79 : qa.tmps[79]? = some (.agg #[.int .i64 42, .int .i64 0, .slice none 0 0, .int .i64 0, .int .u64 0, .int .i64 x, .int .i64 y]) := (show u79 = .agg #[.int .i64 42, .int .i64 0, .slice none 0 0, .int .i64 0, .int .u64 0, .int .i64 x, .int .i64 y] from r6) ▸ e79
            clear r6
            clear qO qF
            refine wp_bs_node (.tmp 79) rfl (act_eval e79) ?_
            exact hK _ _ ((Below.refl _ _).alloc (Nat.le_refl _) _) ⟨_, rfl, Bk.new _ _ _⟩
          refine BOk.yes rfl [] [9] rfl 5 true rfl rfl rfl (by kernel_rfl) (by kernel_rfl) (by kernel_rfl) (fun qK qa wr hB qO qF hK => ?_) ?_
          · have e9 : qa.tmps[9]? = some (.pointer (some ⟨w1.heap.size, 0, none⟩)) := qO.1.trans rfl
            clear qO qF
            have hk0 := (bcell hB _ _ (World.block_lt_of_cell? _ _ k0)).trans k0
            have hk1 := (bcell hB _ _ (World.block_lt_of_cell? _ _ k1)).trans k1
            have hk2 := (bcell hB _ _ (World.block_lt_of_cell? _ _ k2)).trans k2
            go_simp
            exact hK _ _ (Below.refl _ _) rfl
          refine BOk.yes rfl [7, 8] [] rfl 5 true rfl rfl rfl (by kernel_rfl) (by kernel_rfl) (by kernel_rfl) (fun qK qa wr hB qO qF hK => ?_) ?_
          · obtain ⟨u80, e80, r7⟩ := qF.1
            obtain ⟨g80, h80, k80⟩ := (show ∃ g, u80 = .slice (some ⟨g, 0, none⟩) 1 1 ∧ Bk wr g 41 #[.int .i64 42, .int .i64 0, .slice none 0 0, .int .i64 0, .int .u64 0, .int .i64 x, .int .i64 y] from r7)
            subst h80
            have e80 : qa.tmps[80]? = some (.slice (some ⟨g80, 0, none⟩) 1 1) := e80
            obtain ⟨u81, e81, r8⟩ := qF.2.1
            have e81 : qa.tmps[81]? = some (.agg #[.slice A1 l1.length c1, .slice A2 l2.length c2, .int .i64 cur]) := (show u81 = .agg #[.slice A1 l1.length c1, .slice A2 l2.length c2, .int .i64 cur] from r8) ▸ e81
            clear r8
            clear qO qF
            go_simp
            go_at_call 15
            refine (pall_any ⟨A1, c1, l1, A2, c2, l2, cur⟩ 1 [.mk 42 0 none 0 [] 0 0 x y] (some ⟨g80, 0, none⟩) 1 _ (bk_rd k80) (by simp) (by intro q hq; simp only [List.mem_cons, List.not_mem_nil, or_false] at hq; subst hq; exact ok_leaf _ _ _ _ _) (HOK.out.old (HW.out.trans (hB.mono HW.out.size)))).mono ?_
            rintro e w2 ⟨rfl, hb2⟩
            rw [all_gone HH.out]
            exact hK _ _ hb2 rfl
          refine BOk.yes rfl [9] [] rfl 5 true rfl rfl rfl (by kernel_rfl) (by kernel_rfl) (by kernel_rfl) (fun qK qa wr hB qO qF hK => ?_) ?_
          · obtain ⟨u82, e82, r9⟩ := qF.1
            have e82 : qa.tmps[82]? = some (.bool false) := (show u82 = .bool false from r9) ▸ e82
            clear r9
            clear qO qF
            go_simp
            exact hK _ _ (Below.refl _ _) rfl
          refine BOk.cons rfl [5, 10] [] rfl rfl (by kernel_rfl) (by kernel_rfl) (fun qK qa wr hB qO qF hK => ?_) ?_
          · obtain ⟨u78, e78, r5⟩ := qF.1
            have e78 : qa.tmps[78]? = some (.bool true) := (show u78 = .bool true from r5) ▸ e78
            clear r5
            obtain ⟨u83, e83, r10⟩ := qF.2.1
            have e83 : qa.tmps[83]? = some (.bool true) := (show u83 = .bool true from r10) ▸ e83
            clear r10
            clear qO qF
            go_simp
            refine hK _ _ (Below.refl _ _) ?_
            show (_ : Value) = _
            first | rfl | (simp; done) | (simp; omega)
          refine BOk.cons rfl [11] [] rfl rfl (by kernel_rfl) (by kernel_rfl) (fun qK qa wr hB qO qF hK => ?_) ?_
          · obtain ⟨u84, e84, r11⟩ := qF.1
            have e84 : qa.tmps[84]? = some (.bool true) := (show u84 = .bool true from r11) ▸ e84
            clear r11
            clear qO qF
            go_simp
            exact hK _ _ (Below.refl _ _) rfl
          refine BOk.yes rfl [] [11] rfl 12 true rfl rfl rfl (by kernel_rfl) (by kernel_rfl) (by kernel_rfl) (fun qK qa wr hB qO qF hK => ?_) ?_
          · have e11 : qa.tmps[11]? = some (.pointer (some ⟨wq.heap.size, 0, none⟩)) := qO.1.trans rfl
            clear qO qF
            have hn0 := (bcell hB _ _ (World.block_lt_of_cell? _ _ n0)).trans n0
            have hn1 := (bcell hB _ _ (World.block_lt_of_cell? _ _ n1)).trans n1
            have hn2 := (bcell hB _ _ (World.block_lt_of_cell? _ _ n2)).trans n2
            have hn3 := (bcell hB _ _ (World.block_lt_of_cell? _ _ n3)).trans n3
            have hn4 := (bcell hB _ _ (World.block_lt_of_cell? _ _ n4)).trans n4
            have hn5 := (bcell hB _ _ (World.block_lt_of_cell? _ _ n5)).trans n5
            have hn6 := (bcell hB _ _ (World.block_lt_of_cell? _ _ n6)).trans n6
            go_simp
            exact hK _ _ (Below.refl _ _) rfl
          refine BOk.yes rfl [13] [] rfl 12 true rfl rfl rfl (by kernel_rfl) (by kernel_rfl) (by kernel_rfl) (fun qK qa wr hB qO qF hK => ?_) ?_
          · obtain ⟨u86, e86, r13⟩ := qF.1
            have e86 : qa.tmps[86]? = some (.agg #[.int .i64 42, .int .i64 0, .slice none 0 0, .int .i64 0, .int .u64 0, .int .i64 x, .int .i64 y]) := (show u86 = .agg #[.int .i64 42, .int .i64 0, .slice none 0 0, .int .i64 0, .int .u64 0, .int .i64 x, .int .i64 y] from r13) ▸ e86
            clear r13
            clear qO qF
            refine wp_bs_node (.tmp 86) rfl (act_eval e86) ?_
            exact hK _ _ ((Below.refl _ _).alloc (Nat.le_refl _) _) ⟨_, rfl, Bk.new _ _ _⟩
          refine BOk.yes rfl [14] [] rfl 12 true rfl rfl rfl (by kernel_rfl) (by kernel_rfl) (by kernel_rfl) (fun qK qa wr hB qO qF hK => ?_) ?_
          · obtain ⟨u87, e87, r14⟩ := qF.1
            obtain ⟨g87, h87, k87⟩ := (show ∃ g, u87 = .slice (some ⟨g, 0, none⟩) 1 1 ∧ Bk wr g 41 #[.int .i64 42, .int .i64 0, .slice none 0 0, .int .i64 0, .int .u64 0, .int .i64 x, .int .i64 y] from r14)
            subst h87
            have e87 : qa.tmps[87]? = some (.slice (some ⟨g87, 0, none⟩) 1 1) := e87
            clear qO qF
            go_simp
            exact hK _ _ (Below.refl _ _) ⟨_, rfl, k87⟩
          refine BOk.yes rfl [15] [] rfl 12 true rfl rfl rfl (by kernel_rfl) (by kernel_rfl) (by kernel_rfl) (fun qK qa wr hB qO qF hK => ?_) ?_
          · obtain ⟨u88, e88, r15⟩ := qF.1
            obtain ⟨g88, h88, k88⟩ := (show ∃ g, u88 = .agg #[.int .i64 15, .int .i64 0, .slice (some ⟨g, 0, none⟩) 1 1, .int .i64 0, .int .u64 0, .int .i64 0, .int .i64 0] ∧ Bk wr g 41 #[.int .i64 42, .int .i64 0, .slice none 0 0, .int .i64 0, .int .u64 0, .int .i64 x, .int .i64 y] from r15)
            subst h88
            have e88 : qa.tmps[88]? = some (.agg #[.int .i64 15, .int .i64 0, .slice (some ⟨g88, 0, none⟩) 1 1, .int .i64 0, .int .u64 0, .int .i64 0, .int .i64 0]) := e88
            clear qO qF
            refine wp_bs_node (.tmp 88) rfl (act_eval e88) ?_
            exact hK _ _ ((Below.refl _ _).alloc (Nat.le_refl _) _) ⟨_, _, rfl, k88.alloc _, Bk.new _ _ _⟩
          refine BOk.yes rfl [] [9] rfl 12 true rfl rfl rfl (by kernel_rfl) (by kernel_rfl) (by kernel_rfl) (fun qK qa wr hB qO qF hK => ?_) ?_
          · have e9 : qa.tmps[9]? = some (.pointer (some ⟨w1.heap.size, 0, none⟩)) := qO.1.trans rfl
            clear qO qF
            have hk0 := (bcell hB _ _ (World.block_lt_of_cell? _ _ k0)).trans k0
            have hk1 := (bcell hB _ _ (World.block_lt_of_cell? _ _ k1)).trans k1
            have hk2 := (bcell hB _ _ (World.block_lt_of_cell? _ _ k2)).trans k2
            go_simp
            exact hK _ _ (Below.refl _ _) rfl
          refine BOk.yes rfl [16, 17] [] rfl 12 true rfl rfl rfl (by kernel_rfl) (by kernel_rfl) (by kernel_rfl) (fun qK qa wr hB qO qF hK => ?_) ?_
          · obtain ⟨u89, e89, r16⟩ := qF.1
            obtain ⟨g89, i89, h89, k89, m89⟩ := (show ∃ g g2, u89 = .slice (some ⟨g2, 0, none⟩) 1 1 ∧ Bk wr g 41 #[.int .i64 42, .int .i64 0, .slice none 0 0, .int .i64 0, .int .u64 0, .int .i64 x, .int .i64 y] ∧ Bk wr g2 41 #[.int .i64 15, .int .i64 0, .slice (some ⟨g, 0, none⟩) 1 1, .int .i64 0, .int .u64 0, .int .i64 0, .int .i64 0] from r16)
            subst h89
            have e89 : qa.tmps[89]? = some (.slice (some ⟨i89, 0, none⟩) 1 1) := e89
            obtain ⟨u90, e90, r17⟩ := qF.2.1
            have e90 : qa.tmps[90]? = some (.agg #[.slice A1 l1.length c1, .slice A2 l2.length c2, .int .i64 cur]) := (show u90 = .agg #[.slice A1 l1.length c1, .slice A2 l2.length c2, .int .i64 cur] from r17) ▸ e90
            clear r17
            clear qO qF
            go_simp
            go_at_call 15
            refine (pall_any ⟨A1, c1, l1, A2, c2, l2, cur⟩ 2 [.mk 15 0 (some ⟨g89, 0, none⟩) 1 [.mk 42 0 none 0 [] 0 0 x y] 0 0 0 0] (some ⟨i89, 0, none⟩) 1 _ (bk_rd m89) (by simp) (by intro q hq; simp only [List.mem_cons, List.not_mem_nil, or_false] at hq; subst hq; exact ⟨bk_rd k89, by simp, by decide, (by intro q hq; simp only [List.mem_cons, List.not_mem_nil, or_false] at hq; subst hq; exact ok_leaf _ _ _ _ _)⟩) (HOK.out.old (HW.out.trans (hB.mono HW.out.size)))).mono ?_
            rintro e w2 ⟨rfl, hb2⟩
            rw [all_not HH.out]
            exact hK _ _ hb2 rfl
          refine BOk.yes rfl [18] [] rfl 12 true rfl rfl rfl (by kernel_rfl) (by kernel_rfl) (by kernel_rfl) (fun qK qa wr hB qO qF hK => ?_) ?_
          · obtain ⟨u91, e91, r18⟩ := qF.1
            have e91 : qa.tmps[91]? = some (.bool false) := (show u91 = .bool false from r18) ▸ e91
            clear r18
            clear qO qF
            go_simp
            exact hK _ _ (Below.refl _ _) rfl
          refine BOk.cons rfl [12, 19] [] rfl rfl (by kernel_rfl) (by kernel_rfl) (fun qK qa wr hB qO qF hK => ?_) ?_
          · obtain ⟨u85, e85, r12⟩ := qF.1
            have e85 : qa.tmps[85]? = some (.bool true) := (show u85 = .bool true from r12) ▸ e85
            clear r12
            obtain ⟨u92, e92, r19⟩ := qF.2.1
            have e92 : qa.tmps[92]? = some (.bool true) := (show u92 = .bool true from r19) ▸ e92
            clear r19
            clear qO qF
            go_simp
            refine hK _ _ (Below.refl _ _) ?_
            show (_ : Value) = _
            first | rfl | (simp; done) | (simp; omega)
          refine BOk.cons rfl [20] [] rfl rfl (by kernel_rfl) (by kernel_rfl) (fun qK qa wr hB qO qF hK => ?_) ?_
          · obtain ⟨u93, e93, r20⟩ := qF.1
            have e93 : qa.tmps[93]? = some (.bool true) := (show u93 = .bool true from r20) ▸ e93
            clear r20
            clear qO qF
            go_simp
            exact hK _ _ (Below.refl _ _) rfl
          exact BOk.nil
        intro vals wr hl hB hR
        match vals, hl with
        | [z73, z74, z75, z76, z77, z78, z79, z80, z81, z82, z83, z84, z85, z86, z87, z88, z89, z90, z91, z92, z93, z6], _ =>
        have r21 : z6 = .bool true := hR 21 _ rfl
        subst r21
        clear hR
        simp only [List.cons_append, List.nil_append, putAll, Act.put, List.setIfInBounds_toArray, List.set_cons_zero, List.set_cons_succ]
        go_wp2_with fail
        go_ret
        exact ⟨rfl, HW.out.trans (hB.mono HW.out.size)⟩
  by_cases hx1 : (l2.length : Int) ≤ x
  · have HH : Hid (hasL l2 x = []) := Lib.hid (by unfold hasL; rw [dif_neg (by omega)])
    go_wp2_with fail
    go_loopw [10] (fun i wr => ∃ k : Nat, k ≤ 6 ∧ i = .int .i64 (26 + k) ∧ Below W0.heap.size W0 wr ∧ Bk wr w1.heap.size 28 #[.slice A1 l1.length c1, .slice A2 l2.length c2, .int .i64 cur]) (fun i _ => 32 - (intOf i).toNat)
    case atStart => exact ⟨0, by omega, rfl, hbel, kl⟩
    case round =>
      obtain ⟨wq, hwq⟩ : ∃ wq, wq = wr := ⟨_, rfl⟩
      subst hwq
      obtain ⟨k, hk, rfl, hbel, kl⟩ := hrel
      have k0 := kl.cell 0
      have k1 := kl.cell 1
      have k2 := kl.cell 2
      simp at k0 k1 k2
      by_cases hlt : k < 6
      · as_aux_lemma =>
        go_wp2_with fail
        refine (HDO.out (26 + k) x y _ hbel).mono ?_
        rintro e w3 ⟨rfl, hb3⟩
        rw [do_none _ _ _ _ (by omega) HH.out, none_v]
        have kl := kl.old hb3
        have hbel := hbel.trans (hb3.mono hbel.size)
        clear hb3
        go_wp2_with fail
        go_roundw
        case rel => exact ⟨k + 1, by omega, by go_num, hbel, kl⟩
        case measure => simp [intOf]; omega
      · as_aux_lemma =>
        obtain rfl : k = 6 := by omega
        have kl := kl.alloc (.cells #[.int .i64 42, .int .i64 0, .slice none 0 0, .int .i64 0, .int .u64 0, .int .i64 x, .int .i64 y] 41)
        have kg := Bk.new wq 41 #[.int .i64 42, .int .i64 0, .slice none 0 0, .int .i64 0, .int .u64 0, .int .i64 x, .int .i64 y]
        have hbel := hbel.alloc hbel.size (.cells #[.int .i64 42, .int .i64 0, .slice none 0 0, .int .i64 0, .int .u64 0, .int .i64 x, .int .i64 y] 41)
        clear k0 k1 k2
        have k0 := kl.cell 0
        have k1 := kl.cell 1
        have k2 := kl.cell 2
        have n0 := kg.cell 0
        have n1 := kg.cell 1
        have n2 := kg.cell 2
        have n3 := kg.cell 3
        have n4 := kg.cell 4
        have n5 := kg.cell 5
        have n6 := kg.cell 6
        have H25 : Hid (doV ⟨A1, c1, l1, A2, c2, l2, cur⟩ 25 x 0 = ⟨1, 0⟩) := Lib.hid (by rw [show doV ⟨A1, c1, l1, A2, c2, l2, cur⟩ 25 x 0 = intV (hasL l2 x).length from rfl, HH.out]; rfl)
        have HW := Lib.hid hbel
        go_upto_region 15 with fail
        refine wp_region_s (fun qk => (regPoison A1 A2 c1 c2 l1 l2 cur x y w1 wq).getD qk .any) (by kernel_rfl) ?_ ?_
        · refine BOk.cons rfl [] [7] rfl rfl (by kernel_rfl) (by kernel_rfl) (fun qK qa wr hB qO qF hK => ?_) ?_
          · have e7 : qa.tmps[7]? = some (.int .i64 x) := qO.1.trans rfl
            clear qO qF
            go_simp
            exact hK _ _ (Below.refl _ _) rfl
          refine BOk.cons rfl [] [9] rfl rfl (by kernel_rfl) (by kernel_rfl) (fun qK qa wr hB qO qF hK => ?_) ?_
          · have e9 : qa.tmps[9]? = some (.pointer (some ⟨w1.heap.size, 0, none⟩)) := qO.1.trans rfl
            clear qO qF
            have hk0 := (bcell hB _ _ (World.block_lt_of_cell? _ _ k0)).trans k0
            have hk1 := (bcell hB _ _ (World.block_lt_of_cell? _ _ k1)).trans k1
            have hk2 := (bcell hB _ _ (World.block_lt_of_cell? _ _ k2)).trans k2
            go_simp
            exact hK _ _ (Below.refl _ _) rfl
          refine BOk.cons rfl [0, 1] [] rfl rfl (by kernel_rfl) (by kernel_rfl) (fun qK qa wr hB qO qF hK => ?_) ?_
          · obtain ⟨u73, e73, r0⟩ := qF.1
            have e73 : qa.tmps[73]? = some (.int .i64 x) := (show u73 = .int .i64 x from r0) ▸ e73
            clear r0
            obtain ⟨u74, e74, r1⟩ := qF.2.1
            have e74 : qa.tmps[74]? = some (.agg #[.slice A1 l1.length c1, .slice A2 l2.length c2, .int .i64 cur]) := (show u74 = .agg #[.slice A1 l1.length c1, .slice A2 l2.length c2, .int .i64 cur] from r1) ▸ e74
            clear r1
            clear qO qF
            go_simp
            go_at_call 9
            refine (HDO.out 25 x 0 _ (HW.out.trans (hB.mono HW.out.size))).mono ?_
            rintro e w2 ⟨rfl, hb2⟩
            rw [H25.out]
            exact hK _ _ hb2 rfl
          refine BOk.cons rfl [] [] rfl rfl (by kernel_rfl) (by kernel_rfl) (fun qK qa wr hB qO qF hK => ?_) ?_
          · clear qO qF
            go_simp
            exact hK _ _ (Below.refl _ _) rfl
          refine BOk.cons rfl [2, 3] [] rfl rfl (by kernel_rfl) (by kernel_rfl) (fun qK qa wr hB qO qF hK => ?_) ?_
          · obtain ⟨u75, e75, r2⟩ := qF.1
            have e75 : qa.tmps[75]? = some (.agg #[.int .i64 1, .int .u64 0]) := (show u75 = .agg #[.int .i64 1, .int .u64 0] from r2) ▸ e75
            clear r2
            obtain ⟨u76, e76, r3⟩ := qF.2.1
            have e76 : qa.tmps[76]? = some (.agg #[.int .i64 1, .int .u64 0]) := (show u76 = .agg #[.int .i64 1, .int .u64 0] from r3) ▸ e76
            clear r3
            clear qO qF
            go_simp
            refine hK _ _ (Below.refl _ _) ?_
            show (_ : Value) = _
            first | rfl | (simp; done) | (simp; omega)
          refine BOk.cons rfl [4] [] rfl rfl (by kernel_rfl) (by kernel_rfl) (fun qK qa wr hB qO qF hK => ?_) ?_
          · obtain ⟨u77, e77, r4⟩ := qF.1
            have e77 : qa.tmps[77]? = some (.bool true) := (show u77 = .bool true from r4) ▸ e77
            clear r4
            clear qO qF
            go_simp
            exact hK _ _ (Below.refl _ _) rfl
          refine BOk.yes rfl [] [11] rfl 5 true rfl rfl rfl (by kernel_rfl) (by kernel_rfl) (by kernel_rfl) (fun qK qa wr hB qO qF hK => ?_) ?_
          · have e11 : qa.tmps[11]? = some (.pointer (some ⟨wq.heap.size, 0, none⟩)) := qO.1.trans rfl
            clear qO qF
            have hn0 := (bcell hB _ _ (World.block_lt_of_cell? _ _ n0)).trans n0
            have hn1 := (bcell hB _ _ (World.block_lt_of_cell? _ _ n1)).trans n1
            have hn2 := (bcell hB _ _ (World.block_lt_of_cell? _ _ n2)).trans n2
            have hn3 := (bcell hB _ _ (World.block_lt_of_cell? _ _ n3)).trans n3
            have hn4 := (bcell hB _ _ (World.block_lt_of_cell? _ _ n4)).trans n4
            have hn5 := (bcell hB _ _ (World.block_lt_of_cell? _ _ n5)).trans n5
            have hn6 := (bcell hB _ _ (World.block_lt_of_cell? _ _ n6)).trans n6
            go_simp
            exact hK _ _ (Below.refl _ _) rfl
          refine BOk.yes rfl [6] [] rfl 5 true rfl rfl rfl (by kernel_rfl) (by kernel_rfl) (by kernel_rfl) (fun qK qa wr hB qO qF hK => ?_) ?_
          · obtain ⟨u79, e79, r6⟩ := qF.1
            have e79 : qa.tmps[79]? = some (.agg #[.int .i64 42, .int .i64 0, .slice none 0 0, .int .i64 0, .int .u64 0, .int .i64 x, .int .i64 y]) := (show u79 = .agg #[.int .i64 42, .int .i64 0, .slice none 0 0, .int .i64 0, .int .u64 0, .int .i64 x, .int .i64 y] from r6) ▸ e79
            clear r6
            clear qO qF
            refine wp_bs_node (.tmp 79) rfl (act_eval e79) ?_
            exact hK _ _ ((Below.refl _ _).alloc (Nat.le_refl _) _) ⟨_, rfl, Bk.new _ _ _⟩
          refine BOk.yes rfl [] [9] rfl 5 true rfl rfl rfl (by kernel_rfl) (by kernel_rfl) (by kernel_rfl) (fun qK qa wr hB qO qF hK => ?_) ?_
          · have e9 : qa.tmps[9]? = some (.pointer (some ⟨w1.heap.size, 0, none⟩)) := qO.1.trans rfl
            clear qO qF
            have hk0 := (bcell hB _ _ (World.block_lt_of_cell? _ _ k0)).trans k0
            have hk1 := (bcell hB _ _ (World.block_lt_of_cell? _ _ k1)).trans k1
            have hk2 := (bcell hB _ _ (World.block_lt_of_cell? _ _ k2)).trans k2
            go_simp
            exact hK _ _ (Below.refl _ _) rfl
          refine BOk.yes rfl [7, 8] [] rfl 5 true rfl rfl rfl (by kernel_rfl) (by kernel_rfl) (by kernel_rfl) (fun qK qa wr hB qO qF hK => ?_) ?_
          · obtain ⟨u80, e80, r7⟩ := qF.1
            obtain ⟨g80, h80, k80⟩ := (show ∃ g, u80 = .slice (some ⟨g, 0, none⟩) 1 1 ∧ Bk wr g 41 #[.int .i64 42, .int .i64 0, .slice none 0 0, .int .i64 0, .int .u64 0, .int .i64 x, .int .i64 y] from r7)
            subst h80
            have e80 : qa.tmps[80]? = some (.slice (some ⟨g80, 0, none⟩) 1 1) := e80
            obtain ⟨u81, e81, r8⟩ := qF.2.1
            have e81 : qa.tmps[81]? = some (.agg #[.slice A1 l1.length c1, .slice A2 l2.length c2, .int .i64 cur]) := (show u81 = .agg #[.slice A1 l1.length c1, .slice A2 l2.length c2, .int .i64 cur] from r8) ▸ e81
            clear r8
            clear qO qF
            go_simp
            go_at_call 15
            refine (pall_any ⟨A1, c1, l1, A2, c2, l2, cur⟩ 1 [.mk 42 0 none 0 [] 0 0 x y] (some ⟨g80, 0, none⟩) 1 _ (bk_rd k80) (by simp) (by intro q hq; simp only [List.mem_cons, List.not_mem_nil, or_false] at hq; subst hq; exact ok_leaf _ _ _ _ _) (HOK.out.old (HW.out.trans (hB.mono HW.out.size)))).mono ?_
            rintro e w2 ⟨rfl, hb2⟩
            rw [all_gone HH.out]
            exact hK _ _ hb2 rfl
          refine BOk.yes rfl [9] [] rfl 5 true rfl rfl rfl (by kernel_rfl) (by kernel_rfl) (by kernel_rfl) (fun qK qa wr hB qO qF hK => ?_) ?_
          · obtain ⟨u82, e82, r9⟩ := qF.1
            have e82 : qa.tmps[82]? = some (.bool false) := (show u82 = .bool false from r9) ▸ e82
            clear r9
            clear qO qF
            go_simp
            exact hK _ _ (Below.refl _ _) rfl
          refine BOk.cons rfl [5, 10] [] rfl rfl (by kernel_rfl) (by kernel_rfl) (fun qK qa wr hB qO qF hK => ?_) ?_
          · obtain ⟨u78, e78, r5⟩ := qF.1
            have e78 : qa.tmps[78]? = some (.bool true) := (show u78 = .bool true from r5) ▸ e78
            clear r5
            obtain ⟨u83, e83, r10⟩ := qF.2.1
            have e83 : qa.tmps[83]? = some (.bool true) := (show u83 = .bool true from r10) ▸ e83
            clear r10
            clear qO qF
            go_simp
            refine hK _ _ (Below.refl _ _) ?_
            show (_ : Value) = _
            first | rfl | (simp; done) | (simp; omega)
          refine BOk.cons rfl [11] [] rfl rfl (by kernel_rfl) (by kernel_rfl) (fun qK qa wr hB qO qF hK => ?_) ?_
          · obtain ⟨u84, e84, r11⟩ := qF.1
            have e84 : qa.tmps[84]? = some (.bool true) := (show u84 = .bool true from r11) ▸ e84
            clear r11
            clear qO qF
            go_simp
            exact hK _ _ (Below.refl _ _) rfl
          refine BOk.yes rfl [] [11] rfl 12 true rfl rfl rfl (by kernel_rfl) (by kernel_rfl) (by kernel_rfl) (fun qK qa wr hB qO qF hK => ?_) ?_
          · have e11 : qa.tmps[11]? = some (.pointer (some ⟨wq.heap.size, 0, none⟩)) := qO.1.trans rfl
            clear qO qF
            have hn0 := (bcell hB _ _ (World.block_lt_of_cell? _ _ n0)).trans n0
            have hn1 := (bcell hB _ _ (World.block_lt_of_cell? _ _ n1)).trans n1
            have hn2 := (bcell hB _ _ (World.block_lt_of_cell? _ _ n2)).trans n2
            have hn3 := (bcell hB _ _ (World.block_lt_of_cell? _ _ n3)).trans n3
            have hn4 := (bcell hB _ _ (World.block_lt_of_cell? _ _ n4)).trans n4
            have hn5 := (bcell hB _ _ (World.block_lt_of_cell? _ _ n5)).trans n5
            have hn6 := (bcell hB _ _ (World.block_lt_of_cell? _ _ n6)).trans n6
            go_simp
            exact hK _ _ (Below.refl _ _) rfl
          refine BOk.yes rfl [13] [] rfl 12 true rfl rfl rfl (by kernel_rfl) (by kernel_rfl) (by kernel_rfl) (fun qK qa wr hB qO qF hK => ?_) ?_
          · obtain ⟨u86, e86, r13⟩ := qF.1
            have e86 : qa.tmps[86]? = some (.agg #[.int .i64 42, .int .i64 0, .slice none 0 0, .int .i64 0, .int .u64 0, .int .i64 x, .int .i64 y]) := (show u86 = .agg #[.int .i64 42, .int .i64 0, .slice none 0 0, .int .i64 0, .int .u64 0, .int .i64 x, .int .i64 y] from r13) ▸ e86
            clear r13
            clear qO qF
            refine wp_bs_node (.tmp 86) rfl (act_eval e86) ?_
            exact hK _ _ ((Below.refl _ _).alloc (Nat.le_refl _) _) ⟨_, rfl, Bk.new _ _ _⟩
          refine BOk.yes rfl [14] [] rfl 12 true rfl rfl rfl (by kernel_rfl) (by kernel_rfl) (by kernel_rfl) (fun qK qa wr hB qO qF hK => ?_) ?_
          · obtain ⟨u87, e87, r14⟩ := qF.1
            obtain ⟨g87, h87, k87⟩ := (show ∃ g, u87 = .slice (some ⟨g, 0, none⟩) 1 1 ∧ Bk wr g 41 #[.int .i64 42, .int .i64 0, .slice none 0 0, .int .i64 0, .int .u64 0, .int .i64 x, .int .i64 y] from r14)
            subst h87
            have e87 : qa.tmps[87]? = some (.slice (some ⟨g87, 0, none⟩) 1 1) := e87
            clear qO qF
            go_simp
            exact hK _ _ (Below.refl _ _) ⟨_, rfl, k87⟩
          refine BOk.yes rfl [15] [] rfl 12 true rfl rfl rfl (by kernel_rfl) (by kernel_rfl) (by kernel_rfl) (fun qK qa wr hB qO qF hK => ?_) ?_
          · obtain ⟨u88, e88, r15⟩ := qF.1
            obtain ⟨g88, h88, k88⟩ := (show ∃ g, u88 = .agg #[.int .i64 15, .int .i64 0, .slice (some ⟨g, 0, none⟩) 1 1, .int .i64 0, .int .u64 0, .int .i64 0, .int .i64 0] ∧ Bk wr g 41 #[.int .i64 42, .int .i64 0, .slice none 0 0, .int .i64 0, .int .u64 0, .int .i64 x, .int .i64 y] from r15)
            subst h88
            have e88 : qa.tmps[88]? = some (.agg #[.int .i64 15, .int .i64 0, .slice (some ⟨g88, 0, none⟩) 1 1, .int .i64 0, .int .u64 0, .int .i64 0, .int .i64 0]) := e88
            clear qO qF
            refine wp_bs_node (.tmp 88) rfl (act_eval e88) ?_
            exact hK _ _ ((Below.refl _ _).alloc (Nat.le_refl _) _) ⟨_, _, rfl, k88.alloc _, Bk.new _ _ _⟩
          refine BOk.yes rfl [] [9] rfl 12 true rfl rfl rfl (by kernel_rfl) (by kernel_rfl) (by kernel_rfl) (fun qK qa wr hB qO qF hK => ?_) ?_
          · have e9 : qa.tmps[9]? = some (.pointer (some ⟨w1.heap.size, 0, none⟩)) := qO.1.trans rfl
            clear qO qF
            have hk0 := (bcell hB _ _ (World.block_lt_of_cell? _ _ k0)).trans k0
            have hk1 := (bcell hB _ _ (World.block_lt_of_cell? _ _ k1)).trans k1
            have hk2 := (bcell hB _ _ (World.block_lt_of_cell? _ _ k2)).trans k2
            go_simp
            exact hK _ _ (Below.refl _ _) rfl
          refine BOk.yes rfl [16, 17] [] rfl 12 true rfl rfl rfl (by kernel_rfl) (by kernel_rfl) (by kernel_rfl) (fun qK qa wr hB qO qF hK => ?_) ?_
          · obtain ⟨u89, e89, r16⟩ := qF.1
            obtain ⟨g89, i89, h89, k89, m89⟩ := (show ∃ g g2, u89 = .slice (some ⟨g2, 0, none⟩) 1 1 ∧ Bk wr g 41 #[.int .i64 42, .int .i64 0, .slice none 0 0, .int .i64 0, .int .u64 0, .int .i64 x, .int .i64 y] ∧ Bk wr g2 41 #[.int .i64 15, .int .i64 0, .slice (some ⟨g, 0, none⟩) 1 1, .int .i64 0, .int .u64 0, .int .i64 0, .int .i64 0] from r16)
            subst h89
            have e89 : qa.tmps[89]? = some (.slice (some ⟨i89, 0, none⟩) 1 1) := e89
            obtain ⟨u90, e90, r17⟩ := qF.2.1
            have e90 : qa.tmps[90]? = some (.agg #[.slice A1 l1.length c1, .slice A2 l2.length c2, .int .i64 cur]) := (show u90 = .agg #[.slice A1 l1.length c1, .slice A2 l2.length c2, .int .i64 cur] from r17) ▸ e90
            clear r17
            clear qO qF
            go_simp
            go_at_call 15
            refine (pall_any ⟨A1, c1, l1, A2, c2, l2, cur⟩ 2 [.mk 15 0 (some ⟨g89, 0, none⟩) 1 [.mk 42 0 none 0 [] 0 0 x y] 0 0 0 0] (some ⟨i89, 0, none⟩) 1 _ (bk_rd m89) (by simp) (by intro q hq; simp only [List.mem_cons, List.not_mem_nil, or_false] at hq; subst hq; exact ⟨bk_rd k89, by simp, by decide, (by intro q hq; simp only [List.mem_cons, List.not_mem_nil, or_false] at hq; subst hq; exact ok_leaf _ _ _ _ _)⟩) (HOK.out.old (HW.out.trans (hB.mono HW.out.size)))).mono ?_
            rintro e w2 ⟨rfl, hb2⟩
            rw [all_not HH.out]
            exact hK _ _ hb2 rfl
          refine BOk.yes rfl [18] [] rfl 12 true rfl rfl rfl (by kernel_rfl) (by kernel_rfl) (by kernel_rfl) (fun qK qa wr hB qO qF hK => ?_) ?_
          · obtain ⟨u91, e91, r18⟩ := qF.1
            have e91 : qa.tmps[91]? = some (.bool false) := (show u91 = .bool false from r18) ▸ e91
            clear r18
            clear qO qF
            go_simp
            exact hK _ _ (Below.refl _ _) rfl
          refine BOk.cons rfl [12, 19] [] rfl rfl (by kernel_rfl) (by kernel_rfl) (fun qK qa wr hB qO qF hK => ?_) ?_
          · obtain ⟨u85, e85, r12⟩ := qF.1
            have e85 : qa.tmps[85]? = some (.bool true) := (show u85 = .bool true from r12) ▸ e85
            clear r12
            obtain ⟨u92, e92, r19⟩ := qF.2.1
            have e92 : qa.tmps[92]? = some (.bool true) := (show u92 = .bool true from r19) ▸ e92
            clear r19
            clear qO qF
            go_simp
            refine hK _ _ (Below.refl _ _) ?_
            show (_ : Value) = _
            first | rfl | (simp; done) | (simp; omega)
          refine BOk.cons rfl [20] [] rfl rfl (by kernel_rfl) (by kernel_rfl) (fun qK qa wr hB qO qF hK => ?_) ?_
          · obtain ⟨u93, e93, r20⟩ := qF.1
            have e93 : qa.tmps[93]? = some (.bool true) := (show u93 = .bool true from r20) ▸ e93
            clear r20
            clear qO qF
            go_simp
            exact hK _ _ (Below.refl _ _) rfl
          exact BOk.nil
        intro vals wr hl hB hR
        match vals, hl with
        | [z73, z74, z75, z76, z77, z78, z79, z80, z81, z82, z83, z84, z85, z86, z87, z88, z89, z90, z91, z92, z93, z6], _ =>
        have r21 : z6 = .bool true := hR 21 _ rfl
        subst r21
        clear hR
        simp only [List.cons_append, List.nil_append, putAll, Act.put, List.setIfInBounds_toArray, List.set_cons_zero, List.set_cons_succ]
        go_wp2_with fail
        go_ret
        exact ⟨rfl, HW.out.trans (hB.mono HW.out.size)⟩
  obtain ⟨n, rfl⟩ : ∃ n : Nat, x = n := ⟨x.toNat, by omega⟩
  have hn : n < l2.length := by omega
  obtain ⟨bB, oB, hA2, hbB, hcB⟩ := (HOK.out.brd.below hbel).elem (n := 1) (fun _ => rfl) (by omega) hn
  have hcB0 : (w1.alloc (.cells #[.slice A1 l1.length c1, .slice A2 l2.length c2, .int .i64 cur] 28)).cell? ⟨bB, oB + n * 1, none⟩ = some (.slice l2[n].A l2[n].l.length l2[n].c) := hcB 0 _ rfl
  rw [Nat.mul_one] at hcB0
  have hhl : hasL l2 n = l2[n].l := by unfold hasL; rw [dif_pos ⟨by omega, by simpa using hn⟩]; rfl
  clear hcB
  generalize l2[n] = IV at *
  obtain ⟨A9, c9, l9⟩ := IV
  simp only at hcB0 hhl hA2
  subst hA2
  by_cases h9 : l9 = []
  · subst h9
    have HH : Hid (hasL l2 n = []) := Lib.hid hhl
    simp only [List.length_nil] at hcB0
    clear hhl
    go_wp2_with fail
    go_loopw [10] (fun i wr => ∃ k : Nat, k ≤ 6 ∧ i = .int .i64 (26 + k) ∧ Below W0.heap.size W0 wr ∧ Bk wr w1.heap.size 28 #[.slice A1 l1.length c1, .slice (some ⟨bB, oB, none⟩) l2.length c2, .int .i64 cur]) (fun i _ => 32 - (intOf i).toNat)
    case atStart => exact ⟨0, by omega, rfl, hbel, kl⟩
    case round =>
      obtain ⟨wq, hwq⟩ : ∃ wq, wq = wr := ⟨_, rfl⟩
      subst hwq
      obtain ⟨k, hk, rfl, hbel, kl⟩ := hrel
      have k0 := kl.cell 0
      have k1 := kl.cell 1
      have k2 := kl.cell 2
      simp at k0 k1 k2
      by_cases hlt : k < 6
      · as_aux_lemma =>
        go_wp2_with fail
        refine (HDO.out (26 + k) n y _ hbel).mono ?_
        rintro e w3 ⟨rfl, hb3⟩
        rw [do_none _ _ _ _ (by omega) HH.out, none_v]
        have kl := kl.old hb3
        have hbel := hbel.trans (hb3.mono hbel.size)
        clear hb3
        go_wp2_with fail
        go_roundw
        case rel => exact ⟨k + 1, by omega, by go_num, hbel, kl⟩
        case measure => simp [intOf]; omega
      · as_aux_lemma =>
        obtain rfl : k = 6 := by omega
        have kl := kl.alloc (.cells #[.int .i64 42, .int .i64 0, .slice none 0 0, .int .i64 0, .int .u64 0, .int .i64 (n : Nat), .int .i64 y] 41)
        have kg := Bk.new wq 41 #[.int .i64 42, .int .i64 0, .slice none 0 0, .int .i64 0, .int .u64 0, .int .i64 (n : Nat), .int .i64 y]
        have hbel := hbel.alloc hbel.size (.cells #[.int .i64 42, .int .i64 0, .slice none 0 0, .int .i64 0, .int .u64 0, .int .i64 (n : Nat), .int .i64 y] 41)
        clear k0 k1 k2
        have k0 := kl.cell 0
        have k1 := kl.cell 1
        have k2 := kl.cell 2
        have n0 := kg.cell 0
        have n1 := kg.cell 1
        have n2 := kg.cell 2
        have n3 := kg.cell 3
        have n4 := kg.cell 4
        have n5 := kg.cell 5
        have n6 := kg.cell 6
        have H25 : Hid (doV ⟨A1, c1, l1, some ⟨bB, oB, none⟩, c2, l2, cur⟩ 25 n 0 = ⟨1, 0⟩) := Lib.hid (by rw [show doV ⟨A1, c1, l1, some ⟨bB, oB, none⟩, c2, l2, cur⟩ 25 n 0 = intV (hasL l2 n).length from rfl, HH.out]; rfl)
        have HW := Lib.hid hbel
        go_upto_region 15 with fail
        refine wp_region_s (fun qk => (regPoison A1 (some ⟨bB, oB, none⟩) c1 c2 l1 l2 cur n y w1 wq).getD qk .any) (by kernel_rfl) ?_ ?_
        · refine BOk.cons rfl [] [7] rfl rfl (by kernel_rfl) (by kernel_rfl) (fun qK qa wr hB qO qF hK => ?_) ?_
          · have e7 : qa.tmps[7]? = some (.int .i64 (n : Nat)) := qO.1.trans rfl
            clear qO qF
            go_simp
            exact hK _ _ (Below.refl _ _) rfl
          refine BOk.cons rfl [] [9] rfl rfl (by kernel_rfl) (by kernel_rfl) (fun qK qa wr hB qO qF hK => ?_) ?_
          · have e9 : qa.tmps[9]? = some (.pointer (some ⟨w1.heap.size, 0, none⟩)) := qO.1.trans rfl
            clear qO qF
            have hk0 := (bcell hB _ _ (World.block_lt_of_cell? _ _ k0)).trans k0
            have hk1 := (bcell hB _ _ (World.block_lt_of_cell? _ _ k1)).trans k1
            have hk2 := (bcell hB _ _ (World.block_lt_of_cell? _ _ k2)).trans k2
            go_simp
            exact hK _ _ (Below.refl _ _) rfl
          refine BOk.cons rfl [0, 1] [] rfl rfl (by kernel_rfl) (by kernel_rfl) (fun qK qa wr hB qO qF hK => ?_) ?_
          · obtain ⟨u73, e73, r0⟩ := qF.1
            have e73 : qa.tmps[73]? = some (.int .i64 (n : Nat)) := (show u73 = .int .i64 (n : Nat) from r0) ▸ e73
            clear r0
            obtain ⟨u74, e74, r1⟩ := qF.2.1
            have e74 : qa.tmps[74]? = some (.agg #[.slice A1 l1.length c1, .slice (some ⟨bB, oB, none⟩) l2.length c2, .int .i64 cur]) := (show u74 = .agg #[.slice A1 l1.length c1, .slice (some ⟨bB, oB, none⟩) l2.length c2, .int .i64 cur] from r1) ▸ e74
            clear r1
            clear qO qF
            go_simp
            go_at_call 9
            refine (HDO.out 25 n 0 _ (HW.out.trans (hB.mono HW.out.size))).mono ?_
            rintro e w2 ⟨rfl, hb2⟩
            rw [H25.out]
            exact hK _ _ hb2 rfl
          refine BOk.cons rfl [] [] rfl rfl (by kernel_rfl) (by kernel_rfl) (fun qK qa wr hB qO qF hK => ?_) ?_
          · clear qO qF
            go_simp
            exact hK _ _ (Below.refl _ _) rfl
          refine BOk.cons rfl [2, 3] [] rfl rfl (by kernel_rfl) (by kernel_rfl) (fun qK qa wr hB qO qF hK => ?_) ?_
          · obtain ⟨u75, e75, r2⟩ := qF.1
            have e75 : qa.tmps[75]? = some (.agg #[.int .i64 1, .int .u64 0]) := (show u75 = .agg #[.int .i64 1, .int .u64 0] from r2) ▸ e75
            clear r2
            obtain ⟨u76, e76, r3⟩ := qF.2.1
            have e76 : qa.tmps[76]? = some (.agg #[.int .i64 1, .int .u64 0]) := (show u76 = .agg #[.int .i64 1, .int .u64 0] from r3) ▸ e76
            clear r3
            clear qO qF
            go_simp
            refine hK _ _ (Below.refl _ _) ?_
            show (_ : Value) = _
            first | rfl | (simp; done) | (simp; omega)
          refine BOk.cons rfl [4] [] rfl rfl (by kernel_rfl) (by kernel_rfl) (fun qK qa wr hB qO qF hK => ?_) ?_
          · obtain ⟨u77, e77, r4⟩ := qF.1
            have e77 : qa.tmps[77]? = some (.bool true) := (show u77 = .bool true from r4) ▸ e77
            clear r4
            clear qO qF
            go_simp
            exact hK _ _ (Below.refl _ _) rfl
          refine BOk.yes rfl [] [11] rfl 5 true rfl rfl rfl (by kernel_rfl) (by kernel_rfl) (by kernel_rfl) (fun qK qa wr hB qO qF hK => ?_) ?_
          · have e11 : qa.tmps[11]? = some (.pointer (some ⟨wq.heap.size, 0, none⟩)) := qO.1.trans rfl
            clear qO qF
            have hn0 := (bcell hB _ _ (World.block_lt_of_cell? _ _ n0)).trans n0
            have hn1 := (bcell hB _ _ (World.block_lt_of_cell? _ _ n1)).trans n1
            have hn2 := (bcell hB _ _ (World.block_lt_of_cell? _ _ n2)).trans n2
            have hn3 := (bcell hB _ _ (World.block_lt_of_cell? _ _ n3)).trans n3
            have hn4 := (bcell hB _ _ (World.block_lt_of_cell? _ _ n4)).trans n4
            have hn5 := (bcell hB _ _ (World.block_lt_of_cell? _ _ n5)).trans n5
            have hn6 := (bcell hB _ _ (World.block_lt_of_cell? _ _ n6)).trans n6
            go_simp
            exact hK _ _ (Below.refl _ _) rfl
          refine BOk.yes rfl [6] [] rfl 5 true rfl rfl rfl (by kernel_rfl) (by kernel_rfl) (by kernel_rfl) (fun qK qa wr hB qO qF hK => ?_) ?_
          · obtain ⟨u79, e79, r6⟩ := qF.1
            have e79 : qa.tmps[79]? = some (.agg #[.int .i64 42, .int .i64 0, .slice none 0 0, .int .i64 0, .int .u64 0, .int .i64 (n : Nat), .int .i64 y]) := (show u79 = .agg #[.int .i64 42, .int .i64 0, .slice none 0 0, .int .i64 0, .int .u64 0, .int .i64 (n : Nat), .int .i64 y] from r6) ▸ e79
            clear r6
            clear qO qF
            refine wp_bs_node (.tmp 79) rfl (act_eval e79) ?_
            exact hK _ _ ((Below.refl _ _).alloc (Nat.le_refl _) _) ⟨_, rfl, Bk.new _ _ _⟩
          refine BOk.yes rfl [] [9] rfl 5 true rfl rfl rfl (by kernel_rfl) (by kernel_rfl) (by kernel_rfl) (fun qK qa wr hB qO qF hK => ?_) ?_
          · have e9 : qa.tmps[9]? = some (.pointer (some ⟨w1.heap.size, 0, none⟩)) := qO.1.trans rfl
            clear qO qF
            have hk0 := (bcell hB _ _ (World.block_lt_of_cell? _ _ k0)).trans k0
            have hk1 := (bcell hB _ _ (World.block_lt_of_cell? _ _ k1)).trans k1
            have hk2 := (bcell hB _ _ (World.block_lt_of_cell? _ _ k2)).trans k2
            go_simp
            exact hK _ _ (Below.refl _ _) rfl
          refine BOk.yes rfl [7, 8] [] rfl 5 true rfl rfl rfl (by kernel_rfl) (by kernel_rfl) (by kernel_rfl) (fun qK qa wr hB qO qF hK => ?_) ?_
          · obtain ⟨u80, e80, r7⟩ := qF.1
            obtain ⟨g80, h80, k80⟩ := (show ∃ g, u80 = .slice (some ⟨g, 0, none⟩) 1 1 ∧ Bk wr g 41 #[.int .i64 42, .int .i64 0, .slice none 0 0, .int .i64 0, .int .u64 0, .int .i64 (n : Nat), .int .i64 y] from r7)
            subst h80
            have e80 : qa.tmps[80]? = some (.slice (some ⟨g80, 0, none⟩) 1 1) := e80
            obtain ⟨u81, e81, r8⟩ := qF.2.1
            have e81 : qa.tmps[81]? = some (.agg #[.slice A1 l1.length c1, .slice (some ⟨bB, oB, none⟩) l2.length c2, .int .i64 cur]) := (show u81 = .agg #[.slice A1 l1.length c1, .slice (some ⟨bB, oB, none⟩) l2.length c2, .int .i64 cur] from r8) ▸ e81
            clear r8
            clear qO qF
            go_simp
            go_at_call 15
            refine (pall_any ⟨A1, c1, l1, some ⟨bB, oB, none⟩, c2, l2, cur⟩ 1 [.mk 42 0 none 0 [] 0 0 n y] (some ⟨g80, 0, none⟩) 1 _ (bk_rd k80) (by simp) (by intro q hq; simp only [List.mem_cons, List.not_mem_nil, or_false] at hq; subst hq; exact ok_leaf _ _ _ _ _) (HOK.out.old (HW.out.trans (hB.mono HW.out.size)))).mono ?_
            rintro e w2 ⟨rfl, hb2⟩
            rw [all_gone HH.out]
            exact hK _ _ hb2 rfl
          refine BOk.yes rfl [9] [] rfl 5 true rfl rfl rfl (by kernel_rfl) (by kernel_rfl) (by kernel_rfl) (fun qK qa wr hB qO qF hK => ?_) ?_
          · obtain ⟨u82, e82, r9⟩ := qF.1
            have e82 : qa.tmps[82]? = some (.bool false) := (show u82 = .bool false from r9) ▸ e82
            clear r9
            clear qO qF
            go_simp
            exact hK _ _ (Below.refl _ _) rfl
          refine BOk.cons rfl [5, 10] [] rfl rfl (by kernel_rfl) (by kernel_rfl) (fun qK qa wr hB qO qF hK => ?_) ?_
          · obtain ⟨u78, e78, r5⟩ := qF.1
            have e78 : qa.tmps[78]? = some (.bool true) := (show u78 = .bool true from r5) ▸ e78
            clear r5
            obtain ⟨u83, e83, r10⟩ := qF.2.1
            have e83 : qa.tmps[83]? = some (.bool true) := (show u83 = .bool true from r10) ▸ e83
            clear r10
            clear qO qF
            go_simp
            refine hK _ _ (Below.refl _ _) ?_
            show (_ : Value) = _
            first | rfl | (simp; done) | (simp; omega)
          refine BOk.cons rfl [11] [] rfl rfl (by kernel_rfl) (by kernel_rfl) (fun qK qa wr hB qO qF hK => ?_) ?_
          · obtain ⟨u84, e84, r11⟩ := qF.1
            have e84 : qa.tmps[84]? = some (.bool true) := (show u84 = .bool true from r11) ▸ e84
            clear r11
            clear qO qF
            go_simp
            exact hK _ _ (Below.refl _ _) rfl
          refine BOk.yes rfl [] [11] rfl 12 true rfl rfl rfl (by kernel_rfl) (by kernel_rfl) (by kernel_rfl) (fun qK qa wr hB qO qF hK => ?_) ?_
          · have e11 : qa.tmps[11]? = some (.pointer (some ⟨wq.heap.size, 0, none⟩)) := qO.1.trans rfl
            clear qO qF
            have hn0 := (bcell hB _ _ (World.block_lt_of_cell? _ _ n0)).trans n0
            have hn1 := (bcell hB _ _ (World.block_lt_of_cell? _ _ n1)).trans n1
            have hn2 := (bcell hB _ _ (World.block_lt_of_cell? _ _ n2)).trans n2
            have hn3 := (bcell hB _ _ (World.block_lt_of_cell? _ _ n3)).trans n3
            have hn4 := (bcell hB _ _ (World.block_lt_of_cell? _ _ n4)).trans n4
            have hn5 := (bcell hB _ _ (World.block_lt_of_cell? _ _ n5)).trans n5
            have hn6 := (bcell hB _ _ (World.block_lt_of_cell? _ _ n6)).trans n6
            go_simp
            exact hK _ _ (Below.refl _ _) rfl
          refine BOk.yes rfl [13] [] rfl 12 true rfl rfl rfl (by kernel_rfl) (by kernel_rfl) (by kernel_rfl) (fun qK qa wr hB qO qF hK => ?_) ?_
          · obtain ⟨u86, e86, r13⟩ := qF.1
            have e86 : qa.tmps[86]? = some (.agg #[.int .i64 42, .int .i64 0, .slice none 0 0, .int .i64 0, .int .u64 0, .int .i64 (n : Nat), .int .i64 y]) := (show u86 = .agg #[.int .i64 42, .int .i64 0, .slice none 0 0, .int .i64 0, .int .u64 0, .int .i64 (n : Nat), .int .i64 y] from r13) ▸ e86
            clear r13
            clear qO qF
            refine wp_bs_node (.tmp 86) rfl (act_eval e86) ?_
            exact hK _ _ ((Below.refl _ _).alloc (Nat.le_refl _) _) ⟨_, rfl, Bk.new _ _ _⟩
          refine BOk.yes rfl [14] [] rfl 12 true rfl rfl rfl (by kernel_rfl) (by kernel_rfl) (by kernel_rfl) (fun qK qa wr hB qO qF hK => ?_) ?_
          · obtain ⟨u87, e87, r14⟩ := qF.1
            obtain ⟨g87, h87, k87⟩ := (show ∃ g, u87 = .slice (some ⟨g, 0, none⟩) 1 1 ∧ Bk wr g 41 #[.int .i64 42, .int .i64 0, .slice none 0 0, .int .i64 0, .int .u64 0, .int .i64 (n : Nat), .int .i64 y] from r14)
            subst h87
            have e87 : qa.tmps[87]? = some (.slice (some ⟨g87, 0, none⟩) 1 1) := e87
            clear qO qF
            go_simp
            exact hK _ _ (Below.refl _ _) ⟨_, rfl, k87⟩
          refine BOk.yes rfl [15] [] rfl 12 true rfl rfl rfl (by kernel_rfl) (by kernel_rfl) (by kernel_rfl) (fun qK qa wr hB qO qF hK => ?_) ?_
          · obtain ⟨u88, e88, r15⟩ := qF.1
            obtain ⟨g88, h88, k88⟩ := (show ∃ g, u88 = .agg #[.int .i64 15, .int .i64 0, .slice (some ⟨g, 0, none⟩) 1 1, .int .i64 0, .int .u64 0, .int .i64 0, .int .i64 0] ∧ Bk wr g 41 #[.int .i64 42, .int .i64 0, .slice none 0 0, .int .i64 0, .int .u64 0, .int .i64 (n : Nat), .int .i64 y] from r15)
            subst h88
            have e88 : qa.tmps[88]? = some (.agg #[.int .i64 15, .int .i64 0, .slice (some ⟨g88, 0, none⟩) 1 1, .int .i64 0, .int .u64 0, .int .i64 0, .int .i64 0]) := e88
            clear qO qF
            refine wp_bs_node (.tmp 88) rfl (act_eval e88) ?_
            exact hK _ _ ((Below.refl _ _).alloc (Nat.le_refl _) _) ⟨_, _, rfl, k88.alloc _, Bk.new _ _ _⟩
          refine BOk.yes rfl [] [9] rfl 12 true rfl rfl rfl (by kernel_rfl) (by kernel_rfl) (by kernel_rfl) (fun qK qa wr hB qO qF hK => ?_) ?_
          · have e9 : qa.tmps[9]? = some (.pointer (some ⟨w1.heap.size, 0, none⟩)) := qO.1.trans rfl
            clear qO qF
            have hk0 := (bcell hB _ _ (World.block_lt_of_cell? _ _ k0)).trans k0
            have hk1 := (bcell hB _ _ (World.block_lt_of_cell? _ _ k1)).trans k1
            have hk2 := (bcell hB _ _ (World.block_lt_of_cell? _ _ k2)).trans k2
            go_simp
            exact hK _ _ (Below.refl _ _) rfl
          refine BOk.yes rfl [16, 17] [] rfl 12 true rfl rfl rfl (by kernel_rfl) (by kernel_rfl) (by kernel_rfl) (fun qK qa wr hB qO qF hK => ?_) ?_
          · obtain ⟨u89, e89, r16⟩ := qF.1
            obtain ⟨g89, i89, h89, k89, m89⟩ := (show ∃ g g2, u89 = .slice (some ⟨g2, 0, none⟩) 1 1 ∧ Bk wr g 41 #[.int .i64 42, .int .i64 0, .slice none 0 0, .int .i64 0, .int .u64 0, .int .i64 (n : Nat), .int .i64 y] ∧ Bk wr g2 41 #[.int .i64 15, .int .i64 0, .slice (some ⟨g, 0, none⟩) 1 1, .int .i64 0, .int .u64 0, .int .i64 0, .int .i64 0] from r16)
            subst h89
            have e89 : qa.tmps[89]? = some (.slice (some ⟨i89, 0, none⟩) 1 1) := e89
            obtain ⟨u90, e90, r17⟩ := qF.2.1
            have e90 : qa.tmps[90]? = some (.agg #[.slice A1 l1.length c1, .slice (some ⟨bB, oB, none⟩) l2.length c2, .int .i64 cur]) := (show u90 = .agg #[.slice A1 l1.length c1, .slice (some ⟨bB, oB, none⟩) l2.length c2, .int .i64 cur] from r17) ▸ e90
            clear r17
            clear qO qF
            go_simp
            go_at_call 15
            refine (pall_any ⟨A1, c1, l1, some ⟨bB, oB, none⟩, c2, l2, cur⟩ 2 [.mk 15 0 (some ⟨g89, 0, none⟩) 1 [.mk 42 0 none 0 [] 0 0 n y] 0 0 0 0] (some ⟨i89, 0, none⟩) 1 _ (bk_rd m89) (by simp) (by intro q hq; simp only [List.mem_cons, List.not_mem_nil, or_false] at hq; subst hq; exact ⟨bk_rd k89, by simp, by decide, (by intro q hq; simp only [List.mem_cons, List.not_mem_nil, or_false] at hq; subst hq; exact ok_leaf _ _ _ _ _)⟩) (HOK.out.old (HW.out.trans (hB.mono HW.out.size)))).mono ?_
            rintro e w2 ⟨rfl, hb2⟩
            rw [all_not HH.out]
            exact hK _ _ hb2 rfl
          refine BOk.yes rfl [18] [] rfl 12 true rfl rfl rfl (by kernel_rfl) (by kernel_rfl) (by kernel_rfl) (fun qK qa wr hB qO qF hK => ?_) ?_
          · obtain ⟨u91, e91, r18⟩ := qF.1
            have e91 : qa.tmps[91]? = some (.bool false) := (show u91 = .bool false from r18) ▸ e91
            clear r18
            clear qO qF
            go_simp
            exact hK _ _ (Below.refl _ _) rfl
          refine BOk.cons rfl [12, 19] [] rfl rfl (by kernel_rfl) (by kernel_rfl) (fun qK qa wr hB qO qF hK => ?_) ?_
          · obtain ⟨u85, e85, r12⟩ := qF.1
            have e85 : qa.tmps[85]? = some (.bool true) := (show u85 = .bool true from r12) ▸ e85
            clear r12
            obtain ⟨u92, e92, r19⟩ := qF.2.1
            have e92 : qa.tmps[92]? = some (.bool true) := (show u92 = .bool true from r19) ▸ e92
            clear r19
            clear qO qF
            go_simp
            refine hK _ _ (Below.refl _ _) ?_
            show (_ : Value) = _
            first | rfl | (simp; done) | (simp; omega)
          refine BOk.cons rfl [20] [] rfl rfl (by kernel_rfl) (by kernel_rfl) (fun qK qa wr hB qO qF hK => ?_) ?_
          · obtain ⟨u93, e93, r20⟩ := qF.1
            have e93 : qa.tmps[93]? = some (.bool true) := (show u93 = .bool true from r20) ▸ e93
            clear r20
            clear qO qF
            go_simp
            exact hK _ _ (Below.refl _ _) rfl
          exact BOk.nil
        intro vals wr hl hB hR
        match vals, hl with
        | [z73, z74, z75, z76, z77, z78, z79, z80, z81, z82, z83, z84, z85, z86, z87, z88, z89, z90, z91, z92, z93, z6], _ =>
        have r21 : z6 = .bool true := hR 21 _ rfl
        subst r21
        clear hR
        simp only [List.cons_append, List.nil_append, putAll, Act.put, List.setIfInBounds_toArray, List.set_cons_zero, List.set_cons_succ]
        go_wp2_with fail
        go_ret
        exact ⟨rfl, HW.out.trans (hB.mono HW.out.size)⟩
  have h9l : 0 < l9.length := List.length_pos_iff.2 h9
  clear hhl h9 HOK HDO
  go_wp2_with fail
  go_ret
  exact ⟨rfl, hbel⟩

theorem own : ownKnob Try.prog.godebug = none := by kernel_rfl
theorem laidOut : laidOutB Try.prog = true := by kernel_rfl
theorem rec0 : (Try.f7.params.toList.all fun t => Try.prog.readableRec t && decide (t < Try.prog.types.size)) = true := by kernel_rfl
set_option maxRecDepth 100000 in
theorem lifted (os : Os) (started : os.Started) (H : Type) (enc : TypeId × Value → H) (F : Stop.Interp) :
    ReturnsInHanded {} Try.checked os 7 .any ((Rows.OpenSpec.upto Rows.evalPoisonSpec).pre6 enc Try.prog Try.f7 Rows.evalPoisonUptoRow.domain false) (((Rows.OpenSpec.upto Rows.evalPoisonSpec).at F).post enc Try.prog Try.f7 false true false false) := by
  refine law_stepB (C := Try.checked) (s := Rows.evalPoisonSpec) (tb := 4) own started (by kernel_rfl) Try.func7
    (OpenSpec.witness (enc := enc) (C := Try.checked) (s := Rows.OpenSpec.upto Rows.evalPoisonSpec) (k := Rows.uptoSmall) rfl false ⟨#[], #[.slice none 0 0, .agg #[.slice none 0 0, .int .i64 0], .agg #[.int .i64 0, .int .i64 0]], []⟩ 8 (by kernel_rfl) (by kernel_rfl) (by kernel_rfl)
      (x := ([.nil, .agg [.nil, .lit (.int .i64 0)], .agg [.lit (.int .i64 0), .lit (.int .i64 0)]], [], [])) (by kernel_rfl) rfl (by kernel_rfl)) laidOut ?_ rfl Try.underlying4 rfl ?_ ?_
  · intro t ht
    have := List.all_eq_true.1 rec0 t ht
    simp only [Bool.and_eq_true, decide_eq_true_eq] at this
    exact this
  · intro ds hd
    match ds, hd with
    | [d0, d1, d2], _ => exact ⟨rfl, rfl, rfl⟩
  intro W base args ds p hval hA hsz hbk
  rw [Try.params7] at hA hval hsz
  obtain ⟨v0, vs0, d0, ds0, p0, q0, hargs, rfl, rfl, h0, r0⟩ := trodAll_cons hA
  obtain ⟨v1, vs1, d1, ds1, p1, q1, rfl, rfl, rfl, h1, r1⟩ := trodAll_cons r0
  obtain ⟨v2, vs2, d2, ds2, p2, q2, rfl, rfl, rfl, h2, r2⟩ := trodAll_cons r1
  obtain ⟨rfl, rfl, rfl⟩ := trodAll_nil r2
  obtain rfl : args = #[v0, v1, v2] := by cases args; simp_all
  obtain ⟨A0, c0, l0, rfl, hc0, hl0, hr0, hq0⟩ := openB_events (hval 0 22 v0 rfl rfl) h0 (weights_each (i := 0) hsz rfl rfl) (Nat.le_trans (bulk_part (by simp)) hbk)
  obtain ⟨A1, c1, l1, cur1, rfl, hl1, hr1, hq1⟩ := openB_place (hval 1 43 v1 rfl rfl) h1 (weights_each (i := 1) hsz rfl rfl) (Nat.le_trans (bulk_part (by simp)) hbk)
  obtain ⟨x2, y2, rfl⟩ := openB_pair (hval 2 24 v2 rfl rfl) h2 (weights_each (i := 2) hsz rfl rfl) (Nat.le_trans (bulk_part (by simp)) hbk)
  exact walk W A0 c0 l0 hc0 hl0 hr0 hq0 A1 c1 l1 cur1 hl1 hr1 hq1 x2 y2

theorem evalPoison_holds : Rows.EvalPoisonUptoSaid :=
  OpenClaim.holds_of_cond 7 Try.f7 rfl rfl rfl rfl rfl rfl rfl ⟨rfl, rfl, rfl, rfl, rfl⟩ rfl rfl rfl rfl rfl (by kernel_rfl) Try.func7 (by kernel_rfl)
    (of_decide_eq_true (by kernel_rfl)) (by unfold Func.isWrapper; first | (rw [if_pos (by decide +kernel)]; kernel_rfl) | (rw [if_neg (by decide +kernel)]; exact ⟨rfl, rfl⟩))
    (fun os started H enc _ F => lifted os started H enc F)
#print axioms evalPoison_holds
end Go.Proofs.Ytomhheihhnmbcaa.evalPoison
