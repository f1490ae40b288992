/- FoldDone holds of what is of bounded bulk. No conditions. -/
import Derived.Test.YtkfpmoilfillmaaFoRd
import Derived.Test.YtkfpmoilfillmaaFoK
import Derived.Test.YtkfpmoilfillmaaFoM
import Derived.Deep.DeepCutAuto
namespace Go.Proofs.Ytkfpmoilfillmaa.foldDone
open Go.ChangeShapes Go.WideShapes Go.ChangeAt Go.RowKit
open Go.ChangeMaps (open_string shut_string)
set_option linter.unusedSimpArgs false
set_option linter.unusedVariables false

def foD4 (A : Option Addr) (c : Nat) (args : List NodeV) (op kind vk pos a vk3 : Int) (vb vb3 : Nat) (W0 w1 : World) : List Spec := [.is (.bool true),
  .is (.bool true),
  .is (.pointer (some ⟨w1.heap.size, 0, none⟩)),
  .is (.int .i64 40),
  .is (.bool true),
  .is (.bool true),
  .is (.bool true),
  .is (.pointer (some ⟨w1.heap.size, 3, none⟩)),
  .is (.agg #[.int .i64 vk3, .int .u64 vb3]),
  .is (.agg #[.int .i64 op, .int .i64 kind, .slice A args.length c, .int .i64 vk, .int .u64 vb, .int .i64 pos, .int .i64 a]),
  .is (.agg #[.int .i64 vk3, .int .u64 vb3]),
  .is (.bool true),
  .is (.bool true),
  .is (.bool true)]

set_option maxRecDepth 100000 in
set_option maxHeartbeats 4000000 in
theorem walk (W0 : World) (D : Nat) (n : NodeV) (hn : okN D n W0 W0.heap.size) :
    Calls Try.prog 4 #[n.val] W0 fun e W' => e = .returned (.bool true) ∧ Below W0.heap.size W0 W' := by
  obtain ⟨op, kind, A, c, args, vk, vb, pos, a⟩ := n
  have hb1 : Below W0.heap.size W0 (W0.alloc (.cells #[.int .i64 op, .int .i64 kind, .slice A args.length c, .int .i64 vk, .int .u64 vb, .int .i64 pos, .int .i64 a] 27)) := (Below.refl _ _).alloc (Nat.le_refl _) _
  have kn0 := Bk.new W0 27 #[.int .i64 op, .int .i64 kind, .slice A args.length c, .int .i64 vk, .int .u64 vb, .int .i64 pos, .int .i64 a]
  have ka := Lib.hid kn0.at7
  have hcl := closed_any D (.mk op kind A c args vk vb pos a) (W0.alloc (.cells #[.int .i64 op, .int .i64 kind, .slice A args.length c, .int .i64 vk, .int .u64 vb, .int .i64 pos, .int .i64 a] 27)) (hn.old hb1)
  obtain ⟨p, hp⟩ : ∃ p, closedN D (.mk op kind A c args vk vb pos a) = p := ⟨_, rfl⟩
  rw [hp] at hcl
  have HCL := Lib.hid hcl
  have HN := Lib.hid hn
  clear hcl hn
  show Calls Try.prog 4 #[.agg #[.int .i64 op, .int .i64 kind, .slice A args.length c, .int .i64 vk, .int .u64 vb, .int .i64 pos, .int .i64 a]] W0 _
  cases p
  · as_aux_lemma =>
    go_enter Try.func4, Try.ntmps4
    go_wp2_with (first | (refine wpList_load7 rfl _ rfl rfl ka.out ?_))
    refine HCL.out.mono ?_
    rintro e w1 ⟨rfl, hb2⟩
    have hbel := hb1.trans (hb2.mono hb1.size)
    clear HCL ka hb2 hb1 kn0 HN
    go_wp2_with fail
    refine (awake_any _).mono ?_
    rintro e w2 ⟨rfl, hb3⟩
    have hbe := hbel.trans (hb3.mono hbel.size)
    clear hb3 hbel
    go_wp2_with fail
    go_ret
    exact ⟨rfl, hbe⟩
  · as_aux_lemma =>
    go_enter Try.func4, Try.ntmps4
    go_wp2_with (first | (refine wpList_load7 rfl _ rfl rfl ka.out ?_))
    refine HCL.out.mono ?_
    rintro e wa ⟨rfl, hb2⟩
    have hbel := hb1.trans (hb2.mono hb1.size)
    have kn := kn0.old hb2
    have ka2 := Lib.hid kn.at7
    have hfo := fold_okN D (.mk op kind A c args vk vb pos a) wa (HN.out.old hbel)
    have HFO := Lib.hid hfo
    clear HCL ka hb2 hb1 kn0 hfo
    go_wp2_with (first | (refine wpList_load7 rfl _ rfl rfl ka2.out ?_))
    refine HFO.out.mono ?_
    rintro e w1 ⟨⟨op3, kind3, A3, c3, args3, vk3, vb3, pos3, a3⟩, rfl, htree, hok3, hb2⟩
    have hcf := closed_fold HN.out hp
    rw [← htree] at hcf
    have h40 : op3 = 40 := by
      have := (isKT_tree hok3).symm.trans hcf.1
      exact of_decide_eq_true this
    have hval : (⟨vk3, vb3⟩ : V) = valC D (.mk op kind A c args vk vb pos a) := (valKT_tree hok3).symm.trans hcf.2
    subst h40
    have hbel1 := hbel.trans (hb2.mono hbel.size)
    replace kn := kn.old hb2
    have hrn : ∀ w', Below w1.heap.size w1 w' → Calls Try.prog 11 #[.agg #[.int .i64 op, .int .i64 kind, .slice A args.length c, .int .i64 vk, .int .u64 vb, .int .i64 pos, .int .i64 a], .slice none 0 0, .slice none 0 0, .int .i64 (-1)] w' fun e w2 => e = .returned (.agg #[.int .i64 vk3, .int .u64 vb3]) ∧ Below w'.heap.size w' w2 := fun w' hw => by
      have := rnode0_any D (.mk op kind A c args vk vb pos a) w' (HN.out.old (hbel1.trans (hw.mono hbel1.size))) hp
      rw [← hval] at this
      exact this
    have HRN := Lib.hid hrn
    have heq : ∀ w : World, (binOp .eql 33 (.agg #[.int .i64 vk3, .int .u64 vb3]) (.agg #[.int .i64 vk3, .int .u64 vb3])).run Try.prog w = .ok (.bool true) w := by
      intro w
      rw [eql_W]
      simp
    have kx := Bk.new w1 27 #[.int .i64 40, .int .i64 kind3, .slice A3 args3.length c3, .int .i64 vk3, .int .u64 vb3, .int .i64 pos3, .int .i64 a3]
    have kn1 := kn.alloc (.cells #[.int .i64 40, .int .i64 kind3, .slice A3 args3.length c3, .int .i64 vk3, .int .u64 vb3, .int .i64 pos3, .int .i64 a3] 27)
    have n0 : (w1.alloc (.cells #[.int .i64 40, .int .i64 kind3, .slice A3 args3.length c3, .int .i64 vk3, .int .u64 vb3, .int .i64 pos3, .int .i64 a3] 27)).cell? ⟨W0.heap.size, 0, none⟩ = some (.int .i64 op) := kn1.cell 0
    have n1 : (w1.alloc (.cells #[.int .i64 40, .int .i64 kind3, .slice A3 args3.length c3, .int .i64 vk3, .int .u64 vb3, .int .i64 pos3, .int .i64 a3] 27)).cell? ⟨W0.heap.size, 1, none⟩ = some (.int .i64 kind) := kn1.cell 1
    have n2 : (w1.alloc (.cells #[.int .i64 40, .int .i64 kind3, .slice A3 args3.length c3, .int .i64 vk3, .int .u64 vb3, .int .i64 pos3, .int .i64 a3] 27)).cell? ⟨W0.heap.size, 2, none⟩ = some (.slice A args.length c) := kn1.cell 2
    have n3 : (w1.alloc (.cells #[.int .i64 40, .int .i64 kind3, .slice A3 args3.length c3, .int .i64 vk3, .int .u64 vb3, .int .i64 pos3, .int .i64 a3] 27)).cell? ⟨W0.heap.size, 3, none⟩ = some (.int .i64 vk) := kn1.cell 3
    have n4 : (w1.alloc (.cells #[.int .i64 40, .int .i64 kind3, .slice A3 args3.length c3, .int .i64 vk3, .int .u64 vb3, .int .i64 pos3, .int .i64 a3] 27)).cell? ⟨W0.heap.size, 4, none⟩ = some (.int .u64 vb) := kn1.cell 4
    have n5 : (w1.alloc (.cells #[.int .i64 40, .int .i64 kind3, .slice A3 args3.length c3, .int .i64 vk3, .int .u64 vb3, .int .i64 pos3, .int .i64 a3] 27)).cell? ⟨W0.heap.size, 5, none⟩ = some (.int .i64 pos) := kn1.cell 5
    have n6 : (w1.alloc (.cells #[.int .i64 40, .int .i64 kind3, .slice A3 args3.length c3, .int .i64 vk3, .int .u64 vb3, .int .i64 pos3, .int .i64 a3] 27)).cell? ⟨W0.heap.size, 6, none⟩ = some (.int .i64 a) := kn1.cell 6
    have x0 : (w1.alloc (.cells #[.int .i64 40, .int .i64 kind3, .slice A3 args3.length c3, .int .i64 vk3, .int .u64 vb3, .int .i64 pos3, .int .i64 a3] 27)).cell? ⟨w1.heap.size, 0, none⟩ = some (.int .i64 40) := kx.cell 0
    have x1 : (w1.alloc (.cells #[.int .i64 40, .int .i64 kind3, .slice A3 args3.length c3, .int .i64 vk3, .int .u64 vb3, .int .i64 pos3, .int .i64 a3] 27)).cell? ⟨w1.heap.size, 1, none⟩ = some (.int .i64 kind3) := kx.cell 1
    have x2 : (w1.alloc (.cells #[.int .i64 40, .int .i64 kind3, .slice A3 args3.length c3, .int .i64 vk3, .int .u64 vb3, .int .i64 pos3, .int .i64 a3] 27)).cell? ⟨w1.heap.size, 2, none⟩ = some (.slice A3 args3.length c3) := kx.cell 2
    have x3 : (w1.alloc (.cells #[.int .i64 40, .int .i64 kind3, .slice A3 args3.length c3, .int .i64 vk3, .int .u64 vb3, .int .i64 pos3, .int .i64 a3] 27)).cell? ⟨w1.heap.size, 3, none⟩ = some (.int .i64 vk3) := kx.cell 3
    have x4 : (w1.alloc (.cells #[.int .i64 40, .int .i64 kind3, .slice A3 args3.length c3, .int .i64 vk3, .int .u64 vb3, .int .i64 pos3, .int .i64 a3] 27)).cell? ⟨w1.heap.size, 4, none⟩ = some (.int .u64 vb3) := kx.cell 4
    have x5 : (w1.alloc (.cells #[.int .i64 40, .int .i64 kind3, .slice A3 args3.length c3, .int .i64 vk3, .int .u64 vb3, .int .i64 pos3, .int .i64 a3] 27)).cell? ⟨w1.heap.size, 5, none⟩ = some (.int .i64 pos3) := kx.cell 5
    have x6 : (w1.alloc (.cells #[.int .i64 40, .int .i64 kind3, .slice A3 args3.length c3, .int .i64 vk3, .int .u64 vb3, .int .i64 pos3, .int .i64 a3] 27)).cell? ⟨w1.heap.size, 6, none⟩ = some (.int .i64 a3) := kx.cell 6
    have HW : Hid (Below w1.heap.size w1 (w1.alloc (.cells #[.int .i64 40, .int .i64 kind3, .slice A3 args3.length c3, .int .i64 vk3, .int .u64 vb3, .int .i64 pos3, .int .i64 a3] 27))) := Lib.hid ((Below.refl _ _).alloc (Nat.le_refl _) _)
    clear HFO htree hok3 hcf hval hrn hp HN hbel hb2 kn kx kn1 ka2
    simp only [NodeV.val, NodeV.cells]
    go_upto_region 4 with fail
    refine wp_region_b (by kernel_rfl) (fun qk => (foD4 A c args op kind vk pos a vk3 vb vb3 W0 w1).getD qk .any) (by kernel_rfl) ?_ ?_
    · refine BOk.cons rfl [] [] rfl rfl (by kernel_rfl) (by kernel_rfl) (fun qK qa wr hB qO qF hK => ?_) ?_
      · clear qO qF
        go_simp
        go_at_call 6
        refine (awake_any _).mono ?_
        rintro e w2 ⟨rfl, hb2⟩
        exact hK _ _ hb2 rfl
      refine BOk.cons rfl [0] [] rfl rfl (by kernel_rfl) (by kernel_rfl) (fun qK qa wr hB qO qF hK => ?_) ?_
      · have e10 : qa.tmps[10]? = some (.bool true) := fis qF.1 rfl rfl
        clear qO qF
        go_simp
        exact hK _ _ (Below.refl _ _) (by first | rfl | (show (_ : Value) = _; simp_all; done))
      refine BOk.yes rfl [] [3] rfl 1 true rfl rfl rfl (by kernel_rfl) (by kernel_rfl) (by kernel_rfl) (fun qK qa wr hB qO qF hK => ?_) ?_
      · have e3 : qa.tmps[3]? = some (.pointer (some ⟨w1.heap.size, 0, none⟩)) := qO.1.trans rfl
        clear qO qF
        go_simp
        exact hK _ _ (Below.refl _ _) rfl
      refine BOk.yes rfl [2] [] rfl 1 true rfl rfl rfl (by kernel_rfl) (by kernel_rfl) (by kernel_rfl) (fun qK qa wr hB qO qF hK => ?_) ?_
      · have e12 : qa.tmps[12]? = some (.pointer (some ⟨w1.heap.size, 0, none⟩)) := fis qF.1 rfl rfl
        clear qO qF
        have hx0 := (bcell hB _ _ (World.block_lt_of_cell? _ _ x0)).trans x0
        go_simp
        exact hK _ _ (Below.refl _ _) rfl
      refine BOk.yes rfl [3] [] rfl 1 true rfl rfl rfl (by kernel_rfl) (by kernel_rfl) (by kernel_rfl) (fun qK qa wr hB qO qF hK => ?_) ?_
      · have e13 : qa.tmps[13]? = some (.int .i64 40) := fis qF.1 rfl rfl
        clear qO qF
        go_simp
        refine hK _ _ (Below.refl _ _) ?_
        show (_ : Value) = _
        first | rfl | (simp; done) | (simp; omega)
      refine BOk.cons rfl [1, 4] [] rfl rfl (by kernel_rfl) (by kernel_rfl) (fun qK qa wr hB qO qF hK => ?_) ?_
      · have e11 : qa.tmps[11]? = some (.bool true) := fis qF.1 rfl rfl
        have e14 : qa.tmps[14]? = some (.bool true) := fis qF.2.1 rfl rfl
        clear qO qF
        go_simp
        refine hK _ _ (Below.refl _ _) ?_
        show (_ : Value) = _
        first | rfl | (simp; done) | (simp; omega)
      refine BOk.cons rfl [5] [] rfl rfl (by kernel_rfl) (by kernel_rfl) (fun qK qa wr hB qO qF hK => ?_) ?_
      · have e15 : qa.tmps[15]? = some (.bool true) := fis qF.1 rfl rfl
        clear qO qF
        go_simp
        exact hK _ _ (Below.refl _ _) (by first | rfl | (show (_ : Value) = _; simp_all; done))
      refine BOk.yes rfl [] [3] rfl 6 true rfl rfl rfl (by kernel_rfl) (by kernel_rfl) (by kernel_rfl) (fun qK qa wr hB qO qF hK => ?_) ?_
      · have e3 : qa.tmps[3]? = some (.pointer (some ⟨w1.heap.size, 0, none⟩)) := qO.1.trans rfl
        clear qO qF
        go_simp
        exact hK _ _ (Below.refl _ _) rfl
      refine BOk.yes rfl [7] [] rfl 6 true rfl rfl rfl (by kernel_rfl) (by kernel_rfl) (by kernel_rfl) (fun qK qa wr hB qO qF hK => ?_) ?_
      · have e17 : qa.tmps[17]? = some (.pointer (some ⟨w1.heap.size, 3, none⟩)) := fis qF.1 rfl rfl
        clear qO qF
        have hx3 := (bcell hB _ _ (World.block_lt_of_cell? _ _ x3)).trans x3
        have hx4 := (bcell hB _ _ (World.block_lt_of_cell? _ _ x4)).trans x4
        go_simp
        exact hK _ _ (Below.refl _ _) rfl
      refine BOk.yes rfl [] [1] rfl 6 true rfl rfl rfl (by kernel_rfl) (by kernel_rfl) (by kernel_rfl) (fun qK qa wr hB qO qF hK => ?_) ?_
      · have e1 : qa.tmps[1]? = some (.pointer (some ⟨W0.heap.size, 0, none⟩)) := qO.1.trans rfl
        clear qO qF
        have hn0 := (bcell hB _ _ (World.block_lt_of_cell? _ _ n0)).trans n0
        have hn1 := (bcell hB _ _ (World.block_lt_of_cell? _ _ n1)).trans n1
        have hn2 := (bcell hB _ _ (World.block_lt_of_cell? _ _ n2)).trans n2
        have hn3 := (bcell hB _ _ (World.block_lt_of_cell? _ _ n3)).trans n3
        have hn4 := (bcell hB _ _ (World.block_lt_of_cell? _ _ n4)).trans n4
        have hn5 := (bcell hB _ _ (World.block_lt_of_cell? _ _ n5)).trans n5
        have hn6 := (bcell hB _ _ (World.block_lt_of_cell? _ _ n6)).trans n6
        go_simp
        exact hK _ _ (Below.refl _ _) rfl
      refine BOk.yes rfl [9] [] rfl 6 true rfl rfl rfl (by kernel_rfl) (by kernel_rfl) (by kernel_rfl) (fun qK qa wr hB qO qF hK => ?_) ?_
      · have e19 : qa.tmps[19]? = some (.agg #[.int .i64 op, .int .i64 kind, .slice A args.length c, .int .i64 vk, .int .u64 vb, .int .i64 pos, .int .i64 a]) := fis qF.1 rfl rfl
        clear qO qF
        go_simp
        go_at_call 11
        refine (HRN.out _ (HW.out.trans (hB.mono HW.out.size))).mono ?_
        rintro e w2 ⟨rfl, hb2⟩
        exact hK _ _ hb2 rfl
      refine BOk.yes rfl [8, 10] [] rfl 6 true rfl rfl rfl (by kernel_rfl) (by kernel_rfl) (by kernel_rfl) (fun qK qa wr hB qO qF hK => ?_) ?_
      · have e18 : qa.tmps[18]? = some (.agg #[.int .i64 vk3, .int .u64 vb3]) := fis qF.1 rfl rfl
        have e20 : qa.tmps[20]? = some (.agg #[.int .i64 vk3, .int .u64 vb3]) := fis qF.2.1 rfl rfl
        clear qO qF
        go_simp
        refine hK _ _ (Below.refl _ _) ?_
        show (_ : Value) = _
        first | rfl | (simp; done) | (simp; omega)
      refine BOk.cons rfl [6, 11] [] rfl rfl (by kernel_rfl) (by kernel_rfl) (fun qK qa wr hB qO qF hK => ?_) ?_
      · have e16 : qa.tmps[16]? = some (.bool true) := fis qF.1 rfl rfl
        have e21 : qa.tmps[21]? = some (.bool true) := fis qF.2.1 rfl rfl
        clear qO qF
        go_simp
        refine hK _ _ (Below.refl _ _) ?_
        show (_ : Value) = _
        first | rfl | (simp; done) | (simp; omega)
      refine BOk.cons rfl [12] [] rfl rfl (by kernel_rfl) (by kernel_rfl) (fun qK qa wr hB qO qF hK => ?_) ?_
      · have e22 : qa.tmps[22]? = some (.bool true) := fis qF.1 rfl rfl
        clear qO qF
        go_simp
        exact hK _ _ (Below.refl _ _) (by first | rfl | (show (_ : Value) = _; simp_all; done))
      exact BOk.nil
    intro vals wr hl hB hR
    match vals, hl with
    | [z10, z11, z12, z13, z14, z15, z16, z17, z18, z19, z20, z21, z22, z2], _ =>
    have r13 : z2 = .bool true := hR 13 _ rfl
    subst r13
    clear hR
    simp only [List.cons_append, List.nil_append, putAll, Act.put, List.setIfInBounds_toArray, List.set_cons_zero, List.set_cons_succ]
    have hbe := hbel1.trans ((HW.out.trans (hB.mono HW.out.size)).mono hbel1.size)
    clear hB HW HRN hbel1 n0 n1 n2 n3 n4 n5 n6 x0 x1 x2 x3 x4 x5 x6
    go_wp2_with fail
    go_ret
    exact ⟨rfl, hbe⟩

theorem own : ownKnob Try.prog.godebug = none := by kernel_rfl
theorem laidOut : laidOutB Try.prog = true := by kernel_rfl
theorem rec0 : (Try.f4.params.toList.all fun t => Try.prog.readableRec t && decide (t < Try.prog.types.size)) = true := by kernel_rfl
set_option maxRecDepth 100000 in
theorem lifted (os : Os) (started : os.Started) (H : Type) (enc : TypeId × Value → H) (F : Stop.Interp) :
    ReturnsInHanded {} Try.checked os 4 .any ((Rows.OpenSpec.upto Rows.foldDoneSpec).pre6 enc Try.prog Try.f4 Rows.foldDoneUptoRow.domain false) (((Rows.OpenSpec.upto Rows.foldDoneSpec).at F).post enc Try.prog Try.f4 false true false false) := by
  refine law_stepB (C := Try.checked) (s := Rows.foldDoneSpec) (tb := 4) own started (by kernel_rfl) Try.func4
    (OpenSpec.witness (enc := enc) (C := Try.checked) (s := Rows.OpenSpec.upto Rows.foldDoneSpec) (k := Rows.uptoSmall) rfl false ⟨#[], #[.agg #[.int .i64 0, .int .i64 0, .slice none 0 0, .int .i64 0, .int .u64 0, .int .i64 0, .int .i64 0]], []⟩ 8 (by kernel_rfl) (by kernel_rfl) (by kernel_rfl)
      (x := ([.agg [.lit (.int .i64 0), .lit (.int .i64 0), .nil, .agg [.lit (.int .i64 0), .lit (.int .u64 0)], .lit (.int .i64 0), .lit (.int .i64 0)]], [], [])) (by kernel_rfl) rfl (by kernel_rfl)) laidOut ?_ rfl Try.underlying4 rfl ?_ ?_
  · intro t ht
    have := List.all_eq_true.1 rec0 t ht
    simp only [Bool.and_eq_true, decide_eq_true_eq] at this
    exact this
  · intro ds hd
    match ds, hd with
    | [d0], _ => exact ⟨rfl, rfl, rfl⟩
  intro W base args ds p hval hA hsz hbk
  rw [Try.params4] at hA hval hsz
  obtain ⟨v0, vs0, d0, ds0, p0, q0, hargs, rfl, rfl, h0, r0⟩ := trodAll_cons hA
  obtain ⟨rfl, rfl, rfl⟩ := trodAll_nil r0
  obtain rfl : args = #[v0] := by cases args; simp_all
  obtain ⟨D0, n0, rfl, hq0⟩ := openB_node (hval 0 27 v0 rfl rfl) h0 (weights_each (i := 0) hsz rfl rfl) (Nat.le_trans (bulk_part (by simp)) hbk)
  exact walk W D0 n0 hq0

theorem foldDone_holds : Rows.FoldDoneUptoSaid :=
  OpenClaim.holds_of_cond 4 Try.f4 rfl rfl rfl rfl rfl rfl rfl ⟨rfl, rfl, rfl, rfl, rfl⟩ rfl rfl rfl rfl rfl (by kernel_rfl) Try.func4 (by kernel_rfl)
    (of_decide_eq_true (by kernel_rfl)) (by unfold Func.isWrapper; first | (rw [if_pos (by decide +kernel)]; kernel_rfl) | (rw [if_neg (by decide +kernel)]; exact ⟨rfl, rfl⟩))
    (fun os started H enc _ F => lifted os started H enc F)
#print axioms foldDone_holds
end Go.Proofs.Ytkfpmoilfillmaa.foldDone
