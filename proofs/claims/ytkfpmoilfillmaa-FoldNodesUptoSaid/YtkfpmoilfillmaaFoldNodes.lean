/- FoldNodes holds of what is of bounded bulk. No conditions. -/
import Derived.Test.YtkfpmoilfillmaaFoRd
import Derived.Test.YtkfpmoilfillmaaFoK
import Derived.Deep.DeepCutAuto
namespace Go.Proofs.Ytkfpmoilfillmaa.foldNodes
open Go.ChangeShapes Go.WideShapes Go.ChangeAt Go.RowKit
open Go.ChangeMaps (open_string shut_string)
set_option linter.unusedSimpArgs false
set_option linter.unusedVariables false

def foN2 (A A8 : Option Addr) (c c8 c9 b9 o9 : Nat) (args args8 : List NodeV) (op kind vk pos a : Int) (vb D : Nat) (TT : T) (W0 w1 : World) : List Spec := [.is (.bool true),
  .is (.bool true),
  .is (.slice (some ⟨b9, o9, none⟩) 1 c9),
  .is (.pointer (some ⟨b9, o9, none⟩)),
  .is (.agg #[.int .i64 op, .int .i64 kind, .slice A8 args8.length c8, .int .i64 vk, .int .u64 vb, .int .i64 pos, .int .i64 a]),
  .st (fun v w => NodeAt D (foldT D TT) v w) (fun _ _ _ hb h => NodeAt.old hb h),
  .is (.agg #[.int .i64 op, .int .i64 kind, .slice A args.length c, .int .i64 vk, .int .u64 vb, .int .i64 pos, .int .i64 a]),
  .st (fun v w => NodeAt D (foldT D TT) v w) (fun _ _ _ hb h => NodeAt.old hb h),
  .is (.bool true),
  .is (.bool true),
  .is (.bool true),
  .is (.slice (some ⟨b9, o9, none⟩) 1 c9),
  .is (.pointer (some ⟨b9, o9, none⟩)),
  .is (.agg #[.int .i64 op, .int .i64 kind, .slice A8 args8.length c8, .int .i64 vk, .int .u64 vb, .int .i64 pos, .int .i64 a]),
  .is (.agg #[.int .i64 op, .int .i64 kind, .slice A args.length c, .int .i64 vk, .int .u64 vb, .int .i64 pos, .int .i64 a]),
  .is (.bool true),
  .is (.bool true),
  .is (.bool true)]

theorem one_of {l : List NodeV} (h : l.length = 1) : ∃ n, l = [n] := by
  match l, h with
  | [n], _ => exact ⟨n, rfl⟩
set_option maxRecDepth 100000 in
set_option maxHeartbeats 4000000 in
theorem walk (W0 : World) (D : Nat) (n : NodeV) (hn : okN D n W0 W0.heap.size) :
    Calls Try.prog 3 #[n.val] W0 fun e W' => e = .returned (.bool true) ∧ Below W0.heap.size W0 W' := by
  obtain ⟨op, kind, A, c, args, vk, vb, pos, a⟩ := n
  have HN := Lib.hid hn
  have hb2 := bel2 W0 (.cells #[.int .i64 op, .int .i64 kind, .slice A args.length c, .int .i64 vk, .int .u64 vb, .int .i64 pos, .int .i64 a] 27) (.cells #[.int .i64 op, .int .i64 kind, .slice A args.length c, .int .i64 vk, .int .u64 vb, .int .i64 pos, .int .i64 a] 27)
  have htw := twin_any D [.mk op kind A c args vk vb pos a] (some ⟨W0.heap.size + 1, 0, none⟩) 1 ((W0.alloc (.cells #[.int .i64 op, .int .i64 kind, .slice A args.length c, .int .i64 vk, .int .u64 vb, .int .i64 pos, .int .i64 a] 27)).alloc (.cells #[.int .i64 op, .int .i64 kind, .slice A args.length c, .int .i64 vk, .int .u64 vb, .int .i64 pos, .int .i64 a] 27)) (by intro q hq; simp only [List.mem_cons, List.not_mem_nil, or_false] at hq; subst hq; exact hn.old hb2)
    (Rd.bk (Bk.newAt (w := W0.alloc (.cells #[.int .i64 op, .int .i64 kind, .slice A args.length c, .int .i64 vk, .int .u64 vb, .int .i64 pos, .int .i64 a] 27)) (g := W0.heap.size + 1) (by simp) 27 #[.int .i64 op, .int .i64 kind, .slice A args.length c, .int .i64 vk, .int .u64 vb, .int .i64 pos, .int .i64 a]) (by simp)) (by simp)
  have HTW := Lib.hid htw
  have ka := Lib.hid (Bk.new W0 27 #[.int .i64 op, .int .i64 kind, .slice A args.length c, .int .i64 vk, .int .u64 vb, .int .i64 pos, .int .i64 a]).at7
  clear htw hn
  show Calls Try.prog 3 #[.agg #[.int .i64 op, .int .i64 kind, .slice A args.length c, .int .i64 vk, .int .u64 vb, .int .i64 pos, .int .i64 a]] W0 _
  go_enter Try.func3, Try.ntmps3
  go_wp2_with (first | (refine wpList_bs_node (by rfl) (.tmp 4) (by rfl) (by rfl) ?_) | (refine wpList_load7 rfl _ rfl rfl ka.out ?_))
  refine HTW.out.mono ?_
  rintro e w1 ⟨A9, c9, l9, rfl, hl9, hsim9, hown9, hok9, hb1⟩
  obtain ⟨n9, rfl⟩ := one_of hl9
  have hsim := hsim9 0 _ _ rfl rfl
  have hk9 := (hok9 n9 (by simp)).n
  have hsz : ((W0.alloc (.cells #[.int .i64 op, .int .i64 kind, .slice A args.length c, .int .i64 vk, .int .u64 vb, .int .i64 pos, .int .i64 a] 27)).alloc (.cells #[.int .i64 op, .int .i64 kind, .slice A args.length c, .int .i64 vk, .int .u64 vb, .int .i64 pos, .int .i64 a] 27)).heap.size = W0.heap.size + 2 := by simp
  have kn := ((Bk.new W0 27 #[.int .i64 op, .int .i64 kind, .slice A args.length c, .int .i64 vk, .int .u64 vb, .int .i64 pos, .int .i64 a]).alloc (.cells #[.int .i64 op, .int .i64 kind, .slice A args.length c, .int .i64 vk, .int .u64 vb, .int .i64 pos, .int .i64 a] 27)).old hb1
  have hbel : Below W0.heap.size W0 w1 := hb2.trans (hb1.mono (by rw [hsz]; omega))
  have hrd9 := own_rd hown9
  obtain ⟨op8, kind8, A8, c8, args8, vk8, vb8, pos8, a8⟩ := n9
  have htr := tree_of_sim HN.out hk9 hsim
  obtain ⟨TT, hTT⟩ : ∃ TT, treeN D (.mk op kind A c args vk vb pos a) = TT := ⟨_, rfl⟩
  have HT0 : Hid (NodeAt D TT (.agg #[.int .i64 op, .int .i64 kind, .slice A args.length c, .int .i64 vk, .int .u64 vb, .int .i64 pos, .int .i64 a]) w1) := Lib.hid ⟨.mk op kind A c args vk vb pos a, rfl, hTT, HN.out.old hbel⟩
  have HT9 : Hid (NodeAt D TT (.agg #[.int .i64 op8, .int .i64 kind8, .slice A8 args8.length c8, .int .i64 vk8, .int .u64 vb8, .int .i64 pos8, .int .i64 a8]) w1) := Lib.hid ⟨.mk op8 kind8 A8 c8 args8 vk8 vb8 pos8 a8, rfl, htr.symm.trans hTT, hk9⟩
  obtain ⟨D, rfl⟩ : ∃ D', D = D' + 1 := by
    cases D with
    | zero => exact HN.out.elim
    | succ D => exact ⟨D, rfl⟩
  obtain ⟨rfl, rfl, rfl, rfl, rfl, rfl, hrest⟩ := hsim
  rcases hrd9 with h | ⟨b9, o9, rfl, hb9, hc9⟩
  · exact absurd (congrArg List.length h) (by simp [NodeV.cells])
  have n0 : w1.cell? ⟨W0.heap.size, 0, none⟩ = some (.int .i64 op) := kn.cell 0
  have n1 : w1.cell? ⟨W0.heap.size, 1, none⟩ = some (.int .i64 kind) := kn.cell 1
  have n2 : w1.cell? ⟨W0.heap.size, 2, none⟩ = some (.slice A args.length c) := kn.cell 2
  have n3 : w1.cell? ⟨W0.heap.size, 3, none⟩ = some (.int .i64 vk) := kn.cell 3
  have n4 : w1.cell? ⟨W0.heap.size, 4, none⟩ = some (.int .u64 vb) := kn.cell 4
  have n5 : w1.cell? ⟨W0.heap.size, 5, none⟩ = some (.int .i64 pos) := kn.cell 5
  have n6 : w1.cell? ⟨W0.heap.size, 6, none⟩ = some (.int .i64 a) := kn.cell 6
  have t0 : w1.cell? ⟨b9, o9, none⟩ = some (.int .i64 op) := hc9 0 _ rfl
  have t1 : w1.cell? ⟨b9, o9 + 1, none⟩ = some (.int .i64 kind) := hc9 1 _ rfl
  have t2 : w1.cell? ⟨b9, o9 + 2, none⟩ = some (.slice A8 args8.length c8) := hc9 2 _ rfl
  have t3 : w1.cell? ⟨b9, o9 + 3, none⟩ = some (.int .i64 vk) := hc9 3 _ rfl
  have t4 : w1.cell? ⟨b9, o9 + 4, none⟩ = some (.int .u64 vb) := hc9 4 _ rfl
  have t5 : w1.cell? ⟨b9, o9 + 5, none⟩ = some (.int .i64 pos) := hc9 5 _ rfl
  have t6 : w1.cell? ⟨b9, o9 + 6, none⟩ = some (.int .i64 a) := hc9 6 _ rfl
  clear hrest hl9 hsim9 hown9 hok9 hb1 HTW hsz hb2 htr hc9 kn hk9 ka
  go_upto_region 2 with fail
  refine wp_region_b (by kernel_rfl) (fun qk => (foN2 A A8 c c8 c9 b9 o9 args args8 op kind vk pos a vb (D + 1) TT W0 w1).getD qk .any) (by kernel_rfl) ?_ ?_
  · refine BOk.cons rfl [] [] rfl rfl (by kernel_rfl) (by kernel_rfl) (fun qK qa wr hB qO qF hK => ?_) ?_
    · clear qO qF
      go_simp
      go_at_call 6
      refine (awake_any _).mono ?_
      rintro e w2 ⟨rfl, hb2⟩
      exact hK _ _ hb2 rfl
    refine BOk.cons rfl [0] [] rfl rfl (by kernel_rfl) (by kernel_rfl) (fun qK qa wr hB qO qF hK => ?_) ?_
    · have e7 : qa.tmps[7]? = some (.bool true) := fis qF.1 rfl rfl
      clear qO qF
      go_simp
      exact hK _ _ (Below.refl _ _) (by first | rfl | (show (_ : Value) = _; simp_all; done))
    refine BOk.yes rfl [] [3] rfl 1 true rfl rfl rfl (by kernel_rfl) (by kernel_rfl) (by kernel_rfl) (fun qK qa wr hB qO qF hK => ?_) ?_
    · have e3 : qa.tmps[3]? = some (.slice (some ⟨b9, o9, none⟩) 1 c9) := qO.1.trans rfl
      clear qO qF
      go_simp
      exact hK _ _ (Below.refl _ _) rfl
    refine BOk.yes rfl [2] [] rfl 1 true rfl rfl rfl (by kernel_rfl) (by kernel_rfl) (by kernel_rfl) (fun qK qa wr hB qO qF hK => ?_) ?_
    · have e9 : qa.tmps[9]? = some (.slice (some ⟨b9, o9, none⟩) 1 c9) := fis qF.1 rfl rfl
      clear qO qF
      go_simp
      exact hK _ _ (Below.refl _ _) rfl
    refine BOk.yes rfl [3] [] rfl 1 true rfl rfl rfl (by kernel_rfl) (by kernel_rfl) (by kernel_rfl) (fun qK qa wr hB qO qF hK => ?_) ?_
    · have e10 : qa.tmps[10]? = some (.pointer (some ⟨b9, o9, none⟩)) := fis qF.1 rfl rfl
      clear qO qF
      have ht0 := (bcell hB _ _ (World.block_lt_of_cell? _ _ t0)).trans t0
      have ht1 := (bcell hB _ _ (World.block_lt_of_cell? _ _ t1)).trans t1
      have ht2 := (bcell hB _ _ (World.block_lt_of_cell? _ _ t2)).trans t2
      have ht3 := (bcell hB _ _ (World.block_lt_of_cell? _ _ t3)).trans t3
      have ht4 := (bcell hB _ _ (World.block_lt_of_cell? _ _ t4)).trans t4
      have ht5 := (bcell hB _ _ (World.block_lt_of_cell? _ _ t5)).trans t5
      have ht6 := (bcell hB _ _ (World.block_lt_of_cell? _ _ t6)).trans t6
      go_simp
      exact hK _ _ (Below.refl _ _) rfl
    refine BOk.yes rfl [4] [] rfl 1 true rfl rfl rfl (by kernel_rfl) (by kernel_rfl) (by kernel_rfl) (fun qK qa wr hB qO qF hK => ?_) ?_
    · have e11 : qa.tmps[11]? = some (.agg #[.int .i64 op, .int .i64 kind, .slice A8 args8.length c8, .int .i64 vk, .int .u64 vb, .int .i64 pos, .int .i64 a]) := fis qF.1 rfl rfl
      clear qO qF
      go_simp
      go_at_call 8
      refine (fold_at (HT9.out.old hB)).mono ?_
      rintro e w2 ⟨v2, rfl, hn2, hb2⟩
      exact hK _ _ hb2 hn2
    refine BOk.yes rfl [] [1] rfl 1 true rfl rfl rfl (by kernel_rfl) (by kernel_rfl) (by kernel_rfl) (fun qK qa wr hB qO qF hK => ?_) ?_
    · have e1 : qa.tmps[1]? = some (.pointer (some ⟨W0.heap.size, 0, none⟩)) := qO.1.trans rfl
      clear qO qF
      have hn0 := (bcell hB _ _ (World.block_lt_of_cell? _ _ n0)).trans n0
      have hn1 := (bcell hB _ _ (World.block_lt_of_cell? _ _ n1)).trans n1
      have hn2 := (bcell hB _ _ (World.block_lt_of_cell? _ _ n2)).trans n2
      have hn3 := (bcell hB _ _ (World.block_lt_of_cell? _ _ n3)).trans n3
      have hn4 := (bcell hB _ _ (World.block_lt_of_cell? _ _ n4)).trans n4
      have hn5 := (bcell hB _ _ (World.block_lt_of_cell? _ _ n5)).trans n5
      have hn6 := (bcell hB _ _ (World.block_lt_of_cell? _ _ n6)).trans n6
      go_simp
      exact hK _ _ (Below.refl _ _) rfl
    refine BOk.yes rfl [6] [] rfl 1 true rfl rfl rfl (by kernel_rfl) (by kernel_rfl) (by kernel_rfl) (fun qK qa wr hB qO qF hK => ?_) ?_
    · have e13 : qa.tmps[13]? = some (.agg #[.int .i64 op, .int .i64 kind, .slice A args.length c, .int .i64 vk, .int .u64 vb, .int .i64 pos, .int .i64 a]) := fis qF.1 rfl rfl
      clear qO qF
      go_simp
      go_at_call 9
      refine (rfold_at (HT0.out.old hB)).mono ?_
      rintro e w2 ⟨v2, rfl, hn2, hb2⟩
      exact hK _ _ hb2 hn2
    refine BOk.yes rfl [5, 7] [] rfl 1 true rfl rfl rfl (by kernel_rfl) (by kernel_rfl) (by kernel_rfl) (fun qK qa wr hB qO qF hK => ?_) ?_
    · obtain ⟨u12, e12, r5⟩ := qF.1
      have r5 : (fun v w => NodeAt (D + 1) (foldT (D + 1) TT) v w) u12 wr := r5
      have e12 : qa.tmps[12]? = some u12 := e12
      obtain ⟨u14, e14, r7⟩ := qF.2.1
      have r7 : (fun v w => NodeAt (D + 1) (foldT (D + 1) TT) v w) u14 wr := r7
      have e14 : qa.tmps[14]? = some u14 := e14
      clear qO qF
      go_simp
      go_at_call 7
      refine (one_at r5 r7).mono ?_
      rintro e w2 ⟨rfl, hb2⟩
      exact hK _ _ hb2 rfl
    refine BOk.cons rfl [1, 8] [] rfl rfl (by kernel_rfl) (by kernel_rfl) (fun qK qa wr hB qO qF hK => ?_) ?_
    · have e8 : qa.tmps[8]? = some (.bool true) := fis qF.1 rfl rfl
      have e15 : qa.tmps[15]? = some (.bool true) := fis qF.2.1 rfl rfl
      clear qO qF
      go_simp
      refine hK _ _ (Below.refl _ _) ?_
      show (_ : Value) = _
      first | rfl | (simp; done) | (simp; omega)
    refine BOk.cons rfl [9] [] rfl rfl (by kernel_rfl) (by kernel_rfl) (fun qK qa wr hB qO qF hK => ?_) ?_
    · have e16 : qa.tmps[16]? = some (.bool true) := fis qF.1 rfl rfl
      clear qO qF
      go_simp
      exact hK _ _ (Below.refl _ _) (by first | rfl | (show (_ : Value) = _; simp_all; done))
    refine BOk.yes rfl [] [3] rfl 10 true rfl rfl rfl (by kernel_rfl) (by kernel_rfl) (by kernel_rfl) (fun qK qa wr hB qO qF hK => ?_) ?_
    · have e3 : qa.tmps[3]? = some (.slice (some ⟨b9, o9, none⟩) 1 c9) := qO.1.trans rfl
      clear qO qF
      go_simp
      exact hK _ _ (Below.refl _ _) rfl
    refine BOk.yes rfl [11] [] rfl 10 true rfl rfl rfl (by kernel_rfl) (by kernel_rfl) (by kernel_rfl) (fun qK qa wr hB qO qF hK => ?_) ?_
    · have e18 : qa.tmps[18]? = some (.slice (some ⟨b9, o9, none⟩) 1 c9) := fis qF.1 rfl rfl
      clear qO qF
      go_simp
      exact hK _ _ (Below.refl _ _) rfl
    refine BOk.yes rfl [12] [] rfl 10 true rfl rfl rfl (by kernel_rfl) (by kernel_rfl) (by kernel_rfl) (fun qK qa wr hB qO qF hK => ?_) ?_
    · have e19 : qa.tmps[19]? = some (.pointer (some ⟨b9, o9, none⟩)) := fis qF.1 rfl rfl
      clear qO qF
      have ht0 := (bcell hB _ _ (World.block_lt_of_cell? _ _ t0)).trans t0
      have ht1 := (bcell hB _ _ (World.block_lt_of_cell? _ _ t1)).trans t1
      have ht2 := (bcell hB _ _ (World.block_lt_of_cell? _ _ t2)).trans t2
      have ht3 := (bcell hB _ _ (World.block_lt_of_cell? _ _ t3)).trans t3
      have ht4 := (bcell hB _ _ (World.block_lt_of_cell? _ _ t4)).trans t4
      have ht5 := (bcell hB _ _ (World.block_lt_of_cell? _ _ t5)).trans t5
      have ht6 := (bcell hB _ _ (World.block_lt_of_cell? _ _ t6)).trans t6
      go_simp
      exact hK _ _ (Below.refl _ _) rfl
    refine BOk.yes rfl [] [1] rfl 10 true rfl rfl rfl (by kernel_rfl) (by kernel_rfl) (by kernel_rfl) (fun qK qa wr hB qO qF hK => ?_) ?_
    · have e1 : qa.tmps[1]? = some (.pointer (some ⟨W0.heap.size, 0, none⟩)) := qO.1.trans rfl
      clear qO qF
      have hn0 := (bcell hB _ _ (World.block_lt_of_cell? _ _ n0)).trans n0
      have hn1 := (bcell hB _ _ (World.block_lt_of_cell? _ _ n1)).trans n1
      have hn2 := (bcell hB _ _ (World.block_lt_of_cell? _ _ n2)).trans n2
      have hn3 := (bcell hB _ _ (World.block_lt_of_cell? _ _ n3)).trans n3
      have hn4 := (bcell hB _ _ (World.block_lt_of_cell? _ _ n4)).trans n4
      have hn5 := (bcell hB _ _ (World.block_lt_of_cell? _ _ n5)).trans n5
      have hn6 := (bcell hB _ _ (World.block_lt_of_cell? _ _ n6)).trans n6
      go_simp
      exact hK _ _ (Below.refl _ _) rfl
    refine BOk.yes rfl [13, 14] [] rfl 10 true rfl rfl rfl (by kernel_rfl) (by kernel_rfl) (by kernel_rfl) (fun qK qa wr hB qO qF hK => ?_) ?_
    · have e20 : qa.tmps[20]? = some (.agg #[.int .i64 op, .int .i64 kind, .slice A8 args8.length c8, .int .i64 vk, .int .u64 vb, .int .i64 pos, .int .i64 a]) := fis qF.1 rfl rfl
      have e21 : qa.tmps[21]? = some (.agg #[.int .i64 op, .int .i64 kind, .slice A args.length c, .int .i64 vk, .int .u64 vb, .int .i64 pos, .int .i64 a]) := fis qF.2.1 rfl rfl
      clear qO qF
      go_simp
      go_at_call 7
      refine (one_at (HT9.out.old hB) (HT0.out.old hB)).mono ?_
      rintro e w2 ⟨rfl, hb2⟩
      exact hK _ _ hb2 rfl
    refine BOk.cons rfl [10, 15] [] rfl rfl (by kernel_rfl) (by kernel_rfl) (fun qK qa wr hB qO qF hK => ?_) ?_
    · have e17 : qa.tmps[17]? = some (.bool true) := fis qF.1 rfl rfl
      have e22 : qa.tmps[22]? = some (.bool true) := fis qF.2.1 rfl rfl
      clear qO qF
      go_simp
      refine hK _ _ (Below.refl _ _) ?_
      show (_ : Value) = _
      first | rfl | (simp; done) | (simp; omega)
    refine BOk.cons rfl [16] [] rfl rfl (by kernel_rfl) (by kernel_rfl) (fun qK qa wr hB qO qF hK => ?_) ?_
    · have e23 : qa.tmps[23]? = some (.bool true) := fis qF.1 rfl rfl
      clear qO qF
      go_simp
      exact hK _ _ (Below.refl _ _) (by first | rfl | (show (_ : Value) = _; simp_all; done))
    exact BOk.nil
  intro vals wr hl hB hR
  match vals, hl with
  | [z7, z8, z9, z10, z11, z12, z13, z14, z15, z16, z17, z18, z19, z20, z21, z22, z23, z2], _ =>
  have r17 : z2 = .bool true := hR 17 _ rfl
  subst r17
  clear hR
  simp only [List.cons_append, List.nil_append, putAll, Act.put, List.setIfInBounds_toArray, List.set_cons_zero, List.set_cons_succ]
  replace hbel := hbel.trans (hB.mono hbel.size)
  clear hB HT0 HT9 HN n0 n1 n2 n3 n4 n5 n6 t0 t1 t2 t3 t4 t5 t6
  go_wp2_with fail
  go_ret
  exact ⟨rfl, hbel⟩

theorem own : ownKnob Try.prog.godebug = none := by kernel_rfl
theorem laidOut : laidOutB Try.prog = true := by kernel_rfl
theorem rec0 : (Try.f3.params.toList.all fun t => Try.prog.readableRec t && decide (t < Try.prog.types.size)) = true := by kernel_rfl
set_option maxRecDepth 100000 in
theorem lifted (os : Os) (started : os.Started) (H : Type) (enc : TypeId × Value → H) (F : Stop.Interp) :
    ReturnsInHanded {} Try.checked os 3 .any ((Rows.OpenSpec.upto Rows.foldNodesSpec).pre6 enc Try.prog Try.f3 Rows.foldNodesUptoRow.domain false) (((Rows.OpenSpec.upto Rows.foldNodesSpec).at F).post enc Try.prog Try.f3 false true false false) := by
  refine law_stepB (C := Try.checked) (s := Rows.foldNodesSpec) (tb := 4) own started (by kernel_rfl) Try.func3
    (OpenSpec.witness (enc := enc) (C := Try.checked) (s := Rows.OpenSpec.upto Rows.foldNodesSpec) (k := Rows.uptoSmall) rfl false ⟨#[], #[.agg #[.int .i64 0, .int .i64 0, .slice none 0 0, .int .i64 0, .int .u64 0, .int .i64 0, .int .i64 0]], []⟩ 8 (by kernel_rfl) (by kernel_rfl) (by kernel_rfl)
      (x := ([.agg [.lit (.int .i64 0), .lit (.int .i64 0), .nil, .agg [.lit (.int .i64 0), .lit (.int .u64 0)], .lit (.int .i64 0), .lit (.int .i64 0)]], [], [])) (by kernel_rfl) rfl (by kernel_rfl)) laidOut ?_ rfl Try.underlying4 rfl ?_ ?_
  · intro t ht
    have := List.all_eq_true.1 rec0 t ht
    simp only [Bool.and_eq_true, decide_eq_true_eq] at this
    exact this
  · intro ds hd
    match ds, hd with
    | [d0], _ => exact ⟨rfl, rfl, rfl⟩
  intro W base args ds p hval hA hsz hbk
  rw [Try.params3] at hA hval hsz
  obtain ⟨v0, vs0, d0, ds0, p0, q0, hargs, rfl, rfl, h0, r0⟩ := trodAll_cons hA
  obtain ⟨rfl, rfl, rfl⟩ := trodAll_nil r0
  obtain rfl : args = #[v0] := by cases args; simp_all
  obtain ⟨D0, n0, rfl, hq0⟩ := openB_node (hval 0 27 v0 rfl rfl) h0 (weights_each (i := 0) hsz rfl rfl) (Nat.le_trans (bulk_part (by simp)) hbk)
  exact walk W D0 n0 hq0

theorem foldNodes_holds : Rows.FoldNodesUptoSaid :=
  OpenClaim.holds_of_cond 3 Try.f3 rfl rfl rfl rfl rfl rfl rfl ⟨rfl, rfl, rfl, rfl, rfl⟩ rfl rfl rfl rfl rfl (by kernel_rfl) Try.func3 (by kernel_rfl)
    (of_decide_eq_true (by kernel_rfl)) (by unfold Func.isWrapper; first | (rw [if_pos (by decide +kernel)]; kernel_rfl) | (rw [if_neg (by decide +kernel)]; exact ⟨rfl, rfl⟩))
    (fun os started H enc _ F => lifted os started H enc F)
#print axioms foldNodes_holds
end Go.Proofs.Ytkfpmoilfillmaa.foldNodes
