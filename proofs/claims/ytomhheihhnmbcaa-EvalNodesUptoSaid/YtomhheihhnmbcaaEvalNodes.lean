/- EvalNodes holds of what is of bounded bulk. No conditions. -/
import Derived.Test.YtomhheihhnmbcaaEvRd
import Derived.Test.YtomhheihhnmbcaaEvSm
import Derived.Deep.DeepCutAuto
namespace Go.Proofs.Ytomhheihhnmbcaa.evalNodes
open Go.ChangeShapes Go.WideShapes Go.ChangeAt Go.RowKit
open Go.ChangeMaps (open_string shut_string)
set_option linter.unusedSimpArgs false
set_option linter.unusedVariables false

def regN3 (A A1 A2 A8 : Option Addr) (c c1 c2 c8 c9 b9 o9 g9 : Nat) (args args8 : List NodeV) (l1 : List EventV) (l2 : List IntsV) (op kind vk pos a cur : Int) (vb : Nat) (X : V) (Y : Bool) (W0 w1 w5 : World) (Bq : Nat) : List Spec := [.is (.slice (some ⟨b9, o9, none⟩) 1 c9),
  .is (.pointer (some ⟨b9, o9, none⟩)),
  .is (.agg #[.int .i64 op, .int .i64 kind, .slice A8 args8.length c8, .int .i64 vk, .int .u64 vb, .int .i64 pos, .int .i64 a]),
  .is (.agg #[.slice A1 l1.length c1, .slice A2 l2.length c2, .int .i64 cur]),
  .is (.agg #[.int .i64 X.k, .int .u64 X.b]),
  .st (fun v w => ∃ g, v = .pointer (some ⟨g, 0, none⟩) ∧ Bq ≤ g ∧ Bk w g 31 #[.int .i64 0, .int .u64 0]) (fun _ _ _ hb ⟨g, h1, h0, h2⟩ => ⟨g, h1, h0, h2.old hb⟩)]
def regN5 (A A1 A2 A8 : Option Addr) (c c1 c2 c8 c9 b9 o9 g9 : Nat) (args args8 : List NodeV) (l1 : List EventV) (l2 : List IntsV) (op kind vk pos a cur : Int) (vb : Nat) (X : V) (Y : Bool) (W0 w1 w5 : World) : List Spec := [.is (.bool true),
  .is (.bool true),
  .is (.agg #[.int .i64 X.k, .int .u64 X.b]),
  .is (.agg #[.int .i64 X.k, .int .u64 X.b]),
  .is (.bool true),
  .is (.bool true),
  .is (.bool true),
  .is (.slice (some ⟨b9, o9, none⟩) 1 c9),
  .is (.agg #[.slice A1 l1.length c1, .slice A2 l2.length c2, .int .i64 cur]),
  .is (.bool Y),
  .is (.agg #[.int .i64 X.k, .int .u64 X.b]),
  .is (.agg #[.int .i64 2, .int .u64 1]),
  .is (.bool Y),
  .is (.bool true),
  .is (.bool true),
  .is (.bool true),
  .is (.slice (some ⟨b9, o9, none⟩) 1 c9),
  .is (.agg #[.int .i64 op, .int .i64 kind, .slice A args.length c, .int .i64 vk, .int .u64 vb, .int .i64 pos, .int .i64 a]),
  .st (fun v w => ∃ g, v = .slice (some ⟨g, 0, none⟩) 1 1 ∧ Bk w g 41 #[.int .i64 op, .int .i64 kind, .slice A args.length c, .int .i64 vk, .int .u64 vb, .int .i64 pos, .int .i64 a]) (fun _ _ _ hb ⟨g, h1, h2⟩ => ⟨g, h1, h2.old hb⟩),
  .is (.bool true),
  .is (.bool true),
  .is (.bool true)]

theorem one_of {l : List NodeV} (h : l.length = 1) : ∃ n, l = [n] := by
  match l, h with
  | [n], _ => exact ⟨n, rfl⟩
set_option maxRecDepth 100000 in
set_option maxHeartbeats 4000000 in
theorem walk (W0 : World) (D : Nat) (n : NodeV) (hn : okN D n W0 W0.heap.size) (A1 : Option Addr) (c1 : Nat) (l1 : List EventV) (hc1 : l1.length ≤ c1) (hl1 : l1.length ≤ 1048576) (hr1 : Rd W0 W0.heap.size A1 (l1.flatMap EventV.cells)) (hq1 : ∀ x ∈ l1, x.ok W0 W0.heap.size)
    (A2 : Option Addr) (c2 : Nat) (l2 : List IntsV) (cur : Int) (hl2 : l2.length ≤ 1048576) (hr2 : Rd W0 W0.heap.size A2 (l2.flatMap IntsV.cells)) (hq2 : ∀ x ∈ l2, x.ok W0 W0.heap.size) :
    Calls Try.prog 5 #[n.val, .slice A1 l1.length c1, .agg #[.slice A2 l2.length c2, .int .i64 cur]] W0 fun e W' => e = .returned (.bool true) ∧ Below W0.heap.size W0 W' := by
  have hok : LookV.ok ⟨A1, c1, l1, A2, c2, l2, cur⟩ W0 W0.heap.size := ⟨hr1, hl1, hq1, hr2, hl2, hq2⟩
  obtain ⟨op, kind, A, c, args, vk, vb, pos, a⟩ := n
  have HOK := Lib.hid hok
  have HN := Lib.hid hn
  clear hok hn hr1 hq1 hr2 hq2
  show Calls Try.prog 5 #[.agg #[.int .i64 op, .int .i64 kind, .slice A args.length c, .int .i64 vk, .int .u64 vb, .int .i64 pos, .int .i64 a], .slice A1 l1.length c1, .agg #[.slice A2 l2.length c2, .int .i64 cur]] W0 _
  have hb3 := bel3 W0 (.cells #[.int .i64 op, .int .i64 kind, .slice A args.length c, .int .i64 vk, .int .u64 vb, .int .i64 pos, .int .i64 a] 41) (.cells #[.slice A2 l2.length c2, .int .i64 cur] 43) (.cells #[.int .i64 op, .int .i64 kind, .slice A args.length c, .int .i64 vk, .int .u64 vb, .int .i64 pos, .int .i64 a] 41)
  have htw := twin_any D [.mk op kind A c args vk vb pos a] (some ⟨W0.heap.size + 2, 0, none⟩) 1 (((W0.alloc (.cells #[.int .i64 op, .int .i64 kind, .slice A args.length c, .int .i64 vk, .int .u64 vb, .int .i64 pos, .int .i64 a] 41)).alloc (.cells #[.slice A2 l2.length c2, .int .i64 cur] 43)).alloc (.cells #[.int .i64 op, .int .i64 kind, .slice A args.length c, .int .i64 vk, .int .u64 vb, .int .i64 pos, .int .i64 a] 41)) (by intro q hq; simp only [List.mem_cons, List.not_mem_nil, or_false] at hq; subst hq; exact okN.old HN.out hb3)
    (bk_rd (Bk.newAt (w := (W0.alloc (.cells #[.int .i64 op, .int .i64 kind, .slice A args.length c, .int .i64 vk, .int .u64 vb, .int .i64 pos, .int .i64 a] 41)).alloc (.cells #[.slice A2 l2.length c2, .int .i64 cur] 43)) (g := W0.heap.size + 2) (by simp) 41 #[.int .i64 op, .int .i64 kind, .slice A args.length c, .int .i64 vk, .int .u64 vb, .int .i64 pos, .int .i64 a])) (by simp)
  have HTW := Lib.hid htw
  clear htw
  go_enter Try.func5, Try.ntmps5
  go_wp2_with (refine wpList_bs_node (by rfl) (.tmp 11) (by rfl) (by rfl) ?_)
  refine HTW.out.mono ?_
  rintro e w1 ⟨A9, c9, l9, rfl, hl9, hsim9, hown9, hok9, hb1⟩
  obtain ⟨n9, rfl⟩ := one_of hl9
  have hsim := hsim9 0 _ _ rfl rfl
  have hk9 := (hok9 n9 (by simp)).n
  clear hok9
  have hsz : (((W0.alloc (.cells #[.int .i64 op, .int .i64 kind, .slice A args.length c, .int .i64 vk, .int .u64 vb, .int .i64 pos, .int .i64 a] 41)).alloc (.cells #[.slice A2 l2.length c2, .int .i64 cur] 43)).alloc (.cells #[.int .i64 op, .int .i64 kind, .slice A args.length c, .int .i64 vk, .int .u64 vb, .int .i64 pos, .int .i64 a] 41)).heap.size = W0.heap.size + 3 := by simp
  have kn := (((Bk.new W0 41 #[.int .i64 op, .int .i64 kind, .slice A args.length c, .int .i64 vk, .int .u64 vb, .int .i64 pos, .int .i64 a]).alloc (.cells #[.slice A2 l2.length c2, .int .i64 cur] 43)).alloc (.cells #[.int .i64 op, .int .i64 kind, .slice A args.length c, .int .i64 vk, .int .u64 vb, .int .i64 pos, .int .i64 a] 41)).old hb1
  have kp := ((Bk.newAt (w := W0.alloc (.cells #[.int .i64 op, .int .i64 kind, .slice A args.length c, .int .i64 vk, .int .u64 vb, .int .i64 pos, .int .i64 a] 41)) (g := W0.heap.size + 1) (by simp) 43 #[.slice A2 l2.length c2, .int .i64 cur]).alloc (.cells #[.int .i64 op, .int .i64 kind, .slice A args.length c, .int .i64 vk, .int .u64 vb, .int .i64 pos, .int .i64 a] 41)).old hb1
  have hbel : Below W0.heap.size W0 w1 := hb3.trans (hb1.mono (by rw [hsz]; omega))
  have hrd9 := own_rd hown9
  clear hl9 hsim9 hown9 hb1 HTW hsz hb3
  obtain ⟨D, rfl⟩ : ∃ D', D = D' + 1 := by
    cases D with
    | zero => exact HN.out.elim
    | succ D' => exact ⟨D', rfl⟩
  have hev : evalN ⟨A1, c1, l1, A2, c2, l2, cur⟩ (D + 1) n9 = evalN ⟨A1, c1, l1, A2, c2, l2, cur⟩ (D + 1) (.mk op kind A c args vk vb pos a) := (evalN_sim hsim).symm
  obtain ⟨X, hX⟩ : ∃ X, evalN ⟨A1, c1, l1, A2, c2, l2, cur⟩ (D + 1) (.mk op kind A c args vk vb pos a) = X := ⟨_, rfl⟩
  rw [hX] at hev
  obtain ⟨op8, kind8, A8, c8, args8, vk8, vb8, pos8, a8⟩ := n9
  have hsim2 := hsim
  obtain ⟨rfl, rfl, rfl, rfl, rfl, rfl, hal, _⟩ := hsim2
  obtain ⟨b9, o9, rfl, hb9, hc9⟩ : ∃ b9 o9, A9 = some ⟨b9, o9, none⟩ ∧ b9 < w1.heap.size ∧ ∀ (j : Nat) (u : Value), ([NodeV.mk op kind A8 c8 args8 vk vb pos a].flatMap NodeV.cells)[j]? = some u → w1.cell? ⟨b9, o9 + j, none⟩ = some u := by
    rcases hrd9 with h | ⟨b, o, h1, h2, h3⟩
    · simp [NodeV.cells] at h
    · exact ⟨b, o, h1, h2, h3⟩
  have hbW := hbel.alloc hbel.size (.cells #[.slice A1 l1.length c1, .slice A2 l2.length c2, .int .i64 cur] 28)
  have hW1 : Below w1.heap.size w1 (w1.alloc (.cells #[.slice A1 l1.length c1, .slice A2 l2.length c2, .int .i64 cur] 28)) := (Below.refl _ _).alloc (Nat.le_refl _) _
  have HPN : Hid (∀ w', Below w1.heap.size w1 w' → Calls Try.prog 13 #[.agg #[.int .i64 op, .int .i64 kind, .slice A8 args8.length c8, .int .i64 vk, .int .u64 vb, .int .i64 pos, .int .i64 a], .agg #[.slice A1 l1.length c1, .slice A2 l2.length c2, .int .i64 cur]] w' fun e w2 => e = .returned (.agg #[.int .i64 X.k, .int .u64 X.b]) ∧ Below w'.heap.size w' w2) := Lib.hid fun w' hw => by
    have hw0 := hbel.trans (hw.mono hbel.size)
    have := pnode_any ⟨A1, c1, l1, A2, c2, l2, cur⟩ (D + 1) (.mk op kind A8 c8 args8 vk vb pos a) w' (okN.old hk9 hw) (HOK.out.old hw0)
    rw [hev] at this
    exact this
  have HRN : Hid (∀ w', Below w1.heap.size w1 w' → Calls Try.prog 14 #[.agg #[.int .i64 op, .int .i64 kind, .slice A args.length c, .int .i64 vk, .int .u64 vb, .int .i64 pos, .int .i64 a], .slice A1 l1.length c1, .slice A2 l2.length c2, .int .i64 cur] w' fun e w2 => e = .returned (.agg #[.int .i64 X.k, .int .u64 X.b]) ∧ Below w'.heap.size w' w2) := Lib.hid fun w' hw => by
    have hw0 := hbel.trans (hw.mono hbel.size)
    have := rnode_any ⟨A1, c1, l1, A2, c2, l2, cur⟩ (D + 1) (.mk op kind A c args vk vb pos a) w' (okN.old HN.out hw0) (HOK.out.old hw0)
    rw [← eval_ref HOK.out, hX] at this
    exact this
  obtain ⟨Y, hY⟩ : ∃ Y, isYes X = Y := ⟨_, rfl⟩
  have HPA : Hid (∀ w', Below w1.heap.size w1 w' → Calls Try.prog 15 #[.slice (some ⟨b9, o9, none⟩) 1 c9, .agg #[.slice A1 l1.length c1, .slice A2 l2.length c2, .int .i64 cur]] w' fun e w2 => e = .returned (.bool Y) ∧ Below w'.heap.size w' w2) := Lib.hid fun w' hw => by
    have hw0 := hbel.trans (hw.mono hbel.size)
    have := pall_any ⟨A1, c1, l1, A2, c2, l2, cur⟩ (D + 1) [.mk op kind A8 c8 args8 vk vb pos a] (some ⟨b9, o9, none⟩) c9 w' ((hrd9.below hw).more hw.size) (by simp) (by intro q hq; simp only [List.mem_cons, List.not_mem_nil, or_false] at hq; subst hq; exact okN.old hk9 hw) (HOK.out.old hw0)
    have e : ([NodeV.mk op kind A8 c8 args8 vk vb pos a].all fun n => isYes (evalN ⟨A1, c1, l1, A2, c2, l2, cur⟩ (D + 1) n)) = Y := by
      simp only [List.all_cons, List.all_nil, Bool.and_true, hev]; exact hY
    rw [e] at this
    exact this
  have HSM : Hid (∀ w' g, Below w1.heap.size w1 w' → Bk w' g 41 #[.int .i64 op, .int .i64 kind, .slice A args.length c, .int .i64 vk, .int .u64 vb, .int .i64 pos, .int .i64 a] → Calls Try.prog 17 #[.slice (some ⟨b9, o9, none⟩) 1 c9, .slice (some ⟨g, 0, none⟩) 1 1] w' fun e w2 => e = .returned (.bool true) ∧ Below w'.heap.size w' w2) := Lib.hid fun w' g hw hg => by
    have hw0 := hbel.trans (hw.mono hbel.size)
    exact same_any (D + 1) [.mk op kind A8 c8 args8 vk vb pos a] [.mk op kind A c args vk vb pos a] (some ⟨b9, o9, none⟩) (some ⟨g, 0, none⟩) c9 1 w' (by intro q hq; simp only [List.mem_cons, List.not_mem_nil, or_false] at hq; subst hq; exact okN.old hk9 hw) (by intro q hq; simp only [List.mem_cons, List.not_mem_nil, or_false] at hq; subst hq; exact okN.old HN.out hw0)
      ((hrd9.below hw).more hw.size) (bk_rd hg) (by simp) rfl (by
        intro i x y hx hy
        match i, hx, hy with
        | 0, hx, hy =>
          simp only [List.getElem?_cons_zero, Option.some.injEq] at hx hy
          subst hx; subst hy; exact hsim.symm
        | i + 1, hx, _ => simp at hx)
  have HY := Lib.hid hY
  have hcells : ∀ (j : Nat) (u : Value), ([NodeV.mk op kind A8 c8 args8 vk vb pos a].flatMap NodeV.cells)[j]? = some u → (w1.alloc (.cells #[.slice A1 l1.length c1, .slice A2 l2.length c2, .int .i64 cur] 28)).cell? ⟨b9, o9 + j, none⟩ = some u := fun j u hu => (bcell hW1 _ _ hb9).trans (hc9 j u hu)
  have t0 : (w1.alloc (.cells #[.slice A1 l1.length c1, .slice A2 l2.length c2, .int .i64 cur] 28)).cell? ⟨b9, o9, none⟩ = some (.int .i64 op) := hcells 0 _ rfl
  have t1 : (w1.alloc (.cells #[.slice A1 l1.length c1, .slice A2 l2.length c2, .int .i64 cur] 28)).cell? ⟨b9, o9 + 1, none⟩ = some (.int .i64 kind) := hcells 1 _ rfl
  have t2 : (w1.alloc (.cells #[.slice A1 l1.length c1, .slice A2 l2.length c2, .int .i64 cur] 28)).cell? ⟨b9, o9 + 2, none⟩ = some (.slice A8 args8.length c8) := hcells 2 _ rfl
  have t3 : (w1.alloc (.cells #[.slice A1 l1.length c1, .slice A2 l2.length c2, .int .i64 cur] 28)).cell? ⟨b9, o9 + 3, none⟩ = some (.int .i64 vk) := hcells 3 _ rfl
  have t4 : (w1.alloc (.cells #[.slice A1 l1.length c1, .slice A2 l2.length c2, .int .i64 cur] 28)).cell? ⟨b9, o9 + 4, none⟩ = some (.int .u64 vb) := hcells 4 _ rfl
  have t5 : (w1.alloc (.cells #[.slice A1 l1.length c1, .slice A2 l2.length c2, .int .i64 cur] 28)).cell? ⟨b9, o9 + 5, none⟩ = some (.int .i64 pos) := hcells 5 _ rfl
  have t6 : (w1.alloc (.cells #[.slice A1 l1.length c1, .slice A2 l2.length c2, .int .i64 cur] 28)).cell? ⟨b9, o9 + 6, none⟩ = some (.int .i64 a) := hcells 6 _ rfl
  have p0 : w1.cell? ⟨W0.heap.size, 0, none⟩ = some (.int .i64 op) := kn.cell 0
  have q0 : w1.cell? ⟨W0.heap.size + 1, 0, none⟩ = some (.slice A2 l2.length c2) := kp.cell 0
  have q1 : w1.cell? ⟨W0.heap.size + 1, 1, none⟩ = some (.int .i64 cur) := kp.cell 1
  have kl := Bk.new w1 28 #[.slice A1 l1.length c1, .slice A2 l2.length c2, .int .i64 cur]
  have k0 := kl.cell 0
  have k1 := kl.cell 1
  have k2 := kl.cell 2
  have HW := Lib.hid hW1
  clear hcells hc9 hev hX hY hsim hal hk9 hrd9 HOK HN hb9 hW1
  go_wp2_with fail
  refine wp_region_t 6 (fun k => k == 5) (by kernel_rfl) (fun qk => (regN3 A A1 A2 A8 c c1 c2 c8 c9 b9 o9 0 args args8 l1 l2 op kind vk pos a cur vb X Y W0 w1 w1 (w1.alloc (.cells #[.slice A1 l1.length c1, .slice A2 l2.length c2, .int .i64 cur] 28)).heap.size).getD qk .any) (by kernel_rfl) ?_ ?_
  · refine BOk.cons rfl [] [7] rfl rfl (by kernel_rfl) (by kernel_rfl) (fun qK qa wr hB qO qF hK => ?_) ?_
    · have e7 : qa.tmps[7]? = some (.slice (some ⟨b9, o9, none⟩) 1 c9) := qO.1.trans rfl
      clear qO qF
      go_simp
      exact hK _ _ (Below.refl _ _) rfl
    refine BOk.cons rfl [0] [] rfl rfl (by kernel_rfl) (by kernel_rfl) (fun qK qa wr hB qO qF hK => ?_) ?_
    · obtain ⟨u20, e20, r0⟩ := qF.1
      have e20 : qa.tmps[20]? = some (.slice (some ⟨b9, o9, none⟩) 1 c9) := (show u20 = .slice (some ⟨b9, o9, none⟩) 1 c9 from r0) ▸ e20
      clear r0
      clear qO qF
      go_simp
      exact hK _ _ (Below.refl _ _) rfl
    refine BOk.cons rfl [1] [] rfl rfl (by kernel_rfl) (by kernel_rfl) (fun qK qa wr hB qO qF hK => ?_) ?_
    · obtain ⟨u21, e21, r1⟩ := qF.1
      have e21 : qa.tmps[21]? = some (.pointer (some ⟨b9, o9, none⟩)) := (show u21 = .pointer (some ⟨b9, o9, none⟩) from r1) ▸ e21
      clear r1
      clear qO qF
      have ht0 := (bcell hB _ _ (World.block_lt_of_cell? _ _ t0)).trans t0
      have ht1 := (bcell hB _ _ (World.block_lt_of_cell? _ _ t1)).trans t1
      have ht2 := (bcell hB _ _ (World.block_lt_of_cell? _ _ t2)).trans t2
      have ht3 := (bcell hB _ _ (World.block_lt_of_cell? _ _ t3)).trans t3
      have ht4 := (bcell hB _ _ (World.block_lt_of_cell? _ _ t4)).trans t4
      have ht5 := (bcell hB _ _ (World.block_lt_of_cell? _ _ t5)).trans t5
      have ht6 := (bcell hB _ _ (World.block_lt_of_cell? _ _ t6)).trans t6
      go_simp
      exact hK _ _ (Below.refl _ _) rfl
    refine BOk.cons rfl [] [8] rfl rfl (by kernel_rfl) (by kernel_rfl) (fun qK qa wr hB qO qF hK => ?_) ?_
    · have e8 : qa.tmps[8]? = some (.pointer (some ⟨w1.heap.size, 0, none⟩)) := qO.1.trans rfl
      clear qO qF
      have hk0 := (bcell hB _ _ (World.block_lt_of_cell? _ _ k0)).trans k0
      have hk1 := (bcell hB _ _ (World.block_lt_of_cell? _ _ k1)).trans k1
      have hk2 := (bcell hB _ _ (World.block_lt_of_cell? _ _ k2)).trans k2
      go_simp
      exact hK _ _ (Below.refl _ _) rfl
    refine BOk.cons rfl [2, 3] [] rfl rfl (by kernel_rfl) (by kernel_rfl) (fun qK qa wr hB qO qF hK => ?_) ?_
    · obtain ⟨u22, e22, r2⟩ := qF.1
      have e22 : qa.tmps[22]? = some (.agg #[.int .i64 op, .int .i64 kind, .slice A8 args8.length c8, .int .i64 vk, .int .u64 vb, .int .i64 pos, .int .i64 a]) := (show u22 = .agg #[.int .i64 op, .int .i64 kind, .slice A8 args8.length c8, .int .i64 vk, .int .u64 vb, .int .i64 pos, .int .i64 a] from r2) ▸ e22
      clear r2
      obtain ⟨u23, e23, r3⟩ := qF.2.1
      have e23 : qa.tmps[23]? = some (.agg #[.slice A1 l1.length c1, .slice A2 l2.length c2, .int .i64 cur]) := (show u23 = .agg #[.slice A1 l1.length c1, .slice A2 l2.length c2, .int .i64 cur] from r3) ▸ e23
      clear r3
      clear qO qF
      go_simp
      go_at_call 13
      refine (HPN.out _ (HW.out.trans (hB.mono HW.out.size))).mono ?_
      rintro e w2 ⟨rfl, hb2⟩
      exact hK _ _ hb2 rfl
    refine BOk.fresh rfl [] [] rfl rfl (by kernel_rfl) (by kernel_rfl) (fun qK qa wr hB qO qF hK => ?_) ?_
    · clear qO qF
      go_simp
      exact hK _ _ ((Below.refl _ _).alloc (Nat.le_refl _) _) ⟨_, rfl, hB.size, Bk.new _ _ _⟩ ⟨_, rfl, by simp, by simp⟩
    exact BOk.nil
  intro vals wr hl hB hR hS
  match vals, hl with
  | [z20, z21, z22, z23, z24, z9], _ =>
  have r4 : z24 = .agg #[.int .i64 X.k, .int .u64 X.b] := hR 4 _ rfl
  subst r4
  obtain ⟨g9, r5, n9, k9⟩ := (show ∃ g, z9 = .pointer (some ⟨g, 0, none⟩) ∧ (w1.alloc (.cells #[.slice A1 l1.length c1, .slice A2 l2.length c2, .int .i64 cur] 28)).heap.size ≤ g ∧ Bk wr g 31 #[.int .i64 0, .int .u64 0] from hR 5 _ rfl)
  subst r5
  clear hS
  clear hR
  simp only [List.take_succ_cons, List.take_zero, List.drop_succ_cons, List.drop_zero, List.toList_toArray, List.cons_append, List.nil_append, putAll, Act.put, List.setIfInBounds_toArray, List.set_cons_zero, List.set_cons_succ]
  obtain ⟨y0, y1, f0, f1⟩ := vcells k9
  have hz := hbel.size
  have hlt1 : W0.heap.size + 1 < w1.heap.size := kp.lt
  have hn9 : w1.heap.size + 1 ≤ g9 := by simpa using n9
  have kl2 := (kl.old hB).far (p := ⟨g9, 0, none⟩) (by show w1.heap.size ≠ g9; omega) (.int .i64 X.k)
  have kl3 := kl2.far (p := ⟨g9, 1, none⟩) (by show w1.heap.size ≠ g9; omega) (.int .u64 X.b)
  have kn2 := ((kn.alloc (.cells #[.slice A1 l1.length c1, .slice A2 l2.length c2, .int .i64 cur] 28)).old hB).far (p := ⟨g9, 0, none⟩) (by show W0.heap.size ≠ g9; omega) (.int .i64 X.k)
  have kn3 := kn2.far (p := ⟨g9, 1, none⟩) (by show W0.heap.size ≠ g9; omega) (.int .u64 X.b)
  have kp2 := ((kp.alloc (.cells #[.slice A1 l1.length c1, .slice A2 l2.length c2, .int .i64 cur] 28)).old hB).far (p := ⟨g9, 0, none⟩) (by show W0.heap.size + 1 ≠ g9; omega) (.int .i64 X.k)
  have kp3 := kp2.far (p := ⟨g9, 1, none⟩) (by show W0.heap.size + 1 ≠ g9; omega) (.int .u64 X.b)
  have k93 := vput k9 (.int .i64 X.k) (.int .u64 X.b)
  have hW3 := ((HW.out.trans (hB.mono HW.out.size)).setCell (p := ⟨g9, 0, none⟩) (by show w1.heap.size ≤ g9; omega) (.int .i64 X.k)).setCell (p := ⟨g9, 1, none⟩) (by show w1.heap.size ≤ g9; omega) (.int .u64 X.b)
  clear kl2 kn2 kp2 hB HW kl kn kp k0 k1 k2 t0 t1 t2 t3 t4 t5 t6 p0 q0 q1
  go_upto_region 4 with fail
  clear y0 y1 f0 f1 k9
  generalize (wr.setCell ⟨g9, 0, none⟩ (.int .i64 X.k)).setCell ⟨g9, 1, none⟩ (.int .u64 X.b) = W4 at *
  have n0 := kn3.cell 0
  have n1 := kn3.cell 1
  have n2 := kn3.cell 2
  have n3 := kn3.cell 3
  have n4 := kn3.cell 4
  have n5 := kn3.cell 5
  have n6 := kn3.cell 6
  have q0 := kp3.cell 0
  have q1 := kp3.cell 1
  simp at n0 n1 n2 n3 n4 n5 n6 q0 q1
  go_wp2_with fail
  refine (HRN.out _ hW3).mono ?_
  rintro e w5 ⟨rfl, hb5⟩
  clear n0 n1 n2 n3 n4 n5 n6 q0 q1
  have HW := Lib.hid ((hW3.trans (hb5.mono hW3.size)).alloc (by have := hW3.size; have := hb5.size; omega) (.cells #[.int .i64 X.k, .int .u64 X.b] 46))
  have kn := (kn3.old hb5).alloc (.cells #[.int .i64 X.k, .int .u64 X.b] 46)
  have kl := (kl3.old hb5).alloc (.cells #[.int .i64 X.k, .int .u64 X.b] 46)
  have k9 := (k93.old hb5).alloc (.cells #[.int .i64 X.k, .int .u64 X.b] 46)
  have k10 := Bk.new w5 46 #[.int .i64 X.k, .int .u64 X.b]
  clear hb5 hW3 kn3 kl3 k93 kp3
  have n0 := kn.cell 0
  have n1 := kn.cell 1
  have n2 := kn.cell 2
  have n3 := kn.cell 3
  have n4 := kn.cell 4
  have n5 := kn.cell 5
  have n6 := kn.cell 6
  have k0 := kl.cell 0
  have k1 := kl.cell 1
  have k2 := kl.cell 2
  have y0 := k9.cell 0
  have y1 := k9.cell 1
  have z0 := k10.cell 0
  have z1 := k10.cell 1
  clear kn kl k9 k10
  go_wp2_with fail
  refine wp_region_b (by kernel_rfl) (fun qk => (regN5 A A1 A2 A8 c c1 c2 c8 c9 b9 o9 g9 args args8 l1 l2 op kind vk pos a cur vb X Y W0 w1 w5).getD qk .any) (by kernel_rfl) ?_ ?_
  · refine BOk.cons rfl [] [] rfl rfl (by kernel_rfl) (by kernel_rfl) (fun qK qa wr hB qO qF hK => ?_) ?_
    · clear qO qF
      go_simp
      go_at_call 8
      refine (awake_any _).mono ?_
      rintro e w2 ⟨rfl, hb2⟩
      exact hK _ _ hb2 rfl
    refine BOk.cons rfl [0] [] rfl rfl (by kernel_rfl) (by kernel_rfl) (fun qK qa wr hB qO qF hK => ?_) ?_
    · obtain ⟨u32, e32, r0⟩ := qF.1
      have e32 : qa.tmps[32]? = some (.bool true) := (show u32 = .bool true from r0) ▸ e32
      clear r0
      clear qO qF
      go_simp
      exact hK _ _ (Below.refl _ _) rfl
    refine BOk.yes rfl [] [9] rfl 1 true rfl rfl rfl (by kernel_rfl) (by kernel_rfl) (by kernel_rfl) (fun qK qa wr hB qO qF hK => ?_) ?_
    · have e9 : qa.tmps[9]? = some (.pointer (some ⟨g9, 0, none⟩)) := qO.1.trans rfl
      clear qO qF
      have hy0 := (bcell hB _ _ (World.block_lt_of_cell? _ _ y0)).trans y0
      have hy1 := (bcell hB _ _ (World.block_lt_of_cell? _ _ y1)).trans y1
      go_simp
      exact hK _ _ (Below.refl _ _) rfl
    refine BOk.yes rfl [] [10] rfl 1 true rfl rfl rfl (by kernel_rfl) (by kernel_rfl) (by kernel_rfl) (fun qK qa wr hB qO qF hK => ?_) ?_
    · have e10 : qa.tmps[10]? = some (.pointer (some ⟨w5.heap.size, 0, none⟩)) := qO.1.trans rfl
      clear qO qF
      have hz0 := (bcell hB _ _ (World.block_lt_of_cell? _ _ z0)).trans z0
      have hz1 := (bcell hB _ _ (World.block_lt_of_cell? _ _ z1)).trans z1
      go_simp
      exact hK _ _ (Below.refl _ _) rfl
    refine BOk.yes rfl [2, 3] [] rfl 1 true rfl rfl rfl (by kernel_rfl) (by kernel_rfl) (by kernel_rfl) (fun qK qa wr hB qO qF hK => ?_) ?_
    · obtain ⟨u34, e34, r2⟩ := qF.1
      have e34 : qa.tmps[34]? = some (.agg #[.int .i64 X.k, .int .u64 X.b]) := (show u34 = .agg #[.int .i64 X.k, .int .u64 X.b] from r2) ▸ e34
      clear r2
      obtain ⟨u35, e35, r3⟩ := qF.2.1
      have e35 : qa.tmps[35]? = some (.agg #[.int .i64 X.k, .int .u64 X.b]) := (show u35 = .agg #[.int .i64 X.k, .int .u64 X.b] from r3) ▸ e35
      clear r3
      clear qO qF
      go_simp
      refine hK _ _ (Below.refl _ _) ?_
      show (_ : Value) = _
      first | rfl | (simp; done) | (simp; omega)
    refine BOk.cons rfl [1, 4] [] rfl rfl (by kernel_rfl) (by kernel_rfl) (fun qK qa wr hB qO qF hK => ?_) ?_
    · obtain ⟨u33, e33, r1⟩ := qF.1
      have e33 : qa.tmps[33]? = some (.bool true) := (show u33 = .bool true from r1) ▸ e33
      clear r1
      obtain ⟨u36, e36, r4⟩ := qF.2.1
      have e36 : qa.tmps[36]? = some (.bool true) := (show u36 = .bool true from r4) ▸ e36
      clear r4
      clear qO qF
      go_simp
      refine hK _ _ (Below.refl _ _) ?_
      show (_ : Value) = _
      first | rfl | (simp; done) | (simp; omega)
    refine BOk.cons rfl [5] [] rfl rfl (by kernel_rfl) (by kernel_rfl) (fun qK qa wr hB qO qF hK => ?_) ?_
    · obtain ⟨u37, e37, r5⟩ := qF.1
      have e37 : qa.tmps[37]? = some (.bool true) := (show u37 = .bool true from r5) ▸ e37
      clear r5
      clear qO qF
      go_simp
      exact hK _ _ (Below.refl _ _) rfl
    refine BOk.yes rfl [] [7] rfl 6 true rfl rfl rfl (by kernel_rfl) (by kernel_rfl) (by kernel_rfl) (fun qK qa wr hB qO qF hK => ?_) ?_
    · have e7 : qa.tmps[7]? = some (.slice (some ⟨b9, o9, none⟩) 1 c9) := qO.1.trans rfl
      clear qO qF
      go_simp
      exact hK _ _ (Below.refl _ _) rfl
    refine BOk.yes rfl [] [8] rfl 6 true rfl rfl rfl (by kernel_rfl) (by kernel_rfl) (by kernel_rfl) (fun qK qa wr hB qO qF hK => ?_) ?_
    · have e8 : qa.tmps[8]? = some (.pointer (some ⟨w1.heap.size, 0, none⟩)) := qO.1.trans rfl
      clear qO qF
      have hk0 := (bcell hB _ _ (World.block_lt_of_cell? _ _ k0)).trans k0
      have hk1 := (bcell hB _ _ (World.block_lt_of_cell? _ _ k1)).trans k1
      have hk2 := (bcell hB _ _ (World.block_lt_of_cell? _ _ k2)).trans k2
      go_simp
      exact hK _ _ (Below.refl _ _) rfl
    refine BOk.yes rfl [7, 8] [] rfl 6 true rfl rfl rfl (by kernel_rfl) (by kernel_rfl) (by kernel_rfl) (fun qK qa wr hB qO qF hK => ?_) ?_
    · obtain ⟨u39, e39, r7⟩ := qF.1
      have e39 : qa.tmps[39]? = some (.slice (some ⟨b9, o9, none⟩) 1 c9) := (show u39 = .slice (some ⟨b9, o9, none⟩) 1 c9 from r7) ▸ e39
      clear r7
      obtain ⟨u40, e40, r8⟩ := qF.2.1
      have e40 : qa.tmps[40]? = some (.agg #[.slice A1 l1.length c1, .slice A2 l2.length c2, .int .i64 cur]) := (show u40 = .agg #[.slice A1 l1.length c1, .slice A2 l2.length c2, .int .i64 cur] from r8) ▸ e40
      clear r8
      clear qO qF
      go_simp
      go_at_call 15
      refine (HPA.out _ (HW.out.trans (hB.mono HW.out.size))).mono ?_
      rintro e w2 ⟨rfl, hb2⟩
      exact hK _ _ hb2 rfl
    refine BOk.yes rfl [] [10] rfl 6 true rfl rfl rfl (by kernel_rfl) (by kernel_rfl) (by kernel_rfl) (fun qK qa wr hB qO qF hK => ?_) ?_
    · have e10 : qa.tmps[10]? = some (.pointer (some ⟨w5.heap.size, 0, none⟩)) := qO.1.trans rfl
      clear qO qF
      have hz0 := (bcell hB _ _ (World.block_lt_of_cell? _ _ z0)).trans z0
      have hz1 := (bcell hB _ _ (World.block_lt_of_cell? _ _ z1)).trans z1
      go_simp
      exact hK _ _ (Below.refl _ _) rfl
    refine BOk.yes rfl [] [] rfl 6 true rfl rfl rfl (by kernel_rfl) (by kernel_rfl) (by kernel_rfl) (fun qK qa wr hB qO qF hK => ?_) ?_
    · clear qO qF
      go_simp
      go_at_call 16
      refine (rtruth_any true _).mono ?_
      rintro e w2 ⟨rfl, hb2⟩
      exact hK _ _ hb2 rfl
    refine BOk.yes rfl [10, 11] [] rfl 6 true rfl rfl rfl (by kernel_rfl) (by kernel_rfl) (by kernel_rfl) (fun qK qa wr hB qO qF hK => ?_) ?_
    · obtain ⟨u42, e42, r10⟩ := qF.1
      have e42 : qa.tmps[42]? = some (.agg #[.int .i64 X.k, .int .u64 X.b]) := (show u42 = .agg #[.int .i64 X.k, .int .u64 X.b] from r10) ▸ e42
      clear r10
      obtain ⟨u43, e43, r11⟩ := qF.2.1
      have e43 : qa.tmps[43]? = some (.agg #[.int .i64 2, .int .u64 1]) := (show u43 = .agg #[.int .i64 2, .int .u64 1] from r11) ▸ e43
      clear r11
      clear qO qF
      go_simp
      repeat' split
      all_goals (refine hK _ _ (Below.refl _ _) ?_; show (_ : Value) = _; rw [← HY.out]; unfold isYes; first | (rename_i h1 h2; simp [h1, h2]; done) | (rename_i h1; simp [h1]; done))
    refine BOk.yes rfl [9, 12] [] rfl 6 true rfl rfl rfl (by kernel_rfl) (by kernel_rfl) (by kernel_rfl) (fun qK qa wr hB qO qF hK => ?_) ?_
    · obtain ⟨u41, e41, r9⟩ := qF.1
      have e41 : qa.tmps[41]? = some (.bool Y) := (show u41 = .bool Y from r9) ▸ e41
      clear r9
      obtain ⟨u44, e44, r12⟩ := qF.2.1
      have e44 : qa.tmps[44]? = some (.bool Y) := (show u44 = .bool Y from r12) ▸ e44
      clear r12
      clear qO qF
      go_simp
      refine hK _ _ (Below.refl _ _) ?_
      show (_ : Value) = _
      first | rfl | (simp; done) | (simp; omega)
    refine BOk.cons rfl [6, 13] [] rfl rfl (by kernel_rfl) (by kernel_rfl) (fun qK qa wr hB qO qF hK => ?_) ?_
    · obtain ⟨u38, e38, r6⟩ := qF.1
      have e38 : qa.tmps[38]? = some (.bool true) := (show u38 = .bool true from r6) ▸ e38
      clear r6
      obtain ⟨u45, e45, r13⟩ := qF.2.1
      have e45 : qa.tmps[45]? = some (.bool true) := (show u45 = .bool true from r13) ▸ e45
      clear r13
      clear qO qF
      go_simp
      refine hK _ _ (Below.refl _ _) ?_
      show (_ : Value) = _
      first | rfl | (simp; done) | (simp; omega)
    refine BOk.cons rfl [14] [] rfl rfl (by kernel_rfl) (by kernel_rfl) (fun qK qa wr hB qO qF hK => ?_) ?_
    · obtain ⟨u46, e46, r14⟩ := qF.1
      have e46 : qa.tmps[46]? = some (.bool true) := (show u46 = .bool true from r14) ▸ e46
      clear r14
      clear qO qF
      go_simp
      exact hK _ _ (Below.refl _ _) rfl
    refine BOk.yes rfl [] [7] rfl 15 true rfl rfl rfl (by kernel_rfl) (by kernel_rfl) (by kernel_rfl) (fun qK qa wr hB qO qF hK => ?_) ?_
    · have e7 : qa.tmps[7]? = some (.slice (some ⟨b9, o9, none⟩) 1 c9) := qO.1.trans rfl
      clear qO qF
      go_simp
      exact hK _ _ (Below.refl _ _) rfl
    refine BOk.yes rfl [] [3] rfl 15 true rfl rfl rfl (by kernel_rfl) (by kernel_rfl) (by kernel_rfl) (fun qK qa wr hB qO qF hK => ?_) ?_
    · have e3 : qa.tmps[3]? = some (.pointer (some ⟨W0.heap.size, 0, none⟩)) := qO.1.trans rfl
      clear qO qF
      have hn0 := (bcell hB _ _ (World.block_lt_of_cell? _ _ n0)).trans n0
      have hn1 := (bcell hB _ _ (World.block_lt_of_cell? _ _ n1)).trans n1
      have hn2 := (bcell hB _ _ (World.block_lt_of_cell? _ _ n2)).trans n2
      have hn3 := (bcell hB _ _ (World.block_lt_of_cell? _ _ n3)).trans n3
      have hn4 := (bcell hB _ _ (World.block_lt_of_cell? _ _ n4)).trans n4
      have hn5 := (bcell hB _ _ (World.block_lt_of_cell? _ _ n5)).trans n5
      have hn6 := (bcell hB _ _ (World.block_lt_of_cell? _ _ n6)).trans n6
      go_simp
      exact hK _ _ (Below.refl _ _) rfl
    refine BOk.yes rfl [17] [] rfl 15 true rfl rfl rfl (by kernel_rfl) (by kernel_rfl) (by kernel_rfl) (fun qK qa wr hB qO qF hK => ?_) ?_
    · obtain ⟨u49, e49, r17⟩ := qF.1
      have e49 : qa.tmps[49]? = some (.agg #[.int .i64 op, .int .i64 kind, .slice A args.length c, .int .i64 vk, .int .u64 vb, .int .i64 pos, .int .i64 a]) := (show u49 = .agg #[.int .i64 op, .int .i64 kind, .slice A args.length c, .int .i64 vk, .int .u64 vb, .int .i64 pos, .int .i64 a] from r17) ▸ e49
      clear r17
      clear qO qF
      refine wp_bs_node (.tmp 49) rfl (act_eval e49) ?_
      exact hK _ _ ((Below.refl _ _).alloc (Nat.le_refl _) _) ⟨_, rfl, Bk.new _ _ _⟩
    refine BOk.yes rfl [16, 18] [] rfl 15 true rfl rfl rfl (by kernel_rfl) (by kernel_rfl) (by kernel_rfl) (fun qK qa wr hB qO qF hK => ?_) ?_
    · obtain ⟨u48, e48, r16⟩ := qF.1
      have e48 : qa.tmps[48]? = some (.slice (some ⟨b9, o9, none⟩) 1 c9) := (show u48 = .slice (some ⟨b9, o9, none⟩) 1 c9 from r16) ▸ e48
      clear r16
      obtain ⟨u50, e50, r18⟩ := qF.2.1
      obtain ⟨g50, h50, k50⟩ := (show ∃ g, u50 = .slice (some ⟨g, 0, none⟩) 1 1 ∧ Bk wr g 41 #[.int .i64 op, .int .i64 kind, .slice A args.length c, .int .i64 vk, .int .u64 vb, .int .i64 pos, .int .i64 a] from r18)
      subst h50
      have e50 : qa.tmps[50]? = some (.slice (some ⟨g50, 0, none⟩) 1 1) := e50
      clear qO qF
      go_simp
      go_at_call 17
      refine (HSM.out _ g50 (HW.out.trans (hB.mono HW.out.size)) k50).mono ?_
      rintro e w2 ⟨rfl, hb2⟩
      exact hK _ _ hb2 rfl
    refine BOk.cons rfl [15, 19] [] rfl rfl (by kernel_rfl) (by kernel_rfl) (fun qK qa wr hB qO qF hK => ?_) ?_
    · obtain ⟨u47, e47, r15⟩ := qF.1
      have e47 : qa.tmps[47]? = some (.bool true) := (show u47 = .bool true from r15) ▸ e47
      clear r15
      obtain ⟨u51, e51, r19⟩ := qF.2.1
      have e51 : qa.tmps[51]? = some (.bool true) := (show u51 = .bool true from r19) ▸ e51
      clear r19
      clear qO qF
      go_simp
      refine hK _ _ (Below.refl _ _) ?_
      show (_ : Value) = _
      first | rfl | (simp; done) | (simp; omega)
    refine BOk.cons rfl [20] [] rfl rfl (by kernel_rfl) (by kernel_rfl) (fun qK qa wr hB qO qF hK => ?_) ?_
    · obtain ⟨u52, e52, r20⟩ := qF.1
      have e52 : qa.tmps[52]? = some (.bool true) := (show u52 = .bool true from r20) ▸ e52
      clear r20
      clear qO qF
      go_simp
      exact hK _ _ (Below.refl _ _) rfl
    exact BOk.nil
  intro vals wr hl hB hR
  match vals, hl with
  | [y32, y33, y34, y35, y36, y37, y38, y39, y40, y41, y42, y43, y44, y45, y46, y47, y48, y49, y50, y51, y52, y6], _ =>
  have r21 : y6 = .bool true := hR 21 _ rfl
  subst r21
  clear hR
  simp only [List.cons_append, List.nil_append, putAll, Act.put, List.setIfInBounds_toArray, List.set_cons_zero, List.set_cons_succ]
  go_wp2_with fail
  go_ret
  exact ⟨rfl, hbel.trans ((HW.out.trans (hB.mono HW.out.size)).mono hbel.size)⟩

theorem own : ownKnob Try.prog.godebug = none := by kernel_rfl
theorem laidOut : laidOutB Try.prog = true := by kernel_rfl
theorem rec0 : (Try.f5.params.toList.all fun t => Try.prog.readableRec t && decide (t < Try.prog.types.size)) = true := by kernel_rfl
set_option maxRecDepth 100000 in
theorem lifted (os : Os) (started : os.Started) (H : Type) (enc : TypeId × Value → H) (F : Stop.Interp) :
    ReturnsInHanded {} Try.checked os 5 .any ((Rows.OpenSpec.upto Rows.evalNodesSpec).pre6 enc Try.prog Try.f5 Rows.evalNodesUptoRow.domain false) (((Rows.OpenSpec.upto Rows.evalNodesSpec).at F).post enc Try.prog Try.f5 false true false false) := by
  refine law_stepB (C := Try.checked) (s := Rows.evalNodesSpec) (tb := 4) own started (by kernel_rfl) Try.func5
    (OpenSpec.witness (enc := enc) (C := Try.checked) (s := Rows.OpenSpec.upto Rows.evalNodesSpec) (k := Rows.uptoSmall) rfl false ⟨#[], #[.agg #[.int .i64 0, .int .i64 0, .slice none 0 0, .int .i64 0, .int .u64 0, .int .i64 0, .int .i64 0], .slice none 0 0, .agg #[.slice none 0 0, .int .i64 0]], []⟩ 8 (by kernel_rfl) (by kernel_rfl) (by kernel_rfl)
      (x := ([.agg [.lit (.int .i64 0), .lit (.int .i64 0), .nil, .agg [.lit (.int .i64 0), .lit (.int .u64 0)], .lit (.int .i64 0), .lit (.int .i64 0)], .nil, .agg [.nil, .lit (.int .i64 0)]], [], [])) (by kernel_rfl) rfl (by kernel_rfl)) laidOut ?_ rfl Try.underlying4 rfl ?_ ?_
  · intro t ht
    have := List.all_eq_true.1 rec0 t ht
    simp only [Bool.and_eq_true, decide_eq_true_eq] at this
    exact this
  · intro ds hd
    match ds, hd with
    | [d0, d1, d2], _ => exact ⟨rfl, rfl, rfl⟩
  intro W base args ds p hval hA hsz hbk
  rw [Try.params5] at hA hval hsz
  obtain ⟨v0, vs0, d0, ds0, p0, q0, hargs, rfl, rfl, h0, r0⟩ := trodAll_cons hA
  obtain ⟨v1, vs1, d1, ds1, p1, q1, rfl, rfl, rfl, h1, r1⟩ := trodAll_cons r0
  obtain ⟨v2, vs2, d2, ds2, p2, q2, rfl, rfl, rfl, h2, r2⟩ := trodAll_cons r1
  obtain ⟨rfl, rfl, rfl⟩ := trodAll_nil r2
  obtain rfl : args = #[v0, v1, v2] := by cases args; simp_all
  obtain ⟨D0, n0, rfl, hq0⟩ := openB_node (hval 0 41 v0 rfl rfl) h0 (weights_each (i := 0) hsz rfl rfl) (Nat.le_trans (bulk_part (by simp)) hbk)
  obtain ⟨A1, c1, l1, rfl, hc1, hl1, hr1, hq1⟩ := openB_events (hval 1 22 v1 rfl rfl) h1 (weights_each (i := 1) hsz rfl rfl) (Nat.le_trans (bulk_part (by simp)) hbk)
  obtain ⟨A2, c2, l2, cur2, rfl, hl2, hr2, hq2⟩ := openB_place (hval 2 43 v2 rfl rfl) h2 (weights_each (i := 2) hsz rfl rfl) (Nat.le_trans (bulk_part (by simp)) hbk)
  exact walk W D0 n0 hq0 A1 c1 l1 hc1 hl1 hr1 hq1 A2 c2 l2 cur2 hl2 hr2 hq2

theorem evalNodes_holds : Rows.EvalNodesUptoSaid :=
  OpenClaim.holds_of_cond 5 Try.f5 rfl rfl rfl rfl rfl rfl rfl ⟨rfl, rfl, rfl, rfl, rfl⟩ rfl rfl rfl rfl rfl (by kernel_rfl) Try.func5 (by kernel_rfl)
    (of_decide_eq_true (by kernel_rfl)) (by unfold Func.isWrapper; first | (rw [if_pos (by decide +kernel)]; kernel_rfl) | (rw [if_neg (by decide +kernel)]; exact ⟨rfl, rfl⟩))
    (fun os started H enc _ F => lifted os started H enc F)
#print axioms evalNodes_holds
end Go.Proofs.Ytomhheihhnmbcaa.evalNodes
