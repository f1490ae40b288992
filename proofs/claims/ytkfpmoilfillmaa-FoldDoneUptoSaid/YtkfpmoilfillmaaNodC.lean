/- Layer 8, the document's comparison of rows of nodes, where they are alike. No conditions. -/
import Derived.Test.YtkfpmoilfillmaaNodB
import Derived.Test.YtkfpmoilfillmaaReg
import Derived.Deep.RegionHeld3
import Derived.Deep.DeepCutAuto
namespace Go.Proofs.Ytkfpmoilfillmaa
open Go.RowKit
set_option linter.unusedVariables false
set_option linter.unusedSimpArgs false

def evSame1 (op kind vk pos a : Int) (vb c2 c3 : Nat) (A2 A3 : Option Addr) (args : List NodeV) (wq : World) : List Spec := [.is (.pointer (some ⟨wq.heap.size + 1, 0, none⟩)),
  .is (.int .i64 op),
  .is (.pointer (some ⟨wq.heap.size, 0, none⟩)),
  .is (.int .i64 op),
  .is (.bool false),
  .is (.bool false),
  .is (.pointer (some ⟨wq.heap.size + 1, 1, none⟩)),
  .is (.int .i64 kind),
  .is (.pointer (some ⟨wq.heap.size, 1, none⟩)),
  .is (.int .i64 kind),
  .is (.bool false),
  .is (.bool false),
  .is (.bool false),
  .is (.pointer (some ⟨wq.heap.size + 1, 3, none⟩)),
  .is (.agg #[.int .i64 vk, .int .u64 vb]),
  .is (.pointer (some ⟨wq.heap.size, 3, none⟩)),
  .is (.agg #[.int .i64 vk, .int .u64 vb]),
  .is (.bool false),
  .is (.bool false),
  .is (.bool false),
  .is (.pointer (some ⟨wq.heap.size + 1, 5, none⟩)),
  .is (.int .i64 pos),
  .is (.pointer (some ⟨wq.heap.size, 5, none⟩)),
  .is (.int .i64 pos),
  .is (.bool false),
  .is (.bool false),
  .is (.bool false),
  .is (.pointer (some ⟨wq.heap.size + 1, 6, none⟩)),
  .is (.int .i64 a),
  .is (.pointer (some ⟨wq.heap.size, 6, none⟩)),
  .is (.int .i64 a),
  .is (.bool false),
  .is (.bool false),
  .is (.bool false),
  .is (.pointer (some ⟨wq.heap.size + 1, 2, none⟩)),
  .is (.slice A2 args.length c2),
  .is (.pointer (some ⟨wq.heap.size, 2, none⟩)),
  .is (.slice A3 args.length c3),
  .is (.bool true),
  .is (.bool false),
  .is (.bool false)]
def evSame2 (op kind vk pos a : Int) (vb c2 c3 : Nat) (A2 A3 : Option Addr) (args : List NodeV) (wq : World) : List Spec := [.is (.pointer (some ⟨wq.heap.size, 0, none⟩)),
  .is (.int .i64 op),
  .is (.pointer (some ⟨wq.heap.size + 1, 0, none⟩)),
  .is (.int .i64 op),
  .is (.bool false),
  .is (.bool false),
  .is (.pointer (some ⟨wq.heap.size, 1, none⟩)),
  .is (.int .i64 kind),
  .is (.pointer (some ⟨wq.heap.size + 1, 1, none⟩)),
  .is (.int .i64 kind),
  .is (.bool false),
  .is (.bool false),
  .is (.bool false),
  .is (.pointer (some ⟨wq.heap.size, 3, none⟩)),
  .is (.agg #[.int .i64 vk, .int .u64 vb]),
  .is (.pointer (some ⟨wq.heap.size + 1, 3, none⟩)),
  .is (.agg #[.int .i64 vk, .int .u64 vb]),
  .is (.bool false),
  .is (.bool false),
  .is (.bool false),
  .is (.pointer (some ⟨wq.heap.size, 5, none⟩)),
  .is (.int .i64 pos),
  .is (.pointer (some ⟨wq.heap.size + 1, 5, none⟩)),
  .is (.int .i64 pos),
  .is (.bool false),
  .is (.bool false),
  .is (.bool false),
  .is (.pointer (some ⟨wq.heap.size, 6, none⟩)),
  .is (.int .i64 a),
  .is (.pointer (some ⟨wq.heap.size + 1, 6, none⟩)),
  .is (.int .i64 a),
  .is (.bool false),
  .is (.bool false),
  .is (.bool false),
  .is (.pointer (some ⟨wq.heap.size, 2, none⟩)),
  .is (.slice A2 args.length c2),
  .is (.pointer (some ⟨wq.heap.size + 1, 2, none⟩)),
  .is (.slice A3 args.length c3),
  .is (.bool true),
  .is (.bool false),
  .is (.bool false)]

set_option maxRecDepth 100000 in
set_option maxHeartbeats 1000000 in
theorem same_step (d : Nat) (ih : ∀ d', d' + 1 = d → ∀ (l l' : List NodeV) (A A' : Option Addr) (c c' : Nat) (w : World), (∀ x ∈ l, okN d' x w w.heap.size) → (∀ x ∈ l', okN d' x w w.heap.size) → Rd w w.heap.size A (l.flatMap NodeV.cells) → Rd w w.heap.size A' (l'.flatMap NodeV.cells) → l.length ≤ 1048576 → l'.length = l.length →
      (∀ (i : Nat) (x y : NodeV), l[i]? = some x → l'[i]? = some y → simN d' x y) → Calls Try.prog 16 #[.slice A l.length c, .slice A' l.length c'] w fun e w' => e = .returned (.bool true) ∧ Below w.heap.size w w')
    (l l' : List NodeV) (A A' : Option Addr) (c c' : Nat) (w : World) (h1 : ∀ x ∈ l, okN d x w w.heap.size) (h2 : ∀ x ∈ l', okN d x w w.heap.size) (hr1 : Rd w w.heap.size A (l.flatMap NodeV.cells)) (hr2 : Rd w w.heap.size A' (l'.flatMap NodeV.cells)) (hl : l.length ≤ 1048576) (hll : l'.length = l.length)
    (hsim : ∀ (i : Nat) (x y : NodeV), l[i]? = some x → l'[i]? = some y → simN d x y) : Calls Try.prog 16 #[.slice A l.length c, .slice A' l.length c'] w fun e w' => e = .returned (.bool true) ∧ Below w.heap.size w w' := by
  have H1 := Lib.hid h1
  have H2 := Lib.hid h2
  have HR1 := Lib.hid hr1
  have HR2 := Lib.hid hr2
  have HI := Lib.hid ih
  have HS := Lib.hid hsim
  have HL := Lib.hid hll
  clear h1 h2 hr1 hr2 ih hsim hll
  go_enter Try.func16, Try.ntmps16
  go_wp2_with fail
  go_loopw [15] (fun i wr => ∃ (k : Nat), k ≤ l.length ∧ i = .int .i64 k ∧ Below w.heap.size w wr) (fun i _ => l.length - (intOf i).toNat)
  case atStart => exact ⟨0, Nat.zero_le _, rfl, Below.refl _ _⟩
  case round =>
    obtain ⟨wq, hwq⟩ : ∃ wq, wq = wr := ⟨_, rfl⟩
    subst hwq
    obtain ⟨k, hk, rfl, hbel⟩ := hrel
    by_cases hlt : k < l.length
    · as_aux_lemma =>
      have hlt' : k < l'.length := by rw [HL.out]; exact hlt
      obtain ⟨b, o, rfl, hb, hc⟩ := (HR1.out.below hbel).elem (f := NodeV.cells) (n := 7) NodeV.len (by omega) hlt
      obtain ⟨b2, o2, rfl, hb2, hd⟩ := (HR2.out.below hbel).elem (f := NodeV.cells) (n := 7) NodeV.len (by omega) hlt'
      have hx := H1.out l[k] (by simp)
      have hy := H2.out l'[k] (by simp)
      have hs := HS.out k _ _ (List.getElem?_eq_getElem hlt) (List.getElem?_eq_getElem hlt')
      generalize l[k] = x at *
      generalize l'[k] = y at *
      obtain ⟨op, kind, A2, c2, args, vk, vb, pos, a⟩ := x
      obtain ⟨op', kind', A3, c3, args', vk', vb', pos', a'⟩ := y
      obtain ⟨d', rfl⟩ : ∃ d', d = d' + 1 := by
        cases d with
        | zero => exact hx.elim
        | succ d' => exact ⟨d', rfl⟩
      obtain ⟨rfl, rfl, rfl, rfl, rfl, rfl, hal, hsx⟩ := hs
      have hc0 : wq.cell? ⟨b, o + k * 7, none⟩ = some (.int .i64 op) := hc 0 _ rfl
      have hc1 : wq.cell? ⟨b, o + k * 7 + 1, none⟩ = some (.int .i64 kind) := hc 1 _ rfl
      have hc2 : wq.cell? ⟨b, o + k * 7 + 2, none⟩ = some (.slice A2 args.length c2) := hc 2 _ rfl
      have hc3 : wq.cell? ⟨b, o + k * 7 + 3, none⟩ = some (.int .i64 vk) := hc 3 _ rfl
      have hc4 : wq.cell? ⟨b, o + k * 7 + 4, none⟩ = some (.int .u64 vb) := hc 4 _ rfl
      have hc5 : wq.cell? ⟨b, o + k * 7 + 5, none⟩ = some (.int .i64 pos) := hc 5 _ rfl
      have hc6 : wq.cell? ⟨b, o + k * 7 + 6, none⟩ = some (.int .i64 a) := hc 6 _ rfl
      have hd0 : wq.cell? ⟨b2, o2 + k * 7, none⟩ = some (.int .i64 op) := hd 0 _ rfl
      have hd1 : wq.cell? ⟨b2, o2 + k * 7 + 1, none⟩ = some (.int .i64 kind) := hd 1 _ rfl
      have hd2 : wq.cell? ⟨b2, o2 + k * 7 + 2, none⟩ = some (.slice A3 args.length c3) := by rw [hal]; exact hd 2 _ rfl
      have hd3 : wq.cell? ⟨b2, o2 + k * 7 + 3, none⟩ = some (.int .i64 vk) := hd 3 _ rfl
      have hd4 : wq.cell? ⟨b2, o2 + k * 7 + 4, none⟩ = some (.int .u64 vb) := hd 4 _ rfl
      have hd5 : wq.cell? ⟨b2, o2 + k * 7 + 5, none⟩ = some (.int .i64 pos) := hd 5 _ rfl
      have hd6 : wq.cell? ⟨b2, o2 + k * 7 + 6, none⟩ = some (.int .i64 a) := hd 6 _ rfl
      have hrec : ∀ w', Below w.heap.size w w' → Calls Try.prog 16 #[.slice A2 args.length c2, .slice A3 args.length c3] w' fun e w'' => e = .returned (.bool true) ∧ Below w'.heap.size w' w'' := fun w' hw =>
        HI.out d' rfl args args' A2 A3 c2 c3 w' (okN.old hx hw).2.2.2 (okN.old hy hw).2.2.2 (okN.old hx hw).1 (okN.old hy hw).1 hx.2.1 hal.symm hsx
      have HREC := Lib.hid hrec
      clear hc hd hx hy hsx hal hrec HI H1 H2 HR1 HR2 HS HL
      have hz := hbel.size
      have n0 := World.new_ne wq _ hc0
      have m0 := World.new_ne wq _ hd0
      have n1 := World.new_ne wq _ hc1
      have m1 := World.new_ne wq _ hd1
      have n2 := World.new_ne wq _ hc2
      have m2 := World.new_ne wq _ hd2
      have n3 := World.new_ne wq _ hc3
      have m3 := World.new_ne wq _ hd3
      have n4 := World.new_ne wq _ hc4
      have m4 := World.new_ne wq _ hd4
      have n5 := World.new_ne wq _ hc5
      have m5 := World.new_ne wq _ hd5
      have n6 := World.new_ne wq _ hc6
      have m6 := World.new_ne wq _ hd6
      go_wp2_with fail
      go_region_held3 (fun w' => w'.cell? ⟨b, o + k * 7, none⟩ = some (.int .i64 op) ∧ w'.cell? ⟨b, o + k * 7 + 1, none⟩ = some (.int .i64 kind) ∧ w'.cell? ⟨b, o + k * 7 + 2, none⟩ = some (.slice A2 args.length c2) ∧ w'.cell? ⟨b, o + k * 7 + 3, none⟩ = some (.int .i64 vk) ∧ w'.cell? ⟨b, o + k * 7 + 4, none⟩ = some (.int .u64 vb) ∧ w'.cell? ⟨b, o + k * 7 + 5, none⟩ = some (.int .i64 pos) ∧ w'.cell? ⟨b, o + k * 7 + 6, none⟩ = some (.int .i64 a) ∧ w'.cell? ⟨b2, o2 + k * 7, none⟩ = some (.int .i64 op) ∧ w'.cell? ⟨b2, o2 + k * 7 + 1, none⟩ = some (.int .i64 kind) ∧ w'.cell? ⟨b2, o2 + k * 7 + 2, none⟩ = some (.slice A3 args.length c3) ∧ w'.cell? ⟨b2, o2 + k * 7 + 3, none⟩ = some (.int .i64 vk) ∧ w'.cell? ⟨b2, o2 + k * 7 + 4, none⟩ = some (.int .u64 vb) ∧ w'.cell? ⟨b2, o2 + k * 7 + 5, none⟩ = some (.int .i64 pos) ∧ w'.cell? ⟨b2, o2 + k * 7 + 6, none⟩ = some (.int .i64 a)) (go_keep) (fail)
      · as_aux_lemma =>
        have kx : Bk (((wq.alloc (.cells #[.int .i64 op, .int .i64 kind, .slice A2 args.length c2, .int .i64 vk, .int .u64 vb, .int .i64 pos, .int .i64 a] 27)).alloc (.cells #[.int .i64 op, .int .i64 kind, .slice A3 args.length c3, .int .i64 vk, .int .u64 vb, .int .i64 pos, .int .i64 a] 27)).drew) (wq.heap.size) 27 #[.int .i64 op, .int .i64 kind, .slice A2 args.length c2, .int .i64 vk, .int .u64 vb, .int .i64 pos, .int .i64 a] := (Bk.new wq 27 #[.int .i64 op, .int .i64 kind, .slice A2 args.length c2, .int .i64 vk, .int .u64 vb, .int .i64 pos, .int .i64 a]).alloc (.cells #[.int .i64 op, .int .i64 kind, .slice A3 args.length c3, .int .i64 vk, .int .u64 vb, .int .i64 pos, .int .i64 a] 27)
        have ky : Bk (((wq.alloc (.cells #[.int .i64 op, .int .i64 kind, .slice A2 args.length c2, .int .i64 vk, .int .u64 vb, .int .i64 pos, .int .i64 a] 27)).alloc (.cells #[.int .i64 op, .int .i64 kind, .slice A3 args.length c3, .int .i64 vk, .int .u64 vb, .int .i64 pos, .int .i64 a] 27)).drew) (wq.heap.size + 1) 27 #[.int .i64 op, .int .i64 kind, .slice A3 args.length c3, .int .i64 vk, .int .u64 vb, .int .i64 pos, .int .i64 a] := Bk.newAt (w := wq.alloc (.cells #[.int .i64 op, .int .i64 kind, .slice A2 args.length c2, .int .i64 vk, .int .u64 vb, .int .i64 pos, .int .i64 a] 27)) (g := wq.heap.size + 1) (by simp) 27 #[.int .i64 op, .int .i64 kind, .slice A3 args.length c3, .int .i64 vk, .int .u64 vb, .int .i64 pos, .int .i64 a]
        have x0 := kx.cell 0
        have y0 := ky.cell 0
        have x1 := kx.cell 1
        have y1 := ky.cell 1
        have x2 := kx.cell 2
        have y2 := ky.cell 2
        have x3 := kx.cell 3
        have y3 := ky.cell 3
        have x4 := kx.cell 4
        have y4 := ky.cell 4
        have x5 := kx.cell 5
        have y5 := ky.cell 5
        have x6 := kx.cell 6
        have y6 := ky.cell 6
        have HW : Hid (Below w.heap.size w (((wq.alloc (.cells #[.int .i64 op, .int .i64 kind, .slice A2 args.length c2, .int .i64 vk, .int .u64 vb, .int .i64 pos, .int .i64 a] 27)).alloc (.cells #[.int .i64 op, .int .i64 kind, .slice A3 args.length c3, .int .i64 vk, .int .u64 vb, .int .i64 pos, .int .i64 a] 27)).drew)) := Lib.hid ((hbel.alloc hbel.size _).alloc (by simp; omega) _).drew
        clear kx ky n0 m0 hc0 hd0 n1 m1 hc1 hd1 n2 m2 hc2 hd2 n3 m3 hc3 hd3 n4 m4 hc4 hd4 n5 m5 hc5 hd5 n6 m6 hc6 hd6
        go_upto_region 7 with fail
        refine wp_region_s (fun qk => (evSame2 op kind vk pos a vb c2 c3 A2 A3 args wq).getD qk .any) (by kernel_rfl) ?_ ?_
        · refine BOk.cons rfl [] [6] rfl rfl (by kernel_rfl) (by kernel_rfl) (fun qK qa wr hB qO qF hK => ?_) ?_
          · have e6 : qa.tmps[6]? = some (.pointer (some ⟨wq.heap.size, 0, none⟩)) := qO.1.trans rfl
            clear qO qF
            go_simp
            exact hK _ _ (Below.refl _ _) rfl
          refine BOk.cons rfl [0] [] rfl rfl (by kernel_rfl) (by kernel_rfl) (fun qK qa wr hB qO qF hK => ?_) ?_
          · obtain ⟨u26, e26, r0⟩ := qF.1
            have e26 : qa.tmps[26]? = some (.pointer (some ⟨wq.heap.size, 0, none⟩)) := (show u26 = .pointer (some ⟨wq.heap.size, 0, none⟩) from r0) ▸ e26
            clear r0
            clear qO qF
            have hx0 := (bcell hB _ _ (World.block_lt_of_cell? _ _ x0)).trans x0
            go_simp
            exact hK _ _ (Below.refl _ _) rfl
          refine BOk.cons rfl [] [7] rfl rfl (by kernel_rfl) (by kernel_rfl) (fun qK qa wr hB qO qF hK => ?_) ?_
          · have e7 : qa.tmps[7]? = some (.pointer (some ⟨wq.heap.size + 1, 0, none⟩)) := qO.1.trans rfl
            clear qO qF
            go_simp
            exact hK _ _ (Below.refl _ _) rfl
          refine BOk.cons rfl [2] [] rfl rfl (by kernel_rfl) (by kernel_rfl) (fun qK qa wr hB qO qF hK => ?_) ?_
          · obtain ⟨u28, e28, r2⟩ := qF.1
            have e28 : qa.tmps[28]? = some (.pointer (some ⟨wq.heap.size + 1, 0, none⟩)) := (show u28 = .pointer (some ⟨wq.heap.size + 1, 0, none⟩) from r2) ▸ e28
            clear r2
            clear qO qF
            have hy0 := (bcell hB _ _ (World.block_lt_of_cell? _ _ y0)).trans y0
            go_simp
            exact hK _ _ (Below.refl _ _) rfl
          refine BOk.cons rfl [1, 3] [] rfl rfl (by kernel_rfl) (by kernel_rfl) (fun qK qa wr hB qO qF hK => ?_) ?_
          · obtain ⟨u27, e27, r1⟩ := qF.1
            have e27 : qa.tmps[27]? = some (.int .i64 op) := (show u27 = .int .i64 op from r1) ▸ e27
            clear r1
            obtain ⟨u29, e29, r3⟩ := qF.2.1
            have e29 : qa.tmps[29]? = some (.int .i64 op) := (show u29 = .int .i64 op from r3) ▸ e29
            clear r3
            clear qO qF
            go_simp
            refine hK _ _ (Below.refl _ _) ?_
            show (_ : Value) = _
            first | rfl | (simp; done) | (simp; omega)
          refine BOk.cons rfl [4] [] rfl rfl (by kernel_rfl) (by kernel_rfl) (fun qK qa wr hB qO qF hK => ?_) ?_
          · obtain ⟨u30, e30, r4⟩ := qF.1
            have e30 : qa.tmps[30]? = some (.bool false) := (show u30 = .bool false from r4) ▸ e30
            clear r4
            clear qO qF
            go_simp
            exact hK _ _ (Below.refl _ _) rfl
          refine BOk.yes rfl [] [6] rfl 5 false rfl rfl rfl (by kernel_rfl) (by kernel_rfl) (by kernel_rfl) (fun qK qa wr hB qO qF hK => ?_) ?_
          · have e6 : qa.tmps[6]? = some (.pointer (some ⟨wq.heap.size, 0, none⟩)) := qO.1.trans rfl
            clear qO qF
            go_simp
            exact hK _ _ (Below.refl _ _) rfl
          refine BOk.yes rfl [6] [] rfl 5 false rfl rfl rfl (by kernel_rfl) (by kernel_rfl) (by kernel_rfl) (fun qK qa wr hB qO qF hK => ?_) ?_
          · obtain ⟨u32, e32, r6⟩ := qF.1
            have e32 : qa.tmps[32]? = some (.pointer (some ⟨wq.heap.size, 1, none⟩)) := (show u32 = .pointer (some ⟨wq.heap.size, 1, none⟩) from r6) ▸ e32
            clear r6
            clear qO qF
            have hx1 := (bcell hB _ _ (World.block_lt_of_cell? _ _ x1)).trans x1
            go_simp
            exact hK _ _ (Below.refl _ _) rfl
          refine BOk.yes rfl [] [7] rfl 5 false rfl rfl rfl (by kernel_rfl) (by kernel_rfl) (by kernel_rfl) (fun qK qa wr hB qO qF hK => ?_) ?_
          · have e7 : qa.tmps[7]? = some (.pointer (some ⟨wq.heap.size + 1, 0, none⟩)) := qO.1.trans rfl
            clear qO qF
            go_simp
            exact hK _ _ (Below.refl _ _) rfl
          refine BOk.yes rfl [8] [] rfl 5 false rfl rfl rfl (by kernel_rfl) (by kernel_rfl) (by kernel_rfl) (fun qK qa wr hB qO qF hK => ?_) ?_
          · obtain ⟨u34, e34, r8⟩ := qF.1
            have e34 : qa.tmps[34]? = some (.pointer (some ⟨wq.heap.size + 1, 1, none⟩)) := (show u34 = .pointer (some ⟨wq.heap.size + 1, 1, none⟩) from r8) ▸ e34
            clear r8
            clear qO qF
            have hy1 := (bcell hB _ _ (World.block_lt_of_cell? _ _ y1)).trans y1
            go_simp
            exact hK _ _ (Below.refl _ _) rfl
          refine BOk.yes rfl [7, 9] [] rfl 5 false rfl rfl rfl (by kernel_rfl) (by kernel_rfl) (by kernel_rfl) (fun qK qa wr hB qO qF hK => ?_) ?_
          · obtain ⟨u33, e33, r7⟩ := qF.1
            have e33 : qa.tmps[33]? = some (.int .i64 kind) := (show u33 = .int .i64 kind from r7) ▸ e33
            clear r7
            obtain ⟨u35, e35, r9⟩ := qF.2.1
            have e35 : qa.tmps[35]? = some (.int .i64 kind) := (show u35 = .int .i64 kind from r9) ▸ e35
            clear r9
            clear qO qF
            go_simp
            refine hK _ _ (Below.refl _ _) ?_
            show (_ : Value) = _
            first | rfl | (simp; done) | (simp; omega)
          refine BOk.cons rfl [5, 10] [] rfl rfl (by kernel_rfl) (by kernel_rfl) (fun qK qa wr hB qO qF hK => ?_) ?_
          · obtain ⟨u31, e31, r5⟩ := qF.1
            have e31 : qa.tmps[31]? = some (.bool false) := (show u31 = .bool false from r5) ▸ e31
            clear r5
            obtain ⟨u36, e36, r10⟩ := qF.2.1
            have e36 : qa.tmps[36]? = some (.bool false) := (show u36 = .bool false from r10) ▸ e36
            clear r10
            clear qO qF
            go_simp
            refine hK _ _ (Below.refl _ _) ?_
            show (_ : Value) = _
            first | rfl | (simp; done) | (simp; omega)
          refine BOk.cons rfl [11] [] rfl rfl (by kernel_rfl) (by kernel_rfl) (fun qK qa wr hB qO qF hK => ?_) ?_
          · obtain ⟨u37, e37, r11⟩ := qF.1
            have e37 : qa.tmps[37]? = some (.bool false) := (show u37 = .bool false from r11) ▸ e37
            clear r11
            clear qO qF
            go_simp
            exact hK _ _ (Below.refl _ _) rfl
          refine BOk.yes rfl [] [6] rfl 12 false rfl rfl rfl (by kernel_rfl) (by kernel_rfl) (by kernel_rfl) (fun qK qa wr hB qO qF hK => ?_) ?_
          · have e6 : qa.tmps[6]? = some (.pointer (some ⟨wq.heap.size, 0, none⟩)) := qO.1.trans rfl
            clear qO qF
            go_simp
            exact hK _ _ (Below.refl _ _) rfl
          refine BOk.yes rfl [13] [] rfl 12 false rfl rfl rfl (by kernel_rfl) (by kernel_rfl) (by kernel_rfl) (fun qK qa wr hB qO qF hK => ?_) ?_
          · obtain ⟨u39, e39, r13⟩ := qF.1
            have e39 : qa.tmps[39]? = some (.pointer (some ⟨wq.heap.size, 3, none⟩)) := (show u39 = .pointer (some ⟨wq.heap.size, 3, none⟩) from r13) ▸ e39
            clear r13
            clear qO qF
            have hx3 := (bcell hB _ _ (World.block_lt_of_cell? _ _ x3)).trans x3
            have hx4 := (bcell hB _ _ (World.block_lt_of_cell? _ _ x4)).trans x4
            go_simp
            exact hK _ _ (Below.refl _ _) rfl
          refine BOk.yes rfl [] [7] rfl 12 false rfl rfl rfl (by kernel_rfl) (by kernel_rfl) (by kernel_rfl) (fun qK qa wr hB qO qF hK => ?_) ?_
          · have e7 : qa.tmps[7]? = some (.pointer (some ⟨wq.heap.size + 1, 0, none⟩)) := qO.1.trans rfl
            clear qO qF
            go_simp
            exact hK _ _ (Below.refl _ _) rfl
          refine BOk.yes rfl [15] [] rfl 12 false rfl rfl rfl (by kernel_rfl) (by kernel_rfl) (by kernel_rfl) (fun qK qa wr hB qO qF hK => ?_) ?_
          · obtain ⟨u41, e41, r15⟩ := qF.1
            have e41 : qa.tmps[41]? = some (.pointer (some ⟨wq.heap.size + 1, 3, none⟩)) := (show u41 = .pointer (some ⟨wq.heap.size + 1, 3, none⟩) from r15) ▸ e41
            clear r15
            clear qO qF
            have hy3 := (bcell hB _ _ (World.block_lt_of_cell? _ _ y3)).trans y3
            have hy4 := (bcell hB _ _ (World.block_lt_of_cell? _ _ y4)).trans y4
            go_simp
            exact hK _ _ (Below.refl _ _) rfl
          refine BOk.yes rfl [14, 16] [] rfl 12 false rfl rfl rfl (by kernel_rfl) (by kernel_rfl) (by kernel_rfl) (fun qK qa wr hB qO qF hK => ?_) ?_
          · obtain ⟨u40, e40, r14⟩ := qF.1
            have e40 : qa.tmps[40]? = some (.agg #[.int .i64 vk, .int .u64 vb]) := (show u40 = .agg #[.int .i64 vk, .int .u64 vb] from r14) ▸ e40
            clear r14
            obtain ⟨u42, e42, r16⟩ := qF.2.1
            have e42 : qa.tmps[42]? = some (.agg #[.int .i64 vk, .int .u64 vb]) := (show u42 = .agg #[.int .i64 vk, .int .u64 vb] from r16) ▸ e42
            clear r16
            clear qO qF
            go_simp
            refine hK _ _ (Below.refl _ _) ?_
            show (_ : Value) = _
            first | rfl | (simp; done) | (simp; omega)
          refine BOk.cons rfl [12, 17] [] rfl rfl (by kernel_rfl) (by kernel_rfl) (fun qK qa wr hB qO qF hK => ?_) ?_
          · obtain ⟨u38, e38, r12⟩ := qF.1
            have e38 : qa.tmps[38]? = some (.bool false) := (show u38 = .bool false from r12) ▸ e38
            clear r12
            obtain ⟨u43, e43, r17⟩ := qF.2.1
            have e43 : qa.tmps[43]? = some (.bool false) := (show u43 = .bool false from r17) ▸ e43
            clear r17
            clear qO qF
            go_simp
            refine hK _ _ (Below.refl _ _) ?_
            show (_ : Value) = _
            first | rfl | (simp; done) | (simp; omega)
          refine BOk.cons rfl [18] [] rfl rfl (by kernel_rfl) (by kernel_rfl) (fun qK qa wr hB qO qF hK => ?_) ?_
          · obtain ⟨u44, e44, r18⟩ := qF.1
            have e44 : qa.tmps[44]? = some (.bool false) := (show u44 = .bool false from r18) ▸ e44
            clear r18
            clear qO qF
            go_simp
            exact hK _ _ (Below.refl _ _) rfl
          refine BOk.yes rfl [] [6] rfl 19 false rfl rfl rfl (by kernel_rfl) (by kernel_rfl) (by kernel_rfl) (fun qK qa wr hB qO qF hK => ?_) ?_
          · have e6 : qa.tmps[6]? = some (.pointer (some ⟨wq.heap.size, 0, none⟩)) := qO.1.trans rfl
            clear qO qF
            go_simp
            exact hK _ _ (Below.refl _ _) rfl
          refine BOk.yes rfl [20] [] rfl 19 false rfl rfl rfl (by kernel_rfl) (by kernel_rfl) (by kernel_rfl) (fun qK qa wr hB qO qF hK => ?_) ?_
          · obtain ⟨u46, e46, r20⟩ := qF.1
            have e46 : qa.tmps[46]? = some (.pointer (some ⟨wq.heap.size, 5, none⟩)) := (show u46 = .pointer (some ⟨wq.heap.size, 5, none⟩) from r20) ▸ e46
            clear r20
            clear qO qF
            have hx5 := (bcell hB _ _ (World.block_lt_of_cell? _ _ x5)).trans x5
            go_simp
            exact hK _ _ (Below.refl _ _) rfl
          refine BOk.yes rfl [] [7] rfl 19 false rfl rfl rfl (by kernel_rfl) (by kernel_rfl) (by kernel_rfl) (fun qK qa wr hB qO qF hK => ?_) ?_
          · have e7 : qa.tmps[7]? = some (.pointer (some ⟨wq.heap.size + 1, 0, none⟩)) := qO.1.trans rfl
            clear qO qF
            go_simp
            exact hK _ _ (Below.refl _ _) rfl
          refine BOk.yes rfl [22] [] rfl 19 false rfl rfl rfl (by kernel_rfl) (by kernel_rfl) (by kernel_rfl) (fun qK qa wr hB qO qF hK => ?_) ?_
          · obtain ⟨u48, e48, r22⟩ := qF.1
            have e48 : qa.tmps[48]? = some (.pointer (some ⟨wq.heap.size + 1, 5, none⟩)) := (show u48 = .pointer (some ⟨wq.heap.size + 1, 5, none⟩) from r22) ▸ e48
            clear r22
            clear qO qF
            have hy5 := (bcell hB _ _ (World.block_lt_of_cell? _ _ y5)).trans y5
            go_simp
            exact hK _ _ (Below.refl _ _) rfl
          refine BOk.yes rfl [21, 23] [] rfl 19 false rfl rfl rfl (by kernel_rfl) (by kernel_rfl) (by kernel_rfl) (fun qK qa wr hB qO qF hK => ?_) ?_
          · obtain ⟨u47, e47, r21⟩ := qF.1
            have e47 : qa.tmps[47]? = some (.int .i64 pos) := (show u47 = .int .i64 pos from r21) ▸ e47
            clear r21
            obtain ⟨u49, e49, r23⟩ := qF.2.1
            have e49 : qa.tmps[49]? = some (.int .i64 pos) := (show u49 = .int .i64 pos from r23) ▸ e49
            clear r23
            clear qO qF
            go_simp
            refine hK _ _ (Below.refl _ _) ?_
            show (_ : Value) = _
            first | rfl | (simp; done) | (simp; omega)
          refine BOk.cons rfl [19, 24] [] rfl rfl (by kernel_rfl) (by kernel_rfl) (fun qK qa wr hB qO qF hK => ?_) ?_
          · obtain ⟨u45, e45, r19⟩ := qF.1
            have e45 : qa.tmps[45]? = some (.bool false) := (show u45 = .bool false from r19) ▸ e45
            clear r19
            obtain ⟨u50, e50, r24⟩ := qF.2.1
            have e50 : qa.tmps[50]? = some (.bool false) := (show u50 = .bool false from r24) ▸ e50
            clear r24
            clear qO qF
            go_simp
            refine hK _ _ (Below.refl _ _) ?_
            show (_ : Value) = _
            first | rfl | (simp; done) | (simp; omega)
          refine BOk.cons rfl [25] [] rfl rfl (by kernel_rfl) (by kernel_rfl) (fun qK qa wr hB qO qF hK => ?_) ?_
          · obtain ⟨u51, e51, r25⟩ := qF.1
            have e51 : qa.tmps[51]? = some (.bool false) := (show u51 = .bool false from r25) ▸ e51
            clear r25
            clear qO qF
            go_simp
            exact hK _ _ (Below.refl _ _) rfl
          refine BOk.yes rfl [] [6] rfl 26 false rfl rfl rfl (by kernel_rfl) (by kernel_rfl) (by kernel_rfl) (fun qK qa wr hB qO qF hK => ?_) ?_
          · have e6 : qa.tmps[6]? = some (.pointer (some ⟨wq.heap.size, 0, none⟩)) := qO.1.trans rfl
            clear qO qF
            go_simp
            exact hK _ _ (Below.refl _ _) rfl
          refine BOk.yes rfl [27] [] rfl 26 false rfl rfl rfl (by kernel_rfl) (by kernel_rfl) (by kernel_rfl) (fun qK qa wr hB qO qF hK => ?_) ?_
          · obtain ⟨u53, e53, r27⟩ := qF.1
            have e53 : qa.tmps[53]? = some (.pointer (some ⟨wq.heap.size, 6, none⟩)) := (show u53 = .pointer (some ⟨wq.heap.size, 6, none⟩) from r27) ▸ e53
            clear r27
            clear qO qF
            have hx6 := (bcell hB _ _ (World.block_lt_of_cell? _ _ x6)).trans x6
            go_simp
            exact hK _ _ (Below.refl _ _) rfl
          refine BOk.yes rfl [] [7] rfl 26 false rfl rfl rfl (by kernel_rfl) (by kernel_rfl) (by kernel_rfl) (fun qK qa wr hB qO qF hK => ?_) ?_
          · have e7 : qa.tmps[7]? = some (.pointer (some ⟨wq.heap.size + 1, 0, none⟩)) := qO.1.trans rfl
            clear qO qF
            go_simp
            exact hK _ _ (Below.refl _ _) rfl
          refine BOk.yes rfl [29] [] rfl 26 false rfl rfl rfl (by kernel_rfl) (by kernel_rfl) (by kernel_rfl) (fun qK qa wr hB qO qF hK => ?_) ?_
          · obtain ⟨u55, e55, r29⟩ := qF.1
            have e55 : qa.tmps[55]? = some (.pointer (some ⟨wq.heap.size + 1, 6, none⟩)) := (show u55 = .pointer (some ⟨wq.heap.size + 1, 6, none⟩) from r29) ▸ e55
            clear r29
            clear qO qF
            have hy6 := (bcell hB _ _ (World.block_lt_of_cell? _ _ y6)).trans y6
            go_simp
            exact hK _ _ (Below.refl _ _) rfl
          refine BOk.yes rfl [28, 30] [] rfl 26 false rfl rfl rfl (by kernel_rfl) (by kernel_rfl) (by kernel_rfl) (fun qK qa wr hB qO qF hK => ?_) ?_
          · obtain ⟨u54, e54, r28⟩ := qF.1
            have e54 : qa.tmps[54]? = some (.int .i64 a) := (show u54 = .int .i64 a from r28) ▸ e54
            clear r28
            obtain ⟨u56, e56, r30⟩ := qF.2.1
            have e56 : qa.tmps[56]? = some (.int .i64 a) := (show u56 = .int .i64 a from r30) ▸ e56
            clear r30
            clear qO qF
            go_simp
            refine hK _ _ (Below.refl _ _) ?_
            show (_ : Value) = _
            first | rfl | (simp; done) | (simp; omega)
          refine BOk.cons rfl [26, 31] [] rfl rfl (by kernel_rfl) (by kernel_rfl) (fun qK qa wr hB qO qF hK => ?_) ?_
          · obtain ⟨u52, e52, r26⟩ := qF.1
            have e52 : qa.tmps[52]? = some (.bool false) := (show u52 = .bool false from r26) ▸ e52
            clear r26
            obtain ⟨u57, e57, r31⟩ := qF.2.1
            have e57 : qa.tmps[57]? = some (.bool false) := (show u57 = .bool false from r31) ▸ e57
            clear r31
            clear qO qF
            go_simp
            refine hK _ _ (Below.refl _ _) ?_
            show (_ : Value) = _
            first | rfl | (simp; done) | (simp; omega)
          refine BOk.cons rfl [32] [] rfl rfl (by kernel_rfl) (by kernel_rfl) (fun qK qa wr hB qO qF hK => ?_) ?_
          · obtain ⟨u58, e58, r32⟩ := qF.1
            have e58 : qa.tmps[58]? = some (.bool false) := (show u58 = .bool false from r32) ▸ e58
            clear r32
            clear qO qF
            go_simp
            exact hK _ _ (Below.refl _ _) rfl
          refine BOk.yes rfl [] [6] rfl 33 false rfl rfl rfl (by kernel_rfl) (by kernel_rfl) (by kernel_rfl) (fun qK qa wr hB qO qF hK => ?_) ?_
          · have e6 : qa.tmps[6]? = some (.pointer (some ⟨wq.heap.size, 0, none⟩)) := qO.1.trans rfl
            clear qO qF
            go_simp
            exact hK _ _ (Below.refl _ _) rfl
          refine BOk.yes rfl [34] [] rfl 33 false rfl rfl rfl (by kernel_rfl) (by kernel_rfl) (by kernel_rfl) (fun qK qa wr hB qO qF hK => ?_) ?_
          · obtain ⟨u60, e60, r34⟩ := qF.1
            have e60 : qa.tmps[60]? = some (.pointer (some ⟨wq.heap.size, 2, none⟩)) := (show u60 = .pointer (some ⟨wq.heap.size, 2, none⟩) from r34) ▸ e60
            clear r34
            clear qO qF
            have hx2 := (bcell hB _ _ (World.block_lt_of_cell? _ _ x2)).trans x2
            go_simp
            exact hK _ _ (Below.refl _ _) rfl
          refine BOk.yes rfl [] [7] rfl 33 false rfl rfl rfl (by kernel_rfl) (by kernel_rfl) (by kernel_rfl) (fun qK qa wr hB qO qF hK => ?_) ?_
          · have e7 : qa.tmps[7]? = some (.pointer (some ⟨wq.heap.size + 1, 0, none⟩)) := qO.1.trans rfl
            clear qO qF
            go_simp
            exact hK _ _ (Below.refl _ _) rfl
          refine BOk.yes rfl [36] [] rfl 33 false rfl rfl rfl (by kernel_rfl) (by kernel_rfl) (by kernel_rfl) (fun qK qa wr hB qO qF hK => ?_) ?_
          · obtain ⟨u62, e62, r36⟩ := qF.1
            have e62 : qa.tmps[62]? = some (.pointer (some ⟨wq.heap.size + 1, 2, none⟩)) := (show u62 = .pointer (some ⟨wq.heap.size + 1, 2, none⟩) from r36) ▸ e62
            clear r36
            clear qO qF
            have hy2 := (bcell hB _ _ (World.block_lt_of_cell? _ _ y2)).trans y2
            go_simp
            exact hK _ _ (Below.refl _ _) rfl
          refine BOk.yes rfl [35, 37] [] rfl 33 false rfl rfl rfl (by kernel_rfl) (by kernel_rfl) (by kernel_rfl) (fun qK qa wr hB qO qF hK => ?_) ?_
          · obtain ⟨u61, e61, r35⟩ := qF.1
            have e61 : qa.tmps[61]? = some (.slice A2 args.length c2) := (show u61 = .slice A2 args.length c2 from r35) ▸ e61
            clear r35
            obtain ⟨u63, e63, r37⟩ := qF.2.1
            have e63 : qa.tmps[63]? = some (.slice A3 args.length c3) := (show u63 = .slice A3 args.length c3 from r37) ▸ e63
            clear r37
            clear qO qF
            go_simp
            go_at_call 16
            refine (HREC.out _ (HW.out.trans (hB.mono HW.out.size))).mono ?_
            rintro e w2 ⟨rfl, hb2⟩
            exact hK _ _ hb2 rfl
          refine BOk.yes rfl [38] [] rfl 33 false rfl rfl rfl (by kernel_rfl) (by kernel_rfl) (by kernel_rfl) (fun qK qa wr hB qO qF hK => ?_) ?_
          · obtain ⟨u64, e64, r38⟩ := qF.1
            have e64 : qa.tmps[64]? = some (.bool true) := (show u64 = .bool true from r38) ▸ e64
            clear r38
            clear qO qF
            go_simp
            exact hK _ _ (Below.refl _ _) rfl
          refine BOk.cons rfl [33, 39] [] rfl rfl (by kernel_rfl) (by kernel_rfl) (fun qK qa wr hB qO qF hK => ?_) ?_
          · obtain ⟨u59, e59, r33⟩ := qF.1
            have e59 : qa.tmps[59]? = some (.bool false) := (show u59 = .bool false from r33) ▸ e59
            clear r33
            obtain ⟨u65, e65, r39⟩ := qF.2.1
            have e65 : qa.tmps[65]? = some (.bool false) := (show u65 = .bool false from r39) ▸ e65
            clear r39
            clear qO qF
            go_simp
            refine hK _ _ (Below.refl _ _) ?_
            show (_ : Value) = _
            first | rfl | (simp; done) | (simp; omega)
          exact BOk.nil
        intro vals wr hl hB hR
        obtain ⟨qc0, qd0, rfl, hc0, hd0⟩ := split_len 24 17 vals (by first | exact hl | simpa using hl)
        match qc0, hc0 with
        | [z26, z27, z28, z29, z30, z31, z32, z33, z34, z35, z36, z37, z38, z39, z40, z41, z42, z43, z44, z45, z46, z47, z48, z49], _ =>
        match qd0, hd0 with
        | [z50, z51, z52, z53, z54, z55, z56, z57, z58, z59, z60, z61, z62, z63, z64, z65, z66], _ =>
        have r40 : z66 = .bool false := hR 40 _ rfl
        subst r40
        clear hR
        simp only [List.cons_append, List.nil_append, putAll, Act.put, List.setIfInBounds_toArray, List.set_cons_zero, List.set_cons_succ]
        have hbe := HW.out.trans (hB.mono HW.out.size)
        clear hB HW x0 y0 x1 y1 x2 y2 x3 y3 x4 y4 x5 y5 x6 y6
        go_wp2_with fail
        go_roundw
        case rel => exact ⟨k + 1, by omega, by go_num, hbe⟩
        case measure => simp [intOf]; omega
      · as_aux_lemma =>
        have kx : Bk (((wq.alloc (.cells #[.int .i64 op, .int .i64 kind, .slice A3 args.length c3, .int .i64 vk, .int .u64 vb, .int .i64 pos, .int .i64 a] 27)).alloc (.cells #[.int .i64 op, .int .i64 kind, .slice A2 args.length c2, .int .i64 vk, .int .u64 vb, .int .i64 pos, .int .i64 a] 27)).drew) (wq.heap.size + 1) 27 #[.int .i64 op, .int .i64 kind, .slice A2 args.length c2, .int .i64 vk, .int .u64 vb, .int .i64 pos, .int .i64 a] := Bk.newAt (w := wq.alloc (.cells #[.int .i64 op, .int .i64 kind, .slice A3 args.length c3, .int .i64 vk, .int .u64 vb, .int .i64 pos, .int .i64 a] 27)) (g := wq.heap.size + 1) (by simp) 27 #[.int .i64 op, .int .i64 kind, .slice A2 args.length c2, .int .i64 vk, .int .u64 vb, .int .i64 pos, .int .i64 a]
        have ky : Bk (((wq.alloc (.cells #[.int .i64 op, .int .i64 kind, .slice A3 args.length c3, .int .i64 vk, .int .u64 vb, .int .i64 pos, .int .i64 a] 27)).alloc (.cells #[.int .i64 op, .int .i64 kind, .slice A2 args.length c2, .int .i64 vk, .int .u64 vb, .int .i64 pos, .int .i64 a] 27)).drew) (wq.heap.size) 27 #[.int .i64 op, .int .i64 kind, .slice A3 args.length c3, .int .i64 vk, .int .u64 vb, .int .i64 pos, .int .i64 a] := (Bk.new wq 27 #[.int .i64 op, .int .i64 kind, .slice A3 args.length c3, .int .i64 vk, .int .u64 vb, .int .i64 pos, .int .i64 a]).alloc (.cells #[.int .i64 op, .int .i64 kind, .slice A2 args.length c2, .int .i64 vk, .int .u64 vb, .int .i64 pos, .int .i64 a] 27)
        have x0 := kx.cell 0
        have y0 := ky.cell 0
        have x1 := kx.cell 1
        have y1 := ky.cell 1
        have x2 := kx.cell 2
        have y2 := ky.cell 2
        have x3 := kx.cell 3
        have y3 := ky.cell 3
        have x4 := kx.cell 4
        have y4 := ky.cell 4
        have x5 := kx.cell 5
        have y5 := ky.cell 5
        have x6 := kx.cell 6
        have y6 := ky.cell 6
        have HW : Hid (Below w.heap.size w (((wq.alloc (.cells #[.int .i64 op, .int .i64 kind, .slice A3 args.length c3, .int .i64 vk, .int .u64 vb, .int .i64 pos, .int .i64 a] 27)).alloc (.cells #[.int .i64 op, .int .i64 kind, .slice A2 args.length c2, .int .i64 vk, .int .u64 vb, .int .i64 pos, .int .i64 a] 27)).drew)) := Lib.hid ((hbel.alloc hbel.size _).alloc (by simp; omega) _).drew
        clear kx ky n0 m0 hc0 hd0 n1 m1 hc1 hd1 n2 m2 hc2 hd2 n3 m3 hc3 hd3 n4 m4 hc4 hd4 n5 m5 hc5 hd5 n6 m6 hc6 hd6
        go_upto_region 7 with fail
        refine wp_region_s (fun qk => (evSame1 op kind vk pos a vb c2 c3 A2 A3 args wq).getD qk .any) (by kernel_rfl) ?_ ?_
        · refine BOk.cons rfl [] [6] rfl rfl (by kernel_rfl) (by kernel_rfl) (fun qK qa wr hB qO qF hK => ?_) ?_
          · have e6 : qa.tmps[6]? = some (.pointer (some ⟨wq.heap.size + 1, 0, none⟩)) := qO.1.trans rfl
            clear qO qF
            go_simp
            exact hK _ _ (Below.refl _ _) rfl
          refine BOk.cons rfl [0] [] rfl rfl (by kernel_rfl) (by kernel_rfl) (fun qK qa wr hB qO qF hK => ?_) ?_
          · obtain ⟨u26, e26, r0⟩ := qF.1
            have e26 : qa.tmps[26]? = some (.pointer (some ⟨wq.heap.size + 1, 0, none⟩)) := (show u26 = .pointer (some ⟨wq.heap.size + 1, 0, none⟩) from r0) ▸ e26
            clear r0
            clear qO qF
            have hx0 := (bcell hB _ _ (World.block_lt_of_cell? _ _ x0)).trans x0
            go_simp
            exact hK _ _ (Below.refl _ _) rfl
          refine BOk.cons rfl [] [7] rfl rfl (by kernel_rfl) (by kernel_rfl) (fun qK qa wr hB qO qF hK => ?_) ?_
          · have e7 : qa.tmps[7]? = some (.pointer (some ⟨wq.heap.size, 0, none⟩)) := qO.1.trans rfl
            clear qO qF
            go_simp
            exact hK _ _ (Below.refl _ _) rfl
          refine BOk.cons rfl [2] [] rfl rfl (by kernel_rfl) (by kernel_rfl) (fun qK qa wr hB qO qF hK => ?_) ?_
          · obtain ⟨u28, e28, r2⟩ := qF.1
            have e28 : qa.tmps[28]? = some (.pointer (some ⟨wq.heap.size, 0, none⟩)) := (show u28 = .pointer (some ⟨wq.heap.size, 0, none⟩) from r2) ▸ e28
            clear r2
            clear qO qF
            have hy0 := (bcell hB _ _ (World.block_lt_of_cell? _ _ y0)).trans y0
            go_simp
            exact hK _ _ (Below.refl _ _) rfl
          refine BOk.cons rfl [1, 3] [] rfl rfl (by kernel_rfl) (by kernel_rfl) (fun qK qa wr hB qO qF hK => ?_) ?_
          · obtain ⟨u27, e27, r1⟩ := qF.1
            have e27 : qa.tmps[27]? = some (.int .i64 op) := (show u27 = .int .i64 op from r1) ▸ e27
            clear r1
            obtain ⟨u29, e29, r3⟩ := qF.2.1
            have e29 : qa.tmps[29]? = some (.int .i64 op) := (show u29 = .int .i64 op from r3) ▸ e29
            clear r3
            clear qO qF
            go_simp
            refine hK _ _ (Below.refl _ _) ?_
            show (_ : Value) = _
            first | rfl | (simp; done) | (simp; omega)
          refine BOk.cons rfl [4] [] rfl rfl (by kernel_rfl) (by kernel_rfl) (fun qK qa wr hB qO qF hK => ?_) ?_
          · obtain ⟨u30, e30, r4⟩ := qF.1
            have e30 : qa.tmps[30]? = some (.bool false) := (show u30 = .bool false from r4) ▸ e30
            clear r4
            clear qO qF
            go_simp
            exact hK _ _ (Below.refl _ _) rfl
          refine BOk.yes rfl [] [6] rfl 5 false rfl rfl rfl (by kernel_rfl) (by kernel_rfl) (by kernel_rfl) (fun qK qa wr hB qO qF hK => ?_) ?_
          · have e6 : qa.tmps[6]? = some (.pointer (some ⟨wq.heap.size + 1, 0, none⟩)) := qO.1.trans rfl
            clear qO qF
            go_simp
            exact hK _ _ (Below.refl _ _) rfl
          refine BOk.yes rfl [6] [] rfl 5 false rfl rfl rfl (by kernel_rfl) (by kernel_rfl) (by kernel_rfl) (fun qK qa wr hB qO qF hK => ?_) ?_
          · obtain ⟨u32, e32, r6⟩ := qF.1
            have e32 : qa.tmps[32]? = some (.pointer (some ⟨wq.heap.size + 1, 1, none⟩)) := (show u32 = .pointer (some ⟨wq.heap.size + 1, 1, none⟩) from r6) ▸ e32
            clear r6
            clear qO qF
            have hx1 := (bcell hB _ _ (World.block_lt_of_cell? _ _ x1)).trans x1
            go_simp
            exact hK _ _ (Below.refl _ _) rfl
          refine BOk.yes rfl [] [7] rfl 5 false rfl rfl rfl (by kernel_rfl) (by kernel_rfl) (by kernel_rfl) (fun qK qa wr hB qO qF hK => ?_) ?_
          · have e7 : qa.tmps[7]? = some (.pointer (some ⟨wq.heap.size, 0, none⟩)) := qO.1.trans rfl
            clear qO qF
            go_simp
            exact hK _ _ (Below.refl _ _) rfl
          refine BOk.yes rfl [8] [] rfl 5 false rfl rfl rfl (by kernel_rfl) (by kernel_rfl) (by kernel_rfl) (fun qK qa wr hB qO qF hK => ?_) ?_
          · obtain ⟨u34, e34, r8⟩ := qF.1
            have e34 : qa.tmps[34]? = some (.pointer (some ⟨wq.heap.size, 1, none⟩)) := (show u34 = .pointer (some ⟨wq.heap.size, 1, none⟩) from r8) ▸ e34
            clear r8
            clear qO qF
            have hy1 := (bcell hB _ _ (World.block_lt_of_cell? _ _ y1)).trans y1
            go_simp
            exact hK _ _ (Below.refl _ _) rfl
          refine BOk.yes rfl [7, 9] [] rfl 5 false rfl rfl rfl (by kernel_rfl) (by kernel_rfl) (by kernel_rfl) (fun qK qa wr hB qO qF hK => ?_) ?_
          · obtain ⟨u33, e33, r7⟩ := qF.1
            have e33 : qa.tmps[33]? = some (.int .i64 kind) := (show u33 = .int .i64 kind from r7) ▸ e33
            clear r7
            obtain ⟨u35, e35, r9⟩ := qF.2.1
            have e35 : qa.tmps[35]? = some (.int .i64 kind) := (show u35 = .int .i64 kind from r9) ▸ e35
            clear r9
            clear qO qF
            go_simp
            refine hK _ _ (Below.refl _ _) ?_
            show (_ : Value) = _
            first | rfl | (simp; done) | (simp; omega)
          refine BOk.cons rfl [5, 10] [] rfl rfl (by kernel_rfl) (by kernel_rfl) (fun qK qa wr hB qO qF hK => ?_) ?_
          · obtain ⟨u31, e31, r5⟩ := qF.1
            have e31 : qa.tmps[31]? = some (.bool false) := (show u31 = .bool false from r5) ▸ e31
            clear r5
            obtain ⟨u36, e36, r10⟩ := qF.2.1
            have e36 : qa.tmps[36]? = some (.bool false) := (show u36 = .bool false from r10) ▸ e36
            clear r10
            clear qO qF
            go_simp
            refine hK _ _ (Below.refl _ _) ?_
            show (_ : Value) = _
            first | rfl | (simp; done) | (simp; omega)
          refine BOk.cons rfl [11] [] rfl rfl (by kernel_rfl) (by kernel_rfl) (fun qK qa wr hB qO qF hK => ?_) ?_
          · obtain ⟨u37, e37, r11⟩ := qF.1
            have e37 : qa.tmps[37]? = some (.bool false) := (show u37 = .bool false from r11) ▸ e37
            clear r11
            clear qO qF
            go_simp
            exact hK _ _ (Below.refl _ _) rfl
          refine BOk.yes rfl [] [6] rfl 12 false rfl rfl rfl (by kernel_rfl) (by kernel_rfl) (by kernel_rfl) (fun qK qa wr hB qO qF hK => ?_) ?_
          · have e6 : qa.tmps[6]? = some (.pointer (some ⟨wq.heap.size + 1, 0, none⟩)) := qO.1.trans rfl
            clear qO qF
            go_simp
            exact hK _ _ (Below.refl _ _) rfl
          refine BOk.yes rfl [13] [] rfl 12 false rfl rfl rfl (by kernel_rfl) (by kernel_rfl) (by kernel_rfl) (fun qK qa wr hB qO qF hK => ?_) ?_
          · obtain ⟨u39, e39, r13⟩ := qF.1
            have e39 : qa.tmps[39]? = some (.pointer (some ⟨wq.heap.size + 1, 3, none⟩)) := (show u39 = .pointer (some ⟨wq.heap.size + 1, 3, none⟩) from r13) ▸ e39
            clear r13
            clear qO qF
            have hx3 := (bcell hB _ _ (World.block_lt_of_cell? _ _ x3)).trans x3
            have hx4 := (bcell hB _ _ (World.block_lt_of_cell? _ _ x4)).trans x4
            go_simp
            exact hK _ _ (Below.refl _ _) rfl
          refine BOk.yes rfl [] [7] rfl 12 false rfl rfl rfl (by kernel_rfl) (by kernel_rfl) (by kernel_rfl) (fun qK qa wr hB qO qF hK => ?_) ?_
          · have e7 : qa.tmps[7]? = some (.pointer (some ⟨wq.heap.size, 0, none⟩)) := qO.1.trans rfl
            clear qO qF
            go_simp
            exact hK _ _ (Below.refl _ _) rfl
          refine BOk.yes rfl [15] [] rfl 12 false rfl rfl rfl (by kernel_rfl) (by kernel_rfl) (by kernel_rfl) (fun qK qa wr hB qO qF hK => ?_) ?_
          · obtain ⟨u41, e41, r15⟩ := qF.1
            have e41 : qa.tmps[41]? = some (.pointer (some ⟨wq.heap.size, 3, none⟩)) := (show u41 = .pointer (some ⟨wq.heap.size, 3, none⟩) from r15) ▸ e41
            clear r15
            clear qO qF
            have hy3 := (bcell hB _ _ (World.block_lt_of_cell? _ _ y3)).trans y3
            have hy4 := (bcell hB _ _ (World.block_lt_of_cell? _ _ y4)).trans y4
            go_simp
            exact hK _ _ (Below.refl _ _) rfl
          refine BOk.yes rfl [14, 16] [] rfl 12 false rfl rfl rfl (by kernel_rfl) (by kernel_rfl) (by kernel_rfl) (fun qK qa wr hB qO qF hK => ?_) ?_
          · obtain ⟨u40, e40, r14⟩ := qF.1
            have e40 : qa.tmps[40]? = some (.agg #[.int .i64 vk, .int .u64 vb]) := (show u40 = .agg #[.int .i64 vk, .int .u64 vb] from r14) ▸ e40
            clear r14
            obtain ⟨u42, e42, r16⟩ := qF.2.1
            have e42 : qa.tmps[42]? = some (.agg #[.int .i64 vk, .int .u64 vb]) := (show u42 = .agg #[.int .i64 vk, .int .u64 vb] from r16) ▸ e42
            clear r16
            clear qO qF
            go_simp
            refine hK _ _ (Below.refl _ _) ?_
            show (_ : Value) = _
            first | rfl | (simp; done) | (simp; omega)
          refine BOk.cons rfl [12, 17] [] rfl rfl (by kernel_rfl) (by kernel_rfl) (fun qK qa wr hB qO qF hK => ?_) ?_
          · obtain ⟨u38, e38, r12⟩ := qF.1
            have e38 : qa.tmps[38]? = some (.bool false) := (show u38 = .bool false from r12) ▸ e38
            clear r12
            obtain ⟨u43, e43, r17⟩ := qF.2.1
            have e43 : qa.tmps[43]? = some (.bool false) := (show u43 = .bool false from r17) ▸ e43
            clear r17
            clear qO qF
            go_simp
            refine hK _ _ (Below.refl _ _) ?_
            show (_ : Value) = _
            first | rfl | (simp; done) | (simp; omega)
          refine BOk.cons rfl [18] [] rfl rfl (by kernel_rfl) (by kernel_rfl) (fun qK qa wr hB qO qF hK => ?_) ?_
          · obtain ⟨u44, e44, r18⟩ := qF.1
            have e44 : qa.tmps[44]? = some (.bool false) := (show u44 = .bool false from r18) ▸ e44
            clear r18
            clear qO qF
            go_simp
            exact hK _ _ (Below.refl _ _) rfl
          refine BOk.yes rfl [] [6] rfl 19 false rfl rfl rfl (by kernel_rfl) (by kernel_rfl) (by kernel_rfl) (fun qK qa wr hB qO qF hK => ?_) ?_
          · have e6 : qa.tmps[6]? = some (.pointer (some ⟨wq.heap.size + 1, 0, none⟩)) := qO.1.trans rfl
            clear qO qF
            go_simp
            exact hK _ _ (Below.refl _ _) rfl
          refine BOk.yes rfl [20] [] rfl 19 false rfl rfl rfl (by kernel_rfl) (by kernel_rfl) (by kernel_rfl) (fun qK qa wr hB qO qF hK => ?_) ?_
          · obtain ⟨u46, e46, r20⟩ := qF.1
            have e46 : qa.tmps[46]? = some (.pointer (some ⟨wq.heap.size + 1, 5, none⟩)) := (show u46 = .pointer (some ⟨wq.heap.size + 1, 5, none⟩) from r20) ▸ e46
            clear r20
            clear qO qF
            have hx5 := (bcell hB _ _ (World.block_lt_of_cell? _ _ x5)).trans x5
            go_simp
            exact hK _ _ (Below.refl _ _) rfl
          refine BOk.yes rfl [] [7] rfl 19 false rfl rfl rfl (by kernel_rfl) (by kernel_rfl) (by kernel_rfl) (fun qK qa wr hB qO qF hK => ?_) ?_
          · have e7 : qa.tmps[7]? = some (.pointer (some ⟨wq.heap.size, 0, none⟩)) := qO.1.trans rfl
            clear qO qF
            go_simp
            exact hK _ _ (Below.refl _ _) rfl
          refine BOk.yes rfl [22] [] rfl 19 false rfl rfl rfl (by kernel_rfl) (by kernel_rfl) (by kernel_rfl) (fun qK qa wr hB qO qF hK => ?_) ?_
          · obtain ⟨u48, e48, r22⟩ := qF.1
            have e48 : qa.tmps[48]? = some (.pointer (some ⟨wq.heap.size, 5, none⟩)) := (show u48 = .pointer (some ⟨wq.heap.size, 5, none⟩) from r22) ▸ e48
            clear r22
            clear qO qF
            have hy5 := (bcell hB _ _ (World.block_lt_of_cell? _ _ y5)).trans y5
            go_simp
            exact hK _ _ (Below.refl _ _) rfl
          refine BOk.yes rfl [21, 23] [] rfl 19 false rfl rfl rfl (by kernel_rfl) (by kernel_rfl) (by kernel_rfl) (fun qK qa wr hB qO qF hK => ?_) ?_
          · obtain ⟨u47, e47, r21⟩ := qF.1
            have e47 : qa.tmps[47]? = some (.int .i64 pos) := (show u47 = .int .i64 pos from r21) ▸ e47
            clear r21
            obtain ⟨u49, e49, r23⟩ := qF.2.1
            have e49 : qa.tmps[49]? = some (.int .i64 pos) := (show u49 = .int .i64 pos from r23) ▸ e49
            clear r23
            clear qO qF
            go_simp
            refine hK _ _ (Below.refl _ _) ?_
            show (_ : Value) = _
            first | rfl | (simp; done) | (simp; omega)
          refine BOk.cons rfl [19, 24] [] rfl rfl (by kernel_rfl) (by kernel_rfl) (fun qK qa wr hB qO qF hK => ?_) ?_
          · obtain ⟨u45, e45, r19⟩ := qF.1
            have e45 : qa.tmps[45]? = some (.bool false) := (show u45 = .bool false from r19) ▸ e45
            clear r19
            obtain ⟨u50, e50, r24⟩ := qF.2.1
            have e50 : qa.tmps[50]? = some (.bool false) := (show u50 = .bool false from r24) ▸ e50
            clear r24
            clear qO qF
            go_simp
            refine hK _ _ (Below.refl _ _) ?_
            show (_ : Value) = _
            first | rfl | (simp; done) | (simp; omega)
          refine BOk.cons rfl [25] [] rfl rfl (by kernel_rfl) (by kernel_rfl) (fun qK qa wr hB qO qF hK => ?_) ?_
          · obtain ⟨u51, e51, r25⟩ := qF.1
            have e51 : qa.tmps[51]? = some (.bool false) := (show u51 = .bool false from r25) ▸ e51
            clear r25
            clear qO qF
            go_simp
            exact hK _ _ (Below.refl _ _) rfl
          refine BOk.yes rfl [] [6] rfl 26 false rfl rfl rfl (by kernel_rfl) (by kernel_rfl) (by kernel_rfl) (fun qK qa wr hB qO qF hK => ?_) ?_
          · have e6 : qa.tmps[6]? = some (.pointer (some ⟨wq.heap.size + 1, 0, none⟩)) := qO.1.trans rfl
            clear qO qF
            go_simp
            exact hK _ _ (Below.refl _ _) rfl
          refine BOk.yes rfl [27] [] rfl 26 false rfl rfl rfl (by kernel_rfl) (by kernel_rfl) (by kernel_rfl) (fun qK qa wr hB qO qF hK => ?_) ?_
          · obtain ⟨u53, e53, r27⟩ := qF.1
            have e53 : qa.tmps[53]? = some (.pointer (some ⟨wq.heap.size + 1, 6, none⟩)) := (show u53 = .pointer (some ⟨wq.heap.size + 1, 6, none⟩) from r27) ▸ e53
            clear r27
            clear qO qF
            have hx6 := (bcell hB _ _ (World.block_lt_of_cell? _ _ x6)).trans x6
            go_simp
            exact hK _ _ (Below.refl _ _) rfl
          refine BOk.yes rfl [] [7] rfl 26 false rfl rfl rfl (by kernel_rfl) (by kernel_rfl) (by kernel_rfl) (fun qK qa wr hB qO qF hK => ?_) ?_
          · have e7 : qa.tmps[7]? = some (.pointer (some ⟨wq.heap.size, 0, none⟩)) := qO.1.trans rfl
            clear qO qF
            go_simp
            exact hK _ _ (Below.refl _ _) rfl
          refine BOk.yes rfl [29] [] rfl 26 false rfl rfl rfl (by kernel_rfl) (by kernel_rfl) (by kernel_rfl) (fun qK qa wr hB qO qF hK => ?_) ?_
          · obtain ⟨u55, e55, r29⟩ := qF.1
            have e55 : qa.tmps[55]? = some (.pointer (some ⟨wq.heap.size, 6, none⟩)) := (show u55 = .pointer (some ⟨wq.heap.size, 6, none⟩) from r29) ▸ e55
            clear r29
            clear qO qF
            have hy6 := (bcell hB _ _ (World.block_lt_of_cell? _ _ y6)).trans y6
            go_simp
            exact hK _ _ (Below.refl _ _) rfl
          refine BOk.yes rfl [28, 30] [] rfl 26 false rfl rfl rfl (by kernel_rfl) (by kernel_rfl) (by kernel_rfl) (fun qK qa wr hB qO qF hK => ?_) ?_
          · obtain ⟨u54, e54, r28⟩ := qF.1
            have e54 : qa.tmps[54]? = some (.int .i64 a) := (show u54 = .int .i64 a from r28) ▸ e54
            clear r28
            obtain ⟨u56, e56, r30⟩ := qF.2.1
            have e56 : qa.tmps[56]? = some (.int .i64 a) := (show u56 = .int .i64 a from r30) ▸ e56
            clear r30
            clear qO qF
            go_simp
            refine hK _ _ (Below.refl _ _) ?_
            show (_ : Value) = _
            first | rfl | (simp; done) | (simp; omega)
          refine BOk.cons rfl [26, 31] [] rfl rfl (by kernel_rfl) (by kernel_rfl) (fun qK qa wr hB qO qF hK => ?_) ?_
          · obtain ⟨u52, e52, r26⟩ := qF.1
            have e52 : qa.tmps[52]? = some (.bool false) := (show u52 = .bool false from r26) ▸ e52
            clear r26
            obtain ⟨u57, e57, r31⟩ := qF.2.1
            have e57 : qa.tmps[57]? = some (.bool false) := (show u57 = .bool false from r31) ▸ e57
            clear r31
            clear qO qF
            go_simp
            refine hK _ _ (Below.refl _ _) ?_
            show (_ : Value) = _
            first | rfl | (simp; done) | (simp; omega)
          refine BOk.cons rfl [32] [] rfl rfl (by kernel_rfl) (by kernel_rfl) (fun qK qa wr hB qO qF hK => ?_) ?_
          · obtain ⟨u58, e58, r32⟩ := qF.1
            have e58 : qa.tmps[58]? = some (.bool false) := (show u58 = .bool false from r32) ▸ e58
            clear r32
            clear qO qF
            go_simp
            exact hK _ _ (Below.refl _ _) rfl
          refine BOk.yes rfl [] [6] rfl 33 false rfl rfl rfl (by kernel_rfl) (by kernel_rfl) (by kernel_rfl) (fun qK qa wr hB qO qF hK => ?_) ?_
          · have e6 : qa.tmps[6]? = some (.pointer (some ⟨wq.heap.size + 1, 0, none⟩)) := qO.1.trans rfl
            clear qO qF
            go_simp
            exact hK _ _ (Below.refl _ _) rfl
          refine BOk.yes rfl [34] [] rfl 33 false rfl rfl rfl (by kernel_rfl) (by kernel_rfl) (by kernel_rfl) (fun qK qa wr hB qO qF hK => ?_) ?_
          · obtain ⟨u60, e60, r34⟩ := qF.1
            have e60 : qa.tmps[60]? = some (.pointer (some ⟨wq.heap.size + 1, 2, none⟩)) := (show u60 = .pointer (some ⟨wq.heap.size + 1, 2, none⟩) from r34) ▸ e60
            clear r34
            clear qO qF
            have hx2 := (bcell hB _ _ (World.block_lt_of_cell? _ _ x2)).trans x2
            go_simp
            exact hK _ _ (Below.refl _ _) rfl
          refine BOk.yes rfl [] [7] rfl 33 false rfl rfl rfl (by kernel_rfl) (by kernel_rfl) (by kernel_rfl) (fun qK qa wr hB qO qF hK => ?_) ?_
          · have e7 : qa.tmps[7]? = some (.pointer (some ⟨wq.heap.size, 0, none⟩)) := qO.1.trans rfl
            clear qO qF
            go_simp
            exact hK _ _ (Below.refl _ _) rfl
          refine BOk.yes rfl [36] [] rfl 33 false rfl rfl rfl (by kernel_rfl) (by kernel_rfl) (by kernel_rfl) (fun qK qa wr hB qO qF hK => ?_) ?_
          · obtain ⟨u62, e62, r36⟩ := qF.1
            have e62 : qa.tmps[62]? = some (.pointer (some ⟨wq.heap.size, 2, none⟩)) := (show u62 = .pointer (some ⟨wq.heap.size, 2, none⟩) from r36) ▸ e62
            clear r36
            clear qO qF
            have hy2 := (bcell hB _ _ (World.block_lt_of_cell? _ _ y2)).trans y2
            go_simp
            exact hK _ _ (Below.refl _ _) rfl
          refine BOk.yes rfl [35, 37] [] rfl 33 false rfl rfl rfl (by kernel_rfl) (by kernel_rfl) (by kernel_rfl) (fun qK qa wr hB qO qF hK => ?_) ?_
          · obtain ⟨u61, e61, r35⟩ := qF.1
            have e61 : qa.tmps[61]? = some (.slice A2 args.length c2) := (show u61 = .slice A2 args.length c2 from r35) ▸ e61
            clear r35
            obtain ⟨u63, e63, r37⟩ := qF.2.1
            have e63 : qa.tmps[63]? = some (.slice A3 args.length c3) := (show u63 = .slice A3 args.length c3 from r37) ▸ e63
            clear r37
            clear qO qF
            go_simp
            go_at_call 16
            refine (HREC.out _ (HW.out.trans (hB.mono HW.out.size))).mono ?_
            rintro e w2 ⟨rfl, hb2⟩
            exact hK _ _ hb2 rfl
          refine BOk.yes rfl [38] [] rfl 33 false rfl rfl rfl (by kernel_rfl) (by kernel_rfl) (by kernel_rfl) (fun qK qa wr hB qO qF hK => ?_) ?_
          · obtain ⟨u64, e64, r38⟩ := qF.1
            have e64 : qa.tmps[64]? = some (.bool true) := (show u64 = .bool true from r38) ▸ e64
            clear r38
            clear qO qF
            go_simp
            exact hK _ _ (Below.refl _ _) rfl
          refine BOk.cons rfl [33, 39] [] rfl rfl (by kernel_rfl) (by kernel_rfl) (fun qK qa wr hB qO qF hK => ?_) ?_
          · obtain ⟨u59, e59, r33⟩ := qF.1
            have e59 : qa.tmps[59]? = some (.bool false) := (show u59 = .bool false from r33) ▸ e59
            clear r33
            obtain ⟨u65, e65, r39⟩ := qF.2.1
            have e65 : qa.tmps[65]? = some (.bool false) := (show u65 = .bool false from r39) ▸ e65
            clear r39
            clear qO qF
            go_simp
            refine hK _ _ (Below.refl _ _) ?_
            show (_ : Value) = _
            first | rfl | (simp; done) | (simp; omega)
          exact BOk.nil
        intro vals wr hl hB hR
        obtain ⟨qc0, qd0, rfl, hc0, hd0⟩ := split_len 24 17 vals (by first | exact hl | simpa using hl)
        match qc0, hc0 with
        | [z26, z27, z28, z29, z30, z31, z32, z33, z34, z35, z36, z37, z38, z39, z40, z41, z42, z43, z44, z45, z46, z47, z48, z49], _ =>
        match qd0, hd0 with
        | [z50, z51, z52, z53, z54, z55, z56, z57, z58, z59, z60, z61, z62, z63, z64, z65, z66], _ =>
        have r40 : z66 = .bool false := hR 40 _ rfl
        subst r40
        clear hR
        simp only [List.cons_append, List.nil_append, putAll, Act.put, List.setIfInBounds_toArray, List.set_cons_zero, List.set_cons_succ]
        have hbe := HW.out.trans (hB.mono HW.out.size)
        clear hB HW x0 y0 x1 y1 x2 y2 x3 y3 x4 y4 x5 y5 x6 y6
        go_wp2_with fail
        go_roundw
        case rel => exact ⟨k + 1, by omega, by go_num, hbe⟩
        case measure => simp [intOf]; omega
    · as_aux_lemma =>
      obtain rfl : k = l.length := by omega
      go_wp2_with fail
      go_ret
      exact ⟨rfl, hbel⟩
theorem same_any : ∀ (d : Nat) (l l' : List NodeV) (A A' : Option Addr) (c c' : Nat) (w : World), (∀ x ∈ l, okN d x w w.heap.size) → (∀ x ∈ l', okN d x w w.heap.size) → Rd w w.heap.size A (l.flatMap NodeV.cells) → Rd w w.heap.size A' (l'.flatMap NodeV.cells) → l.length ≤ 1048576 → l'.length = l.length →
      (∀ (i : Nat) (x y : NodeV), l[i]? = some x → l'[i]? = some y → simN d x y) → Calls Try.prog 16 #[.slice A l.length c, .slice A' l.length c'] w fun e w' => e = .returned (.bool true) ∧ Below w.heap.size w w'
  | 0 => same_step 0 (fun d' h => by omega)
  | d + 1 => same_step (d + 1) (fun d' h => by obtain rfl : d' = d := by omega
                                               exact same_any d')
theorem simN.symm : ∀ {d : Nat} {n n' : NodeV}, simN d n n' → simN d n' n
  | 0, _, _, h => h
  | d + 1, .mk .., .mk .., h => ⟨h.1.symm, h.2.1.symm, h.2.2.1.symm, h.2.2.2.1.symm, h.2.2.2.2.1.symm, h.2.2.2.2.2.1.symm, h.2.2.2.2.2.2.1.symm, fun i x y hx hy => (h.2.2.2.2.2.2.2 i y x hy hx).symm⟩
end Go.Proofs.Ytkfpmoilfillmaa
