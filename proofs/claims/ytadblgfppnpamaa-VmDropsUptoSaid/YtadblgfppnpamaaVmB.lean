/- Layer 18: the machine's instructions. No conditions. -/
import Derived.Test.YtadblgfppnpamaaVmA
import Derived.Test.YtadblgfppnpamaaRegO
namespace Go.Proofs.Ytadblgfppnpamaa
open Go.RowKit
set_option linter.unusedVariables false
set_option linter.unusedSimpArgs false

/-- A machine in memory. -/
structure MachV where
  mm : Nat
  rg : Nat
  sg : Nat
  regs : List V
  slots : List V
  A1 : Option Addr
  c1 : Nat
  ins : List V
  A2 : Option Addr
  c2 : Nat
  ks : List V
structure Mach (w : World) (B : Nat) (m : MachV) : Prop where
  mb : Bk w m.mm 48 #[.slice (some ⟨m.rg, 0, none⟩) m.regs.length m.regs.length, .slice (some ⟨m.sg, 0, none⟩) m.slots.length m.slots.length, .slice m.A1 m.ins.length m.c1, .slice m.A2 m.ks.length m.c2]
  rr : Row w m.rg m.regs
  ss : Row w m.sg m.slots
  ri : Rd w B m.A1 (m.ins.flatMap V.cells)
  rk : Rd w B m.A2 (m.ks.flatMap V.cells)
  n1 : m.mm ≠ m.rg
  n2 : m.mm ≠ m.sg
  n3 : m.rg ≠ m.sg
  b1 : B ≤ m.mm
  b2 : B ≤ m.rg
  b3 : B ≤ m.sg
  b0 : B ≤ w.heap.size
  f1 : ∀ x ∈ m.regs, x.fits
  f2 : ∀ x ∈ m.slots, x.fits
  f3 : ∀ x ∈ m.ins, x.fits
  f4 : ∀ x ∈ m.ks, x.fits
  l1 : m.regs.length ≤ 1024
  l2 : m.slots.length ≤ 1024
  l3 : m.ins.length ≤ 1048576
  l4 : m.ks.length ≤ 1048576
theorem Mach.old {w w' : World} {B : Nat} {m : MachV} (h : Mach w B m) (hb : Below w.heap.size w w') : Mach w' B m :=
  ⟨h.mb.old hb, Bk.old h.rr hb, Bk.old h.ss hb, h.ri.below (hb.mono h.b0), h.rk.below (hb.mono h.b0), h.n1, h.n2, h.n3, h.b1, h.b2, h.b3, Nat.le_trans h.b0 hb.size, h.f1, h.f2, h.f3, h.f4, h.l1, h.l2, h.l3, h.l4⟩
theorem setL_fits {l : List V} {i : Int} {v : V} (h : ∀ x ∈ l, x.fits) (hv : v.fits) : ∀ x ∈ setL l i v, x.fits := by
  intro x hx
  unfold setL at hx
  split at hx
  · rcases List.mem_or_eq_of_mem_set hx with h1 | rfl
    · exact h x h1
    · exact hv
  · exact h x hx
theorem take_fits {l : List V} (i : Int) (h : ∀ x ∈ l, x.fits) : (takeL l i).fits := by
  unfold takeL
  split
  · rename_i hi
    have : i.toNat < l.length := by omega
    rw [List.getD_eq_getElem?_getD, List.getElem?_eq_getElem this]
    exact clean_fits _ (h _ (by simp))
  · exact fits0
theorem Rd.keepBut {w w' : World} {B g : Nat} {A : Option Addr} {cs : List Value} (h : Rd w B A cs) (hg : w.grownBy w' (some g)) (hB : B ≤ w.heap.size) (hn : B ≤ g) : Rd w' B A cs :=
  h.below (below_gb (Below.refl B w) hg hB hn)
theorem Mach.setR {w w' : World} {B : Nat} {m : MachV} (h : Mach w B m) {i : Int} {v : V} (hv : v.fits) (hr : Row w' m.rg (setL m.regs i v)) (hg : w.grownBy w' (some m.rg)) : Mach w' B { m with regs := setL m.regs i v } :=
  ⟨by have := h.mb.grown hg (by simpa using h.n1); simpa only [setL_len] using this, hr, Bk.grown h.ss hg (by simpa using Ne.symm h.n3), h.ri.keepBut hg h.b0 h.b2, h.rk.keepBut hg h.b0 h.b2, h.n1, h.n2, h.n3, h.b1, h.b2, h.b3, Nat.le_trans h.b0 hg.size,
   setL_fits h.f1 hv, h.f2, h.f3, h.f4, by simpa only [setL_len] using h.l1, h.l2, h.l3, h.l4⟩
theorem Mach.setS {w w' : World} {B : Nat} {m : MachV} (h : Mach w B m) {i : Int} {v : V} (hv : v.fits) (hr : Row w' m.sg (setL m.slots i v)) (hg : w.grownBy w' (some m.sg)) : Mach w' B { m with slots := setL m.slots i v } :=
  ⟨by have := h.mb.grown hg (by simpa using h.n2); simpa only [setL_len] using this, Bk.grown h.rr hg (by simpa using h.n3), hr, h.ri.keepBut hg h.b0 h.b3, h.rk.keepBut hg h.b0 h.b3, h.n1, h.n2, h.n3, h.b1, h.b2, h.b3, Nat.le_trans h.b0 hg.size,
   h.f1, setL_fits h.f2 hv, h.f3, h.f4, h.l1, by simpa only [setL_len] using h.l2, h.l3, h.l4⟩

def reginput (op dst a b : Int) (mm rg sg : Nat) (regs slots ins ks : List V) (A1 A2 : Option Addr) (c1 c2 : Nat) (Y Z U : V) (w0 : World) : List Spec := [.is (.pointer (some ⟨mm, 0, none⟩)),
  .is (.pointer (some ⟨mm, 0, none⟩)),
  .is (.pointer (some ⟨mm, 0, none⟩)),
  .is (.slice (some ⟨rg, 0, none⟩) regs.length regs.length),
  .is (.pointer (some ⟨w0.heap.size, 1, none⟩)),
  .is (.int .i64 dst),
  .is (.pointer (some ⟨mm, 0, none⟩)),
  .is (.pointer (some ⟨mm, 0, none⟩)),
  .is (.pointer (some ⟨mm, 2, none⟩)),
  .is (.slice A1 ins.length c1),
  .is (.pointer (some ⟨w0.heap.size, 2, none⟩)),
  .is (.int .i64 a),
  .is (.agg #[.int .i64 Y.k, .int .u64 Y.b])]
set_option maxRecDepth 100000 in
set_option maxHeartbeats 2000000 in
theorem m_input_any (op dst a b : Int) (B mm rg sg : Nat) (regs slots ins ks : List V) (A1 A2 : Option Addr) (c1 c2 : Nat) (w0 : World) (hm0 : Mach w0 B ⟨mm, rg, sg, regs, slots, A1, c1, ins, A2, c2, ks⟩) :
    Calls Try.prog 34 #[.pointer (some ⟨mm, 0, none⟩), .agg #[.int .i64 op, .int .i64 dst, .int .i64 a, .int .i64 b]] w0 fun e w' => e = .returned (.tuple #[]) ∧ Row w' rg (setL regs dst (takeL ins a)) ∧ w0.grownBy w' (some rg) := by
  obtain ⟨Y, hY⟩ : ∃ Y, takeL ins a = Y := ⟨_, rfl⟩
  have hYf : Y.fits := by rw [← hY]; exact take_fits _ hm0.f3
  rw [hY]
  have hb0 : Below w0.heap.size w0 (w0.alloc (.cells #[.int .i64 op, .int .i64 dst, .int .i64 a, .int .i64 b] 43)) := (Below.refl _ _).alloc (Nat.le_refl _) _
  have hx := Bk.new w0 43 #[.int .i64 op, .int .i64 dst, .int .i64 a, .int .i64 b]
  have x0 := hx.cell 0
  have x1 := hx.cell 1
  have x2 := hx.cell 2
  have x3 := hx.cell 3
  have hm1 := hm0.old hb0
  have m0 : (w0.alloc (.cells #[.int .i64 op, .int .i64 dst, .int .i64 a, .int .i64 b] 43)).cell? ⟨mm, 0, none⟩ = some (.slice (some ⟨rg, 0, none⟩) regs.length regs.length) := hm1.mb.cell 0
  have m1 : (w0.alloc (.cells #[.int .i64 op, .int .i64 dst, .int .i64 a, .int .i64 b] 43)).cell? ⟨mm, 1, none⟩ = some (.slice (some ⟨sg, 0, none⟩) slots.length slots.length) := hm1.mb.cell 1
  have m2 : (w0.alloc (.cells #[.int .i64 op, .int .i64 dst, .int .i64 a, .int .i64 b] 43)).cell? ⟨mm, 2, none⟩ = some (.slice A1 ins.length c1) := hm1.mb.cell 2
  have m3 : (w0.alloc (.cells #[.int .i64 op, .int .i64 dst, .int .i64 a, .int .i64 b] 43)).cell? ⟨mm, 3, none⟩ = some (.slice A2 ks.length c2) := hm1.mb.cell 3
  have hcY : ∀ w' : World, Below (w0.alloc (.cells #[.int .i64 op, .int .i64 dst, .int .i64 a, .int .i64 b] 43)).heap.size (w0.alloc (.cells #[.int .i64 op, .int .i64 dst, .int .i64 a, .int .i64 b] 43)) w' → Calls Try.prog 20 #[.slice A1 ins.length c1, .int .i64 a] w' fun e w2 => e = .returned (.agg #[.int .i64 Y.k, .int .u64 Y.b]) ∧ Below w'.heap.size w' w2 := by
    intro w' hw
    have hm := hm1.old hw
    have := get_any A1 c1 ins a w' (hm.ri.more hm.b0) hm.f3 (Nat.le_trans hm.l3 (by decide))
    rw [hY] at this
    exact this
  have HY := Lib.hid hcY
  have HM := Lib.hid hm1
  have HB := Lib.hid hb0
  clear hcY hY hx hm0 hm1 hb0
  go_enter Try.func34, Try.ntmps34
  go_wp2_with fail
  refine wp_region_t 13 (fun k => false) (by kernel_rfl) (fun qk => (reginput op dst a b mm rg sg regs slots ins ks A1 A2 c1 c2 Y none0 none0 w0).getD qk .any) (by kernel_rfl) ?_ ?_
  · refine BOk.cons rfl [] [0] rfl rfl (by kernel_rfl) (by kernel_rfl) (fun qK qa wr hB qO qF hK => ?_) ?_
    · have e0 : qa.tmps[0]? = some (.pointer (some ⟨mm, 0, none⟩)) := qO.1.trans rfl
      clear qO qF
      go_simp
      exact hK _ _ (Below.refl _ _) rfl
    refine BOk.cons rfl [0] [] rfl rfl (by kernel_rfl) (by kernel_rfl) (fun qK qa wr hB qO qF hK => ?_) ?_
    · have e4 : qa.tmps[4]? = some (.pointer (some ⟨mm, 0, none⟩)) := fis qF.1 rfl rfl
      clear qO qF
      go_simp
      exact hK _ _ (Below.refl _ _) rfl
    refine BOk.cons rfl [1] [] rfl rfl (by kernel_rfl) (by kernel_rfl) (fun qK qa wr hB qO qF hK => ?_) ?_
    · have e5 : qa.tmps[5]? = some (.pointer (some ⟨mm, 0, none⟩)) := fis qF.1 rfl rfl
      clear qO qF
      go_simp
      exact hK _ _ (Below.refl _ _) rfl
    refine BOk.cons rfl [2] [] rfl rfl (by kernel_rfl) (by kernel_rfl) (fun qK qa wr hB qO qF hK => ?_) ?_
    · have e6 : qa.tmps[6]? = some (.pointer (some ⟨mm, 0, none⟩)) := fis qF.1 rfl rfl
      clear qO qF
      have hm0 := (bcell hB _ _ (World.block_lt_of_cell? _ _ m0)).trans m0
      go_simp
      exact hK _ _ (Below.refl _ _) rfl
    refine BOk.cons rfl [] [3] rfl rfl (by kernel_rfl) (by kernel_rfl) (fun qK qa wr hB qO qF hK => ?_) ?_
    · have e3 : qa.tmps[3]? = some (.pointer (some ⟨w0.heap.size, 0, none⟩)) := qO.1.trans rfl
      clear qO qF
      go_simp
      exact hK _ _ (Below.refl _ _) rfl
    refine BOk.cons rfl [4] [] rfl rfl (by kernel_rfl) (by kernel_rfl) (fun qK qa wr hB qO qF hK => ?_) ?_
    · have e8 : qa.tmps[8]? = some (.pointer (some ⟨w0.heap.size, 1, none⟩)) := fis qF.1 rfl rfl
      clear qO qF
      have hx1 := (bcell hB _ _ (World.block_lt_of_cell? _ _ x1)).trans x1
      go_simp
      exact hK _ _ (Below.refl _ _) rfl
    refine BOk.cons rfl [] [0] rfl rfl (by kernel_rfl) (by kernel_rfl) (fun qK qa wr hB qO qF hK => ?_) ?_
    · have e0 : qa.tmps[0]? = some (.pointer (some ⟨mm, 0, none⟩)) := qO.1.trans rfl
      clear qO qF
      go_simp
      exact hK _ _ (Below.refl _ _) rfl
    refine BOk.cons rfl [6] [] rfl rfl (by kernel_rfl) (by kernel_rfl) (fun qK qa wr hB qO qF hK => ?_) ?_
    · have e10 : qa.tmps[10]? = some (.pointer (some ⟨mm, 0, none⟩)) := fis qF.1 rfl rfl
      clear qO qF
      go_simp
      exact hK _ _ (Below.refl _ _) rfl
    refine BOk.cons rfl [7] [] rfl rfl (by kernel_rfl) (by kernel_rfl) (fun qK qa wr hB qO qF hK => ?_) ?_
    · have e11 : qa.tmps[11]? = some (.pointer (some ⟨mm, 0, none⟩)) := fis qF.1 rfl rfl
      clear qO qF
      go_simp
      exact hK _ _ (Below.refl _ _) rfl
    refine BOk.cons rfl [8] [] rfl rfl (by kernel_rfl) (by kernel_rfl) (fun qK qa wr hB qO qF hK => ?_) ?_
    · have e12 : qa.tmps[12]? = some (.pointer (some ⟨mm, 2, none⟩)) := fis qF.1 rfl rfl
      clear qO qF
      have hm2 := (bcell hB _ _ (World.block_lt_of_cell? _ _ m2)).trans m2
      go_simp
      exact hK _ _ (Below.refl _ _) rfl
    refine BOk.cons rfl [] [3] rfl rfl (by kernel_rfl) (by kernel_rfl) (fun qK qa wr hB qO qF hK => ?_) ?_
    · have e3 : qa.tmps[3]? = some (.pointer (some ⟨w0.heap.size, 0, none⟩)) := qO.1.trans rfl
      clear qO qF
      go_simp
      exact hK _ _ (Below.refl _ _) rfl
    refine BOk.cons rfl [10] [] rfl rfl (by kernel_rfl) (by kernel_rfl) (fun qK qa wr hB qO qF hK => ?_) ?_
    · have e14 : qa.tmps[14]? = some (.pointer (some ⟨w0.heap.size, 2, none⟩)) := fis qF.1 rfl rfl
      clear qO qF
      have hx2 := (bcell hB _ _ (World.block_lt_of_cell? _ _ x2)).trans x2
      go_simp
      exact hK _ _ (Below.refl _ _) rfl
    refine BOk.cons rfl [9, 11] [] rfl rfl (by kernel_rfl) (by kernel_rfl) (fun qK qa wr hB qO qF hK => ?_) ?_
    · have e13 : qa.tmps[13]? = some (.slice A1 ins.length c1) := fis qF.1 rfl rfl
      have e15 : qa.tmps[15]? = some (.int .i64 a) := fis qF.2.1 rfl rfl
      clear qO qF
      go_simp
      go_at_call 20
      refine (HY.out _ hB).mono ?_
      rintro e w2 ⟨rfl, hb2⟩
      exact hK _ _ hb2 rfl
    exact BOk.nil
  intro vals wr hl hB hR hS
  match vals, hl with
  | [z4, z5, z6, z7, z8, z9, z10, z11, z12, z13, z14, z15, z16], _ =>
  have r3 : z7 = .slice (some ⟨rg, 0, none⟩) regs.length regs.length := hR 3 _ rfl
  subst r3
  have r5 : z9 = .int .i64 dst := hR 5 _ rfl
  subst r5
  have r12 : z16 = .agg #[.int .i64 Y.k, .int .u64 Y.b] := hR 12 _ rfl
  subst r12
  clear hS
  clear hR
  simp only [List.take_succ_cons, List.take_zero, List.drop_succ_cons, List.drop_zero, List.toList_toArray, List.cons_append, List.nil_append, putAll, Act.put, List.setIfInBounds_toArray, List.set_cons_zero, List.set_cons_succ]
  have hm := HM.out.old hB
  go_wp2_with (go_at_call 47; refine (set_any rg regs _ (Nat.le_refl _) dst Y _ hm.rr (Nat.le_trans hm.l1 (by decide))).mono ?_; rintro e w3 ⟨rfl, hr3, hg3⟩)
  exact bodyPost_end (v := .tuple #[]) (by simp [results, Try.results34, go_sem]) rfl ⟨rfl, hr3, (gb_of _ (HB.out.trans (hB.mono HB.out.size))).trans hg3⟩

def regkonst (op dst a b : Int) (mm rg sg : Nat) (regs slots ins ks : List V) (A1 A2 : Option Addr) (c1 c2 : Nat) (Y Z U : V) (w0 : World) : List Spec := [.is (.pointer (some ⟨mm, 0, none⟩)),
  .is (.pointer (some ⟨mm, 0, none⟩)),
  .is (.pointer (some ⟨mm, 0, none⟩)),
  .is (.slice (some ⟨rg, 0, none⟩) regs.length regs.length),
  .is (.pointer (some ⟨w0.heap.size, 1, none⟩)),
  .is (.int .i64 dst),
  .is (.pointer (some ⟨mm, 0, none⟩)),
  .is (.pointer (some ⟨mm, 0, none⟩)),
  .is (.pointer (some ⟨mm, 3, none⟩)),
  .is (.slice A2 ks.length c2),
  .is (.pointer (some ⟨w0.heap.size, 2, none⟩)),
  .is (.int .i64 a),
  .is (.agg #[.int .i64 Y.k, .int .u64 Y.b])]
set_option maxRecDepth 100000 in
set_option maxHeartbeats 2000000 in
theorem m_konst_any (op dst a b : Int) (B mm rg sg : Nat) (regs slots ins ks : List V) (A1 A2 : Option Addr) (c1 c2 : Nat) (w0 : World) (hm0 : Mach w0 B ⟨mm, rg, sg, regs, slots, A1, c1, ins, A2, c2, ks⟩) :
    Calls Try.prog 35 #[.pointer (some ⟨mm, 0, none⟩), .agg #[.int .i64 op, .int .i64 dst, .int .i64 a, .int .i64 b]] w0 fun e w' => e = .returned (.tuple #[]) ∧ Row w' rg (setL regs dst (takeL ks a)) ∧ w0.grownBy w' (some rg) := by
  obtain ⟨Y, hY⟩ : ∃ Y, takeL ks a = Y := ⟨_, rfl⟩
  have hYf : Y.fits := by rw [← hY]; exact take_fits _ hm0.f4
  rw [hY]
  have hb0 : Below w0.heap.size w0 (w0.alloc (.cells #[.int .i64 op, .int .i64 dst, .int .i64 a, .int .i64 b] 43)) := (Below.refl _ _).alloc (Nat.le_refl _) _
  have hx := Bk.new w0 43 #[.int .i64 op, .int .i64 dst, .int .i64 a, .int .i64 b]
  have x0 := hx.cell 0
  have x1 := hx.cell 1
  have x2 := hx.cell 2
  have x3 := hx.cell 3
  have hm1 := hm0.old hb0
  have m0 : (w0.alloc (.cells #[.int .i64 op, .int .i64 dst, .int .i64 a, .int .i64 b] 43)).cell? ⟨mm, 0, none⟩ = some (.slice (some ⟨rg, 0, none⟩) regs.length regs.length) := hm1.mb.cell 0
  have m1 : (w0.alloc (.cells #[.int .i64 op, .int .i64 dst, .int .i64 a, .int .i64 b] 43)).cell? ⟨mm, 1, none⟩ = some (.slice (some ⟨sg, 0, none⟩) slots.length slots.length) := hm1.mb.cell 1
  have m2 : (w0.alloc (.cells #[.int .i64 op, .int .i64 dst, .int .i64 a, .int .i64 b] 43)).cell? ⟨mm, 2, none⟩ = some (.slice A1 ins.length c1) := hm1.mb.cell 2
  have m3 : (w0.alloc (.cells #[.int .i64 op, .int .i64 dst, .int .i64 a, .int .i64 b] 43)).cell? ⟨mm, 3, none⟩ = some (.slice A2 ks.length c2) := hm1.mb.cell 3
  have hcY : ∀ w' : World, Below (w0.alloc (.cells #[.int .i64 op, .int .i64 dst, .int .i64 a, .int .i64 b] 43)).heap.size (w0.alloc (.cells #[.int .i64 op, .int .i64 dst, .int .i64 a, .int .i64 b] 43)) w' → Calls Try.prog 20 #[.slice A2 ks.length c2, .int .i64 a] w' fun e w2 => e = .returned (.agg #[.int .i64 Y.k, .int .u64 Y.b]) ∧ Below w'.heap.size w' w2 := by
    intro w' hw
    have hm := hm1.old hw
    have := get_any A2 c2 ks a w' (hm.rk.more hm.b0) hm.f4 (Nat.le_trans hm.l4 (by decide))
    rw [hY] at this
    exact this
  have HY := Lib.hid hcY
  have HM := Lib.hid hm1
  have HB := Lib.hid hb0
  clear hcY hY hx hm0 hm1 hb0
  go_enter Try.func35, Try.ntmps35
  go_wp2_with fail
  refine wp_region_t 13 (fun k => false) (by kernel_rfl) (fun qk => (regkonst op dst a b mm rg sg regs slots ins ks A1 A2 c1 c2 Y none0 none0 w0).getD qk .any) (by kernel_rfl) ?_ ?_
  · refine BOk.cons rfl [] [0] rfl rfl (by kernel_rfl) (by kernel_rfl) (fun qK qa wr hB qO qF hK => ?_) ?_
    · have e0 : qa.tmps[0]? = some (.pointer (some ⟨mm, 0, none⟩)) := qO.1.trans rfl
      clear qO qF
      go_simp
      exact hK _ _ (Below.refl _ _) rfl
    refine BOk.cons rfl [0] [] rfl rfl (by kernel_rfl) (by kernel_rfl) (fun qK qa wr hB qO qF hK => ?_) ?_
    · have e4 : qa.tmps[4]? = some (.pointer (some ⟨mm, 0, none⟩)) := fis qF.1 rfl rfl
      clear qO qF
      go_simp
      exact hK _ _ (Below.refl _ _) rfl
    refine BOk.cons rfl [1] [] rfl rfl (by kernel_rfl) (by kernel_rfl) (fun qK qa wr hB qO qF hK => ?_) ?_
    · have e5 : qa.tmps[5]? = some (.pointer (some ⟨mm, 0, none⟩)) := fis qF.1 rfl rfl
      clear qO qF
      go_simp
      exact hK _ _ (Below.refl _ _) rfl
    refine BOk.cons rfl [2] [] rfl rfl (by kernel_rfl) (by kernel_rfl) (fun qK qa wr hB qO qF hK => ?_) ?_
    · have e6 : qa.tmps[6]? = some (.pointer (some ⟨mm, 0, none⟩)) := fis qF.1 rfl rfl
      clear qO qF
      have hm0 := (bcell hB _ _ (World.block_lt_of_cell? _ _ m0)).trans m0
      go_simp
      exact hK _ _ (Below.refl _ _) rfl
    refine BOk.cons rfl [] [3] rfl rfl (by kernel_rfl) (by kernel_rfl) (fun qK qa wr hB qO qF hK => ?_) ?_
    · have e3 : qa.tmps[3]? = some (.pointer (some ⟨w0.heap.size, 0, none⟩)) := qO.1.trans rfl
      clear qO qF
      go_simp
      exact hK _ _ (Below.refl _ _) rfl
    refine BOk.cons rfl [4] [] rfl rfl (by kernel_rfl) (by kernel_rfl) (fun qK qa wr hB qO qF hK => ?_) ?_
    · have e8 : qa.tmps[8]? = some (.pointer (some ⟨w0.heap.size, 1, none⟩)) := fis qF.1 rfl rfl
      clear qO qF
      have hx1 := (bcell hB _ _ (World.block_lt_of_cell? _ _ x1)).trans x1
      go_simp
      exact hK _ _ (Below.refl _ _) rfl
    refine BOk.cons rfl [] [0] rfl rfl (by kernel_rfl) (by kernel_rfl) (fun qK qa wr hB qO qF hK => ?_) ?_
    · have e0 : qa.tmps[0]? = some (.pointer (some ⟨mm, 0, none⟩)) := qO.1.trans rfl
      clear qO qF
      go_simp
      exact hK _ _ (Below.refl _ _) rfl
    refine BOk.cons rfl [6] [] rfl rfl (by kernel_rfl) (by kernel_rfl) (fun qK qa wr hB qO qF hK => ?_) ?_
    · have e10 : qa.tmps[10]? = some (.pointer (some ⟨mm, 0, none⟩)) := fis qF.1 rfl rfl
      clear qO qF
      go_simp
      exact hK _ _ (Below.refl _ _) rfl
    refine BOk.cons rfl [7] [] rfl rfl (by kernel_rfl) (by kernel_rfl) (fun qK qa wr hB qO qF hK => ?_) ?_
    · have e11 : qa.tmps[11]? = some (.pointer (some ⟨mm, 0, none⟩)) := fis qF.1 rfl rfl
      clear qO qF
      go_simp
      exact hK _ _ (Below.refl _ _) rfl
    refine BOk.cons rfl [8] [] rfl rfl (by kernel_rfl) (by kernel_rfl) (fun qK qa wr hB qO qF hK => ?_) ?_
    · have e12 : qa.tmps[12]? = some (.pointer (some ⟨mm, 3, none⟩)) := fis qF.1 rfl rfl
      clear qO qF
      have hm3 := (bcell hB _ _ (World.block_lt_of_cell? _ _ m3)).trans m3
      go_simp
      exact hK _ _ (Below.refl _ _) rfl
    refine BOk.cons rfl [] [3] rfl rfl (by kernel_rfl) (by kernel_rfl) (fun qK qa wr hB qO qF hK => ?_) ?_
    · have e3 : qa.tmps[3]? = some (.pointer (some ⟨w0.heap.size, 0, none⟩)) := qO.1.trans rfl
      clear qO qF
      go_simp
      exact hK _ _ (Below.refl _ _) rfl
    refine BOk.cons rfl [10] [] rfl rfl (by kernel_rfl) (by kernel_rfl) (fun qK qa wr hB qO qF hK => ?_) ?_
    · have e14 : qa.tmps[14]? = some (.pointer (some ⟨w0.heap.size, 2, none⟩)) := fis qF.1 rfl rfl
      clear qO qF
      have hx2 := (bcell hB _ _ (World.block_lt_of_cell? _ _ x2)).trans x2
      go_simp
      exact hK _ _ (Below.refl _ _) rfl
    refine BOk.cons rfl [9, 11] [] rfl rfl (by kernel_rfl) (by kernel_rfl) (fun qK qa wr hB qO qF hK => ?_) ?_
    · have e13 : qa.tmps[13]? = some (.slice A2 ks.length c2) := fis qF.1 rfl rfl
      have e15 : qa.tmps[15]? = some (.int .i64 a) := fis qF.2.1 rfl rfl
      clear qO qF
      go_simp
      go_at_call 20
      refine (HY.out _ hB).mono ?_
      rintro e w2 ⟨rfl, hb2⟩
      exact hK _ _ hb2 rfl
    exact BOk.nil
  intro vals wr hl hB hR hS
  match vals, hl with
  | [z4, z5, z6, z7, z8, z9, z10, z11, z12, z13, z14, z15, z16], _ =>
  have r3 : z7 = .slice (some ⟨rg, 0, none⟩) regs.length regs.length := hR 3 _ rfl
  subst r3
  have r5 : z9 = .int .i64 dst := hR 5 _ rfl
  subst r5
  have r12 : z16 = .agg #[.int .i64 Y.k, .int .u64 Y.b] := hR 12 _ rfl
  subst r12
  clear hS
  clear hR
  simp only [List.take_succ_cons, List.take_zero, List.drop_succ_cons, List.drop_zero, List.toList_toArray, List.cons_append, List.nil_append, putAll, Act.put, List.setIfInBounds_toArray, List.set_cons_zero, List.set_cons_succ]
  have hm := HM.out.old hB
  go_wp2_with (go_at_call 47; refine (set_any rg regs _ (Nat.le_refl _) dst Y _ hm.rr (Nat.le_trans hm.l1 (by decide))).mono ?_; rintro e w3 ⟨rfl, hr3, hg3⟩)
  exact bodyPost_end (v := .tuple #[]) (by simp [results, Try.results35, go_sem]) rfl ⟨rfl, hr3, (gb_of _ (HB.out.trans (hB.mono HB.out.size))).trans hg3⟩

def regstore (op dst a b : Int) (mm rg sg : Nat) (regs slots ins ks : List V) (A1 A2 : Option Addr) (c1 c2 : Nat) (Y Z U : V) (w0 : World) : List Spec := [.is (.pointer (some ⟨mm, 0, none⟩)),
  .is (.pointer (some ⟨mm, 0, none⟩)),
  .is (.pointer (some ⟨mm, 1, none⟩)),
  .is (.slice (some ⟨sg, 0, none⟩) slots.length slots.length),
  .is (.pointer (some ⟨w0.heap.size, 2, none⟩)),
  .is (.int .i64 a),
  .is (.pointer (some ⟨mm, 0, none⟩)),
  .is (.pointer (some ⟨mm, 0, none⟩)),
  .is (.pointer (some ⟨mm, 0, none⟩)),
  .is (.slice (some ⟨rg, 0, none⟩) regs.length regs.length),
  .is (.pointer (some ⟨w0.heap.size, 3, none⟩)),
  .is (.int .i64 b),
  .is (.agg #[.int .i64 Z.k, .int .u64 Z.b])]
set_option maxRecDepth 100000 in
set_option maxHeartbeats 2000000 in
theorem m_store_any (op dst a b : Int) (B mm rg sg : Nat) (regs slots ins ks : List V) (A1 A2 : Option Addr) (c1 c2 : Nat) (w0 : World) (hm0 : Mach w0 B ⟨mm, rg, sg, regs, slots, A1, c1, ins, A2, c2, ks⟩) :
    Calls Try.prog 36 #[.pointer (some ⟨mm, 0, none⟩), .agg #[.int .i64 op, .int .i64 dst, .int .i64 a, .int .i64 b]] w0 fun e w' => e = .returned (.tuple #[]) ∧ Row w' sg (setL slots a (takeL regs b)) ∧ w0.grownBy w' (some sg) := by
  obtain ⟨Z, hZ⟩ : ∃ Z, takeL regs b = Z := ⟨_, rfl⟩
  have hZf : Z.fits := by rw [← hZ]; exact take_fits _ hm0.f1
  rw [hZ]
  have hb0 : Below w0.heap.size w0 (w0.alloc (.cells #[.int .i64 op, .int .i64 dst, .int .i64 a, .int .i64 b] 43)) := (Below.refl _ _).alloc (Nat.le_refl _) _
  have hx := Bk.new w0 43 #[.int .i64 op, .int .i64 dst, .int .i64 a, .int .i64 b]
  have x0 := hx.cell 0
  have x1 := hx.cell 1
  have x2 := hx.cell 2
  have x3 := hx.cell 3
  have hm1 := hm0.old hb0
  have m0 : (w0.alloc (.cells #[.int .i64 op, .int .i64 dst, .int .i64 a, .int .i64 b] 43)).cell? ⟨mm, 0, none⟩ = some (.slice (some ⟨rg, 0, none⟩) regs.length regs.length) := hm1.mb.cell 0
  have m1 : (w0.alloc (.cells #[.int .i64 op, .int .i64 dst, .int .i64 a, .int .i64 b] 43)).cell? ⟨mm, 1, none⟩ = some (.slice (some ⟨sg, 0, none⟩) slots.length slots.length) := hm1.mb.cell 1
  have m2 : (w0.alloc (.cells #[.int .i64 op, .int .i64 dst, .int .i64 a, .int .i64 b] 43)).cell? ⟨mm, 2, none⟩ = some (.slice A1 ins.length c1) := hm1.mb.cell 2
  have m3 : (w0.alloc (.cells #[.int .i64 op, .int .i64 dst, .int .i64 a, .int .i64 b] 43)).cell? ⟨mm, 3, none⟩ = some (.slice A2 ks.length c2) := hm1.mb.cell 3
  have hcZ : ∀ w' : World, Below (w0.alloc (.cells #[.int .i64 op, .int .i64 dst, .int .i64 a, .int .i64 b] 43)).heap.size (w0.alloc (.cells #[.int .i64 op, .int .i64 dst, .int .i64 a, .int .i64 b] 43)) w' → Calls Try.prog 20 #[.slice (some ⟨rg, 0, none⟩) regs.length regs.length, .int .i64 b] w' fun e w2 => e = .returned (.agg #[.int .i64 Z.k, .int .u64 Z.b]) ∧ Below w'.heap.size w' w2 := by
    intro w' hw
    have hm := hm1.old hw
    have := get_any (some ⟨rg, 0, none⟩) regs.length regs b w' (Row.rd hm.rr) hm.f1 (Nat.le_trans hm.l1 (by decide))
    rw [hZ] at this
    exact this
  have HZ := Lib.hid hcZ
  have HM := Lib.hid hm1
  have HB := Lib.hid hb0
  clear hcZ hZ hx hm0 hm1 hb0
  go_enter Try.func36, Try.ntmps36
  go_wp2_with fail
  refine wp_region_t 13 (fun k => false) (by kernel_rfl) (fun qk => (regstore op dst a b mm rg sg regs slots ins ks A1 A2 c1 c2 none0 Z none0 w0).getD qk .any) (by kernel_rfl) ?_ ?_
  · refine BOk.cons rfl [] [0] rfl rfl (by kernel_rfl) (by kernel_rfl) (fun qK qa wr hB qO qF hK => ?_) ?_
    · have e0 : qa.tmps[0]? = some (.pointer (some ⟨mm, 0, none⟩)) := qO.1.trans rfl
      clear qO qF
      go_simp
      exact hK _ _ (Below.refl _ _) rfl
    refine BOk.cons rfl [0] [] rfl rfl (by kernel_rfl) (by kernel_rfl) (fun qK qa wr hB qO qF hK => ?_) ?_
    · have e4 : qa.tmps[4]? = some (.pointer (some ⟨mm, 0, none⟩)) := fis qF.1 rfl rfl
      clear qO qF
      go_simp
      exact hK _ _ (Below.refl _ _) rfl
    refine BOk.cons rfl [1] [] rfl rfl (by kernel_rfl) (by kernel_rfl) (fun qK qa wr hB qO qF hK => ?_) ?_
    · have e5 : qa.tmps[5]? = some (.pointer (some ⟨mm, 0, none⟩)) := fis qF.1 rfl rfl
      clear qO qF
      go_simp
      exact hK _ _ (Below.refl _ _) rfl
    refine BOk.cons rfl [2] [] rfl rfl (by kernel_rfl) (by kernel_rfl) (fun qK qa wr hB qO qF hK => ?_) ?_
    · have e6 : qa.tmps[6]? = some (.pointer (some ⟨mm, 1, none⟩)) := fis qF.1 rfl rfl
      clear qO qF
      have hm1 := (bcell hB _ _ (World.block_lt_of_cell? _ _ m1)).trans m1
      go_simp
      exact hK _ _ (Below.refl _ _) rfl
    refine BOk.cons rfl [] [3] rfl rfl (by kernel_rfl) (by kernel_rfl) (fun qK qa wr hB qO qF hK => ?_) ?_
    · have e3 : qa.tmps[3]? = some (.pointer (some ⟨w0.heap.size, 0, none⟩)) := qO.1.trans rfl
      clear qO qF
      go_simp
      exact hK _ _ (Below.refl _ _) rfl
    refine BOk.cons rfl [4] [] rfl rfl (by kernel_rfl) (by kernel_rfl) (fun qK qa wr hB qO qF hK => ?_) ?_
    · have e8 : qa.tmps[8]? = some (.pointer (some ⟨w0.heap.size, 2, none⟩)) := fis qF.1 rfl rfl
      clear qO qF
      have hx2 := (bcell hB _ _ (World.block_lt_of_cell? _ _ x2)).trans x2
      go_simp
      exact hK _ _ (Below.refl _ _) rfl
    refine BOk.cons rfl [] [0] rfl rfl (by kernel_rfl) (by kernel_rfl) (fun qK qa wr hB qO qF hK => ?_) ?_
    · have e0 : qa.tmps[0]? = some (.pointer (some ⟨mm, 0, none⟩)) := qO.1.trans rfl
      clear qO qF
      go_simp
      exact hK _ _ (Below.refl _ _) rfl
    refine BOk.cons rfl [6] [] rfl rfl (by kernel_rfl) (by kernel_rfl) (fun qK qa wr hB qO qF hK => ?_) ?_
    · have e10 : qa.tmps[10]? = some (.pointer (some ⟨mm, 0, none⟩)) := fis qF.1 rfl rfl
      clear qO qF
      go_simp
      exact hK _ _ (Below.refl _ _) rfl
    refine BOk.cons rfl [7] [] rfl rfl (by kernel_rfl) (by kernel_rfl) (fun qK qa wr hB qO qF hK => ?_) ?_
    · have e11 : qa.tmps[11]? = some (.pointer (some ⟨mm, 0, none⟩)) := fis qF.1 rfl rfl
      clear qO qF
      go_simp
      exact hK _ _ (Below.refl _ _) rfl
    refine BOk.cons rfl [8] [] rfl rfl (by kernel_rfl) (by kernel_rfl) (fun qK qa wr hB qO qF hK => ?_) ?_
    · have e12 : qa.tmps[12]? = some (.pointer (some ⟨mm, 0, none⟩)) := fis qF.1 rfl rfl
      clear qO qF
      have hm0 := (bcell hB _ _ (World.block_lt_of_cell? _ _ m0)).trans m0
      go_simp
      exact hK _ _ (Below.refl _ _) rfl
    refine BOk.cons rfl [] [3] rfl rfl (by kernel_rfl) (by kernel_rfl) (fun qK qa wr hB qO qF hK => ?_) ?_
    · have e3 : qa.tmps[3]? = some (.pointer (some ⟨w0.heap.size, 0, none⟩)) := qO.1.trans rfl
      clear qO qF
      go_simp
      exact hK _ _ (Below.refl _ _) rfl
    refine BOk.cons rfl [10] [] rfl rfl (by kernel_rfl) (by kernel_rfl) (fun qK qa wr hB qO qF hK => ?_) ?_
    · have e14 : qa.tmps[14]? = some (.pointer (some ⟨w0.heap.size, 3, none⟩)) := fis qF.1 rfl rfl
      clear qO qF
      have hx3 := (bcell hB _ _ (World.block_lt_of_cell? _ _ x3)).trans x3
      go_simp
      exact hK _ _ (Below.refl _ _) rfl
    refine BOk.cons rfl [9, 11] [] rfl rfl (by kernel_rfl) (by kernel_rfl) (fun qK qa wr hB qO qF hK => ?_) ?_
    · have e13 : qa.tmps[13]? = some (.slice (some ⟨rg, 0, none⟩) regs.length regs.length) := fis qF.1 rfl rfl
      have e15 : qa.tmps[15]? = some (.int .i64 b) := fis qF.2.1 rfl rfl
      clear qO qF
      go_simp
      go_at_call 20
      refine (HZ.out _ hB).mono ?_
      rintro e w2 ⟨rfl, hb2⟩
      exact hK _ _ hb2 rfl
    exact BOk.nil
  intro vals wr hl hB hR hS
  match vals, hl with
  | [z4, z5, z6, z7, z8, z9, z10, z11, z12, z13, z14, z15, z16], _ =>
  have r3 : z7 = .slice (some ⟨sg, 0, none⟩) slots.length slots.length := hR 3 _ rfl
  subst r3
  have r5 : z9 = .int .i64 a := hR 5 _ rfl
  subst r5
  have r12 : z16 = .agg #[.int .i64 Z.k, .int .u64 Z.b] := hR 12 _ rfl
  subst r12
  clear hS
  clear hR
  simp only [List.take_succ_cons, List.take_zero, List.drop_succ_cons, List.drop_zero, List.toList_toArray, List.cons_append, List.nil_append, putAll, Act.put, List.setIfInBounds_toArray, List.set_cons_zero, List.set_cons_succ]
  have hm := HM.out.old hB
  go_wp2_with (go_at_call 47; refine (set_any sg slots _ (Nat.le_refl _) a Z _ hm.ss (Nat.le_trans hm.l2 (by decide))).mono ?_; rintro e w3 ⟨rfl, hr3, hg3⟩)
  exact bodyPost_end (v := .tuple #[]) (by simp [results, Try.results36, go_sem]) rfl ⟨rfl, hr3, (gb_of _ (HB.out.trans (hB.mono HB.out.size))).trans hg3⟩

def regload (op dst a b : Int) (mm rg sg : Nat) (regs slots ins ks : List V) (A1 A2 : Option Addr) (c1 c2 : Nat) (Y Z U : V) (w0 : World) : List Spec := [.is (.pointer (some ⟨mm, 0, none⟩)),
  .is (.pointer (some ⟨mm, 0, none⟩)),
  .is (.pointer (some ⟨mm, 0, none⟩)),
  .is (.slice (some ⟨rg, 0, none⟩) regs.length regs.length),
  .is (.pointer (some ⟨w0.heap.size, 1, none⟩)),
  .is (.int .i64 dst),
  .is (.pointer (some ⟨mm, 0, none⟩)),
  .is (.pointer (some ⟨mm, 0, none⟩)),
  .is (.pointer (some ⟨mm, 1, none⟩)),
  .is (.slice (some ⟨sg, 0, none⟩) slots.length slots.length),
  .is (.pointer (some ⟨w0.heap.size, 2, none⟩)),
  .is (.int .i64 a),
  .is (.agg #[.int .i64 Y.k, .int .u64 Y.b])]
set_option maxRecDepth 100000 in
set_option maxHeartbeats 2000000 in
theorem m_load_any (op dst a b : Int) (B mm rg sg : Nat) (regs slots ins ks : List V) (A1 A2 : Option Addr) (c1 c2 : Nat) (w0 : World) (hm0 : Mach w0 B ⟨mm, rg, sg, regs, slots, A1, c1, ins, A2, c2, ks⟩) :
    Calls Try.prog 37 #[.pointer (some ⟨mm, 0, none⟩), .agg #[.int .i64 op, .int .i64 dst, .int .i64 a, .int .i64 b]] w0 fun e w' => e = .returned (.tuple #[]) ∧ Row w' rg (setL regs dst (takeL slots a)) ∧ w0.grownBy w' (some rg) := by
  obtain ⟨Y, hY⟩ : ∃ Y, takeL slots a = Y := ⟨_, rfl⟩
  have hYf : Y.fits := by rw [← hY]; exact take_fits _ hm0.f2
  rw [hY]
  have hb0 : Below w0.heap.size w0 (w0.alloc (.cells #[.int .i64 op, .int .i64 dst, .int .i64 a, .int .i64 b] 43)) := (Below.refl _ _).alloc (Nat.le_refl _) _
  have hx := Bk.new w0 43 #[.int .i64 op, .int .i64 dst, .int .i64 a, .int .i64 b]
  have x0 := hx.cell 0
  have x1 := hx.cell 1
  have x2 := hx.cell 2
  have x3 := hx.cell 3
  have hm1 := hm0.old hb0
  have m0 : (w0.alloc (.cells #[.int .i64 op, .int .i64 dst, .int .i64 a, .int .i64 b] 43)).cell? ⟨mm, 0, none⟩ = some (.slice (some ⟨rg, 0, none⟩) regs.length regs.length) := hm1.mb.cell 0
  have m1 : (w0.alloc (.cells #[.int .i64 op, .int .i64 dst, .int .i64 a, .int .i64 b] 43)).cell? ⟨mm, 1, none⟩ = some (.slice (some ⟨sg, 0, none⟩) slots.length slots.length) := hm1.mb.cell 1
  have m2 : (w0.alloc (.cells #[.int .i64 op, .int .i64 dst, .int .i64 a, .int .i64 b] 43)).cell? ⟨mm, 2, none⟩ = some (.slice A1 ins.length c1) := hm1.mb.cell 2
  have m3 : (w0.alloc (.cells #[.int .i64 op, .int .i64 dst, .int .i64 a, .int .i64 b] 43)).cell? ⟨mm, 3, none⟩ = some (.slice A2 ks.length c2) := hm1.mb.cell 3
  have hcY : ∀ w' : World, Below (w0.alloc (.cells #[.int .i64 op, .int .i64 dst, .int .i64 a, .int .i64 b] 43)).heap.size (w0.alloc (.cells #[.int .i64 op, .int .i64 dst, .int .i64 a, .int .i64 b] 43)) w' → Calls Try.prog 20 #[.slice (some ⟨sg, 0, none⟩) slots.length slots.length, .int .i64 a] w' fun e w2 => e = .returned (.agg #[.int .i64 Y.k, .int .u64 Y.b]) ∧ Below w'.heap.size w' w2 := by
    intro w' hw
    have hm := hm1.old hw
    have := get_any (some ⟨sg, 0, none⟩) slots.length slots a w' (Row.rd hm.ss) hm.f2 (Nat.le_trans hm.l2 (by decide))
    rw [hY] at this
    exact this
  have HY := Lib.hid hcY
  have HM := Lib.hid hm1
  have HB := Lib.hid hb0
  clear hcY hY hx hm0 hm1 hb0
  go_enter Try.func37, Try.ntmps37
  go_wp2_with fail
  refine wp_region_t 13 (fun k => false) (by kernel_rfl) (fun qk => (regload op dst a b mm rg sg regs slots ins ks A1 A2 c1 c2 Y none0 none0 w0).getD qk .any) (by kernel_rfl) ?_ ?_
  · refine BOk.cons rfl [] [0] rfl rfl (by kernel_rfl) (by kernel_rfl) (fun qK qa wr hB qO qF hK => ?_) ?_
    · have e0 : qa.tmps[0]? = some (.pointer (some ⟨mm, 0, none⟩)) := qO.1.trans rfl
      clear qO qF
      go_simp
      exact hK _ _ (Below.refl _ _) rfl
    refine BOk.cons rfl [0] [] rfl rfl (by kernel_rfl) (by kernel_rfl) (fun qK qa wr hB qO qF hK => ?_) ?_
    · have e4 : qa.tmps[4]? = some (.pointer (some ⟨mm, 0, none⟩)) := fis qF.1 rfl rfl
      clear qO qF
      go_simp
      exact hK _ _ (Below.refl _ _) rfl
    refine BOk.cons rfl [1] [] rfl rfl (by kernel_rfl) (by kernel_rfl) (fun qK qa wr hB qO qF hK => ?_) ?_
    · have e5 : qa.tmps[5]? = some (.pointer (some ⟨mm, 0, none⟩)) := fis qF.1 rfl rfl
      clear qO qF
      go_simp
      exact hK _ _ (Below.refl _ _) rfl
    refine BOk.cons rfl [2] [] rfl rfl (by kernel_rfl) (by kernel_rfl) (fun qK qa wr hB qO qF hK => ?_) ?_
    · have e6 : qa.tmps[6]? = some (.pointer (some ⟨mm, 0, none⟩)) := fis qF.1 rfl rfl
      clear qO qF
      have hm0 := (bcell hB _ _ (World.block_lt_of_cell? _ _ m0)).trans m0
      go_simp
      exact hK _ _ (Below.refl _ _) rfl
    refine BOk.cons rfl [] [3] rfl rfl (by kernel_rfl) (by kernel_rfl) (fun qK qa wr hB qO qF hK => ?_) ?_
    · have e3 : qa.tmps[3]? = some (.pointer (some ⟨w0.heap.size, 0, none⟩)) := qO.1.trans rfl
      clear qO qF
      go_simp
      exact hK _ _ (Below.refl _ _) rfl
    refine BOk.cons rfl [4] [] rfl rfl (by kernel_rfl) (by kernel_rfl) (fun qK qa wr hB qO qF hK => ?_) ?_
    · have e8 : qa.tmps[8]? = some (.pointer (some ⟨w0.heap.size, 1, none⟩)) := fis qF.1 rfl rfl
      clear qO qF
      have hx1 := (bcell hB _ _ (World.block_lt_of_cell? _ _ x1)).trans x1
      go_simp
      exact hK _ _ (Below.refl _ _) rfl
    refine BOk.cons rfl [] [0] rfl rfl (by kernel_rfl) (by kernel_rfl) (fun qK qa wr hB qO qF hK => ?_) ?_
    · have e0 : qa.tmps[0]? = some (.pointer (some ⟨mm, 0, none⟩)) := qO.1.trans rfl
      clear qO qF
      go_simp
      exact hK _ _ (Below.refl _ _) rfl
    refine BOk.cons rfl [6] [] rfl rfl (by kernel_rfl) (by kernel_rfl) (fun qK qa wr hB qO qF hK => ?_) ?_
    · have e10 : qa.tmps[10]? = some (.pointer (some ⟨mm, 0, none⟩)) := fis qF.1 rfl rfl
      clear qO qF
      go_simp
      exact hK _ _ (Below.refl _ _) rfl
    refine BOk.cons rfl [7] [] rfl rfl (by kernel_rfl) (by kernel_rfl) (fun qK qa wr hB qO qF hK => ?_) ?_
    · have e11 : qa.tmps[11]? = some (.pointer (some ⟨mm, 0, none⟩)) := fis qF.1 rfl rfl
      clear qO qF
      go_simp
      exact hK _ _ (Below.refl _ _) rfl
    refine BOk.cons rfl [8] [] rfl rfl (by kernel_rfl) (by kernel_rfl) (fun qK qa wr hB qO qF hK => ?_) ?_
    · have e12 : qa.tmps[12]? = some (.pointer (some ⟨mm, 1, none⟩)) := fis qF.1 rfl rfl
      clear qO qF
      have hm1 := (bcell hB _ _ (World.block_lt_of_cell? _ _ m1)).trans m1
      go_simp
      exact hK _ _ (Below.refl _ _) rfl
    refine BOk.cons rfl [] [3] rfl rfl (by kernel_rfl) (by kernel_rfl) (fun qK qa wr hB qO qF hK => ?_) ?_
    · have e3 : qa.tmps[3]? = some (.pointer (some ⟨w0.heap.size, 0, none⟩)) := qO.1.trans rfl
      clear qO qF
      go_simp
      exact hK _ _ (Below.refl _ _) rfl
    refine BOk.cons rfl [10] [] rfl rfl (by kernel_rfl) (by kernel_rfl) (fun qK qa wr hB qO qF hK => ?_) ?_
    · have e14 : qa.tmps[14]? = some (.pointer (some ⟨w0.heap.size, 2, none⟩)) := fis qF.1 rfl rfl
      clear qO qF
      have hx2 := (bcell hB _ _ (World.block_lt_of_cell? _ _ x2)).trans x2
      go_simp
      exact hK _ _ (Below.refl _ _) rfl
    refine BOk.cons rfl [9, 11] [] rfl rfl (by kernel_rfl) (by kernel_rfl) (fun qK qa wr hB qO qF hK => ?_) ?_
    · have e13 : qa.tmps[13]? = some (.slice (some ⟨sg, 0, none⟩) slots.length slots.length) := fis qF.1 rfl rfl
      have e15 : qa.tmps[15]? = some (.int .i64 a) := fis qF.2.1 rfl rfl
      clear qO qF
      go_simp
      go_at_call 20
      refine (HY.out _ hB).mono ?_
      rintro e w2 ⟨rfl, hb2⟩
      exact hK _ _ hb2 rfl
    exact BOk.nil
  intro vals wr hl hB hR hS
  match vals, hl with
  | [z4, z5, z6, z7, z8, z9, z10, z11, z12, z13, z14, z15, z16], _ =>
  have r3 : z7 = .slice (some ⟨rg, 0, none⟩) regs.length regs.length := hR 3 _ rfl
  subst r3
  have r5 : z9 = .int .i64 dst := hR 5 _ rfl
  subst r5
  have r12 : z16 = .agg #[.int .i64 Y.k, .int .u64 Y.b] := hR 12 _ rfl
  subst r12
  clear hS
  clear hR
  simp only [List.take_succ_cons, List.take_zero, List.drop_succ_cons, List.drop_zero, List.toList_toArray, List.cons_append, List.nil_append, putAll, Act.put, List.setIfInBounds_toArray, List.set_cons_zero, List.set_cons_succ]
  have hm := HM.out.old hB
  go_wp2_with (go_at_call 47; refine (set_any rg regs _ (Nat.le_refl _) dst Y _ hm.rr (Nat.le_trans hm.l1 (by decide))).mono ?_; rintro e w3 ⟨rfl, hr3, hg3⟩)
  exact bodyPost_end (v := .tuple #[]) (by simp [results, Try.results37, go_sem]) rfl ⟨rfl, hr3, (gb_of _ (HB.out.trans (hB.mono HB.out.size))).trans hg3⟩

def regone (op dst a b : Int) (mm rg sg : Nat) (regs slots ins ks : List V) (A1 A2 : Option Addr) (c1 c2 : Nat) (Y Z U : V) (w0 : World) : List Spec := [.is (.pointer (some ⟨mm, 0, none⟩)),
  .is (.pointer (some ⟨mm, 0, none⟩)),
  .is (.pointer (some ⟨mm, 0, none⟩)),
  .is (.slice (some ⟨rg, 0, none⟩) regs.length regs.length),
  .is (.pointer (some ⟨w0.heap.size, 1, none⟩)),
  .is (.int .i64 dst),
  .is (.pointer (some ⟨w0.heap.size, 0, none⟩)),
  .is (.int .i64 op),
  .is (.pointer (some ⟨mm, 0, none⟩)),
  .is (.pointer (some ⟨mm, 0, none⟩)),
  .is (.pointer (some ⟨mm, 0, none⟩)),
  .is (.slice (some ⟨rg, 0, none⟩) regs.length regs.length),
  .is (.pointer (some ⟨w0.heap.size, 2, none⟩)),
  .is (.int .i64 a),
  .is (.agg #[.int .i64 Y.k, .int .u64 Y.b]),
  .st (fun v w => ∃ g, v = .slice (some ⟨g, 0, none⟩) 1 1 ∧ Bk w g 31 #[.int .i64 Y.k, .int .u64 Y.b]) (fun _ _ _ hb ⟨g, h1, h2⟩ => ⟨g, h1, h2.old hb⟩),
  .is (.agg #[.int .i64 U.k, .int .u64 U.b])]
set_option maxRecDepth 100000 in
set_option maxHeartbeats 2000000 in
theorem m_one_any (op dst a b : Int) (B mm rg sg : Nat) (regs slots ins ks : List V) (A1 A2 : Option Addr) (c1 c2 : Nat) (w0 : World) (hm0 : Mach w0 B ⟨mm, rg, sg, regs, slots, A1, c1, ins, A2, c2, ks⟩) :
    Calls Try.prog 38 #[.pointer (some ⟨mm, 0, none⟩), .agg #[.int .i64 op, .int .i64 dst, .int .i64 a, .int .i64 b]] w0 fun e w' => e = .returned (.tuple #[]) ∧ Row w' rg (setL regs dst (applyV op [takeL regs a])) ∧ w0.grownBy w' (some rg) := by
  obtain ⟨Y, hY⟩ : ∃ Y, takeL regs a = Y := ⟨_, rfl⟩
  obtain ⟨U, hU⟩ : ∃ U, applyV op [Y] = U := ⟨_, rfl⟩
  have hYf : Y.fits := by rw [← hY]; exact take_fits _ hm0.f1
  rw [hY, hU]
  have hb0 : Below w0.heap.size w0 (w0.alloc (.cells #[.int .i64 op, .int .i64 dst, .int .i64 a, .int .i64 b] 43)) := (Below.refl _ _).alloc (Nat.le_refl _) _
  have hx := Bk.new w0 43 #[.int .i64 op, .int .i64 dst, .int .i64 a, .int .i64 b]
  have x0 := hx.cell 0
  have x1 := hx.cell 1
  have x2 := hx.cell 2
  have x3 := hx.cell 3
  have hm1 := hm0.old hb0
  have m0 : (w0.alloc (.cells #[.int .i64 op, .int .i64 dst, .int .i64 a, .int .i64 b] 43)).cell? ⟨mm, 0, none⟩ = some (.slice (some ⟨rg, 0, none⟩) regs.length regs.length) := hm1.mb.cell 0
  have m1 : (w0.alloc (.cells #[.int .i64 op, .int .i64 dst, .int .i64 a, .int .i64 b] 43)).cell? ⟨mm, 1, none⟩ = some (.slice (some ⟨sg, 0, none⟩) slots.length slots.length) := hm1.mb.cell 1
  have m2 : (w0.alloc (.cells #[.int .i64 op, .int .i64 dst, .int .i64 a, .int .i64 b] 43)).cell? ⟨mm, 2, none⟩ = some (.slice A1 ins.length c1) := hm1.mb.cell 2
  have m3 : (w0.alloc (.cells #[.int .i64 op, .int .i64 dst, .int .i64 a, .int .i64 b] 43)).cell? ⟨mm, 3, none⟩ = some (.slice A2 ks.length c2) := hm1.mb.cell 3
  have hcY : ∀ w' : World, Below (w0.alloc (.cells #[.int .i64 op, .int .i64 dst, .int .i64 a, .int .i64 b] 43)).heap.size (w0.alloc (.cells #[.int .i64 op, .int .i64 dst, .int .i64 a, .int .i64 b] 43)) w' → Calls Try.prog 20 #[.slice (some ⟨rg, 0, none⟩) regs.length regs.length, .int .i64 a] w' fun e w2 => e = .returned (.agg #[.int .i64 Y.k, .int .u64 Y.b]) ∧ Below w'.heap.size w' w2 := by
    intro w' hw
    have hm := hm1.old hw
    have := get_any (some ⟨rg, 0, none⟩) regs.length regs a w' (Row.rd hm.rr) hm.f1 (Nat.le_trans hm.l1 (by decide))
    rw [hY] at this
    exact this
  have HY := Lib.hid hcY
  have HU := Lib.hid hU
  have HM := Lib.hid hm1
  have HB := Lib.hid hb0
  clear hcY hY hU hx hm0 hm1 hb0
  go_enter Try.func38, Try.ntmps38
  go_wp2_with fail
  refine wp_region_t 17 (fun k => false) (by kernel_rfl) (fun qk => (regone op dst a b mm rg sg regs slots ins ks A1 A2 c1 c2 Y none0 U w0).getD qk .any) (by kernel_rfl) ?_ ?_
  · refine BOk.cons rfl [] [0] rfl rfl (by kernel_rfl) (by kernel_rfl) (fun qK qa wr hB qO qF hK => ?_) ?_
    · have e0 : qa.tmps[0]? = some (.pointer (some ⟨mm, 0, none⟩)) := qO.1.trans rfl
      clear qO qF
      go_simp
      exact hK _ _ (Below.refl _ _) rfl
    refine BOk.cons rfl [0] [] rfl rfl (by kernel_rfl) (by kernel_rfl) (fun qK qa wr hB qO qF hK => ?_) ?_
    · have e4 : qa.tmps[4]? = some (.pointer (some ⟨mm, 0, none⟩)) := fis qF.1 rfl rfl
      clear qO qF
      go_simp
      exact hK _ _ (Below.refl _ _) rfl
    refine BOk.cons rfl [1] [] rfl rfl (by kernel_rfl) (by kernel_rfl) (fun qK qa wr hB qO qF hK => ?_) ?_
    · have e5 : qa.tmps[5]? = some (.pointer (some ⟨mm, 0, none⟩)) := fis qF.1 rfl rfl
      clear qO qF
      go_simp
      exact hK _ _ (Below.refl _ _) rfl
    refine BOk.cons rfl [2] [] rfl rfl (by kernel_rfl) (by kernel_rfl) (fun qK qa wr hB qO qF hK => ?_) ?_
    · have e6 : qa.tmps[6]? = some (.pointer (some ⟨mm, 0, none⟩)) := fis qF.1 rfl rfl
      clear qO qF
      have hm0 := (bcell hB _ _ (World.block_lt_of_cell? _ _ m0)).trans m0
      go_simp
      exact hK _ _ (Below.refl _ _) rfl
    refine BOk.cons rfl [] [3] rfl rfl (by kernel_rfl) (by kernel_rfl) (fun qK qa wr hB qO qF hK => ?_) ?_
    · have e3 : qa.tmps[3]? = some (.pointer (some ⟨w0.heap.size, 0, none⟩)) := qO.1.trans rfl
      clear qO qF
      go_simp
      exact hK _ _ (Below.refl _ _) rfl
    refine BOk.cons rfl [4] [] rfl rfl (by kernel_rfl) (by kernel_rfl) (fun qK qa wr hB qO qF hK => ?_) ?_
    · have e8 : qa.tmps[8]? = some (.pointer (some ⟨w0.heap.size, 1, none⟩)) := fis qF.1 rfl rfl
      clear qO qF
      have hx1 := (bcell hB _ _ (World.block_lt_of_cell? _ _ x1)).trans x1
      go_simp
      exact hK _ _ (Below.refl _ _) rfl
    refine BOk.cons rfl [] [3] rfl rfl (by kernel_rfl) (by kernel_rfl) (fun qK qa wr hB qO qF hK => ?_) ?_
    · have e3 : qa.tmps[3]? = some (.pointer (some ⟨w0.heap.size, 0, none⟩)) := qO.1.trans rfl
      clear qO qF
      go_simp
      exact hK _ _ (Below.refl _ _) rfl
    refine BOk.cons rfl [6] [] rfl rfl (by kernel_rfl) (by kernel_rfl) (fun qK qa wr hB qO qF hK => ?_) ?_
    · have e10 : qa.tmps[10]? = some (.pointer (some ⟨w0.heap.size, 0, none⟩)) := fis qF.1 rfl rfl
      clear qO qF
      have hx0 := (bcell hB _ _ (World.block_lt_of_cell? _ _ x0)).trans x0
      go_simp
      exact hK _ _ (Below.refl _ _) rfl
    refine BOk.cons rfl [] [0] rfl rfl (by kernel_rfl) (by kernel_rfl) (fun qK qa wr hB qO qF hK => ?_) ?_
    · have e0 : qa.tmps[0]? = some (.pointer (some ⟨mm, 0, none⟩)) := qO.1.trans rfl
      clear qO qF
      go_simp
      exact hK _ _ (Below.refl _ _) rfl
    refine BOk.cons rfl [8] [] rfl rfl (by kernel_rfl) (by kernel_rfl) (fun qK qa wr hB qO qF hK => ?_) ?_
    · have e12 : qa.tmps[12]? = some (.pointer (some ⟨mm, 0, none⟩)) := fis qF.1 rfl rfl
      clear qO qF
      go_simp
      exact hK _ _ (Below.refl _ _) rfl
    refine BOk.cons rfl [9] [] rfl rfl (by kernel_rfl) (by kernel_rfl) (fun qK qa wr hB qO qF hK => ?_) ?_
    · have e13 : qa.tmps[13]? = some (.pointer (some ⟨mm, 0, none⟩)) := fis qF.1 rfl rfl
      clear qO qF
      go_simp
      exact hK _ _ (Below.refl _ _) rfl
    refine BOk.cons rfl [10] [] rfl rfl (by kernel_rfl) (by kernel_rfl) (fun qK qa wr hB qO qF hK => ?_) ?_
    · have e14 : qa.tmps[14]? = some (.pointer (some ⟨mm, 0, none⟩)) := fis qF.1 rfl rfl
      clear qO qF
      have hm0 := (bcell hB _ _ (World.block_lt_of_cell? _ _ m0)).trans m0
      go_simp
      exact hK _ _ (Below.refl _ _) rfl
    refine BOk.cons rfl [] [3] rfl rfl (by kernel_rfl) (by kernel_rfl) (fun qK qa wr hB qO qF hK => ?_) ?_
    · have e3 : qa.tmps[3]? = some (.pointer (some ⟨w0.heap.size, 0, none⟩)) := qO.1.trans rfl
      clear qO qF
      go_simp
      exact hK _ _ (Below.refl _ _) rfl
    refine BOk.cons rfl [12] [] rfl rfl (by kernel_rfl) (by kernel_rfl) (fun qK qa wr hB qO qF hK => ?_) ?_
    · have e16 : qa.tmps[16]? = some (.pointer (some ⟨w0.heap.size, 2, none⟩)) := fis qF.1 rfl rfl
      clear qO qF
      have hx2 := (bcell hB _ _ (World.block_lt_of_cell? _ _ x2)).trans x2
      go_simp
      exact hK _ _ (Below.refl _ _) rfl
    refine BOk.cons rfl [11, 13] [] rfl rfl (by kernel_rfl) (by kernel_rfl) (fun qK qa wr hB qO qF hK => ?_) ?_
    · have e15 : qa.tmps[15]? = some (.slice (some ⟨rg, 0, none⟩) regs.length regs.length) := fis qF.1 rfl rfl
      have e17 : qa.tmps[17]? = some (.int .i64 a) := fis qF.2.1 rfl rfl
      clear qO qF
      go_simp
      go_at_call 20
      refine (HY.out _ hB).mono ?_
      rintro e w2 ⟨rfl, hb2⟩
      exact hK _ _ hb2 rfl
    refine BOk.cons rfl [14] [] rfl rfl (by kernel_rfl) (by kernel_rfl) (fun qK qa wr hB qO qF hK => ?_) ?_
    · have e18 : qa.tmps[18]? = some (.agg #[.int .i64 Y.k, .int .u64 Y.b]) := fis qF.1 rfl rfl
      clear qO qF
      go_simp
      exact hK _ _ ((Below.refl _ _).alloc (Nat.le_refl _) _) ⟨_, rfl, Bk.new _ _ _⟩
    refine BOk.cons rfl [7, 15] [] rfl rfl (by kernel_rfl) (by kernel_rfl) (fun qK qa wr hB qO qF hK => ?_) ?_
    · have e11 : qa.tmps[11]? = some (.int .i64 op) := fis qF.1 rfl rfl
      obtain ⟨u19, e19, r15⟩ := qF.2.1
      obtain ⟨g19, h19, k19⟩ := (show ∃ g, u19 = .slice (some ⟨g, 0, none⟩) 1 1 ∧ Bk wr g 31 #[.int .i64 Y.k, .int .u64 Y.b] from r15)
      subst h19
      have e19 : qa.tmps[19]? = some (.slice (some ⟨g19, 0, none⟩) 1 1) := e19
      clear qO qF
      go_simp
      go_at_call 48
      refine (apply_any op [Y] _ 1 _ (bk_rd k19) (by intro x hx; simp only [List.mem_cons, List.not_mem_nil, or_false] at hx; subst hx; exact hYf) (by simp)).mono ?_
      rintro e w2 ⟨rfl, hb2⟩
      rw [HU.out]
      exact hK _ _ hb2 rfl
    exact BOk.nil
  intro vals wr hl hB hR hS
  match vals, hl with
  | [z4, z5, z6, z7, z8, z9, z10, z11, z12, z13, z14, z15, z16, z17, z18, z19, z20], _ =>
  have r3 : z7 = .slice (some ⟨rg, 0, none⟩) regs.length regs.length := hR 3 _ rfl
  subst r3
  have r5 : z9 = .int .i64 dst := hR 5 _ rfl
  subst r5
  have r16 : z20 = .agg #[.int .i64 U.k, .int .u64 U.b] := hR 16 _ rfl
  subst r16
  clear hS
  clear hR
  simp only [List.take_succ_cons, List.take_zero, List.drop_succ_cons, List.drop_zero, List.toList_toArray, List.cons_append, List.nil_append, putAll, Act.put, List.setIfInBounds_toArray, List.set_cons_zero, List.set_cons_succ]
  have hm := HM.out.old hB
  go_wp2_with (go_at_call 47; refine (set_any rg regs _ (Nat.le_refl _) dst U _ hm.rr (Nat.le_trans hm.l1 (by decide))).mono ?_; rintro e w3 ⟨rfl, hr3, hg3⟩)
  exact bodyPost_end (v := .tuple #[]) (by simp [results, Try.results38, go_sem]) rfl ⟨rfl, hr3, (gb_of _ (HB.out.trans (hB.mono HB.out.size))).trans hg3⟩

def regtwo (op dst a b : Int) (mm rg sg : Nat) (regs slots ins ks : List V) (A1 A2 : Option Addr) (c1 c2 : Nat) (Y Z U : V) (w0 : World) : List Spec := [.is (.pointer (some ⟨mm, 0, none⟩)),
  .is (.pointer (some ⟨mm, 0, none⟩)),
  .is (.pointer (some ⟨mm, 0, none⟩)),
  .is (.slice (some ⟨rg, 0, none⟩) regs.length regs.length),
  .is (.pointer (some ⟨w0.heap.size, 1, none⟩)),
  .is (.int .i64 dst),
  .is (.pointer (some ⟨w0.heap.size, 0, none⟩)),
  .is (.int .i64 op),
  .is (.pointer (some ⟨mm, 0, none⟩)),
  .is (.pointer (some ⟨mm, 0, none⟩)),
  .is (.pointer (some ⟨mm, 0, none⟩)),
  .is (.slice (some ⟨rg, 0, none⟩) regs.length regs.length),
  .is (.pointer (some ⟨w0.heap.size, 2, none⟩)),
  .is (.int .i64 a),
  .is (.agg #[.int .i64 Y.k, .int .u64 Y.b]),
  .is (.pointer (some ⟨mm, 0, none⟩)),
  .is (.pointer (some ⟨mm, 0, none⟩)),
  .is (.pointer (some ⟨mm, 0, none⟩)),
  .is (.slice (some ⟨rg, 0, none⟩) regs.length regs.length),
  .is (.pointer (some ⟨w0.heap.size, 3, none⟩)),
  .is (.int .i64 b),
  .is (.agg #[.int .i64 Z.k, .int .u64 Z.b]),
  .st (fun v w => ∃ g, v = .slice (some ⟨g, 0, none⟩) 2 2 ∧ Bk w g 31 #[.int .i64 Y.k, .int .u64 Y.b, .int .i64 Z.k, .int .u64 Z.b]) (fun _ _ _ hb ⟨g, h1, h2⟩ => ⟨g, h1, h2.old hb⟩),
  .is (.agg #[.int .i64 U.k, .int .u64 U.b])]
set_option maxRecDepth 100000 in
set_option maxHeartbeats 2000000 in
theorem m_two_any (op dst a b : Int) (B mm rg sg : Nat) (regs slots ins ks : List V) (A1 A2 : Option Addr) (c1 c2 : Nat) (w0 : World) (hm0 : Mach w0 B ⟨mm, rg, sg, regs, slots, A1, c1, ins, A2, c2, ks⟩) :
    Calls Try.prog 39 #[.pointer (some ⟨mm, 0, none⟩), .agg #[.int .i64 op, .int .i64 dst, .int .i64 a, .int .i64 b]] w0 fun e w' => e = .returned (.tuple #[]) ∧ Row w' rg (setL regs dst (applyV op [takeL regs a, takeL regs b])) ∧ w0.grownBy w' (some rg) := by
  obtain ⟨Y, hY⟩ : ∃ Y, takeL regs a = Y := ⟨_, rfl⟩
  obtain ⟨Z, hZ⟩ : ∃ Z, takeL regs b = Z := ⟨_, rfl⟩
  obtain ⟨U, hU⟩ : ∃ U, applyV op [Y, Z] = U := ⟨_, rfl⟩
  have hYf : Y.fits := by rw [← hY]; exact take_fits _ hm0.f1
  have hZf : Z.fits := by rw [← hZ]; exact take_fits _ hm0.f1
  rw [hY, hZ, hU]
  have hb0 : Below w0.heap.size w0 (w0.alloc (.cells #[.int .i64 op, .int .i64 dst, .int .i64 a, .int .i64 b] 43)) := (Below.refl _ _).alloc (Nat.le_refl _) _
  have hx := Bk.new w0 43 #[.int .i64 op, .int .i64 dst, .int .i64 a, .int .i64 b]
  have x0 := hx.cell 0
  have x1 := hx.cell 1
  have x2 := hx.cell 2
  have x3 := hx.cell 3
  have hm1 := hm0.old hb0
  have m0 : (w0.alloc (.cells #[.int .i64 op, .int .i64 dst, .int .i64 a, .int .i64 b] 43)).cell? ⟨mm, 0, none⟩ = some (.slice (some ⟨rg, 0, none⟩) regs.length regs.length) := hm1.mb.cell 0
  have m1 : (w0.alloc (.cells #[.int .i64 op, .int .i64 dst, .int .i64 a, .int .i64 b] 43)).cell? ⟨mm, 1, none⟩ = some (.slice (some ⟨sg, 0, none⟩) slots.length slots.length) := hm1.mb.cell 1
  have m2 : (w0.alloc (.cells #[.int .i64 op, .int .i64 dst, .int .i64 a, .int .i64 b] 43)).cell? ⟨mm, 2, none⟩ = some (.slice A1 ins.length c1) := hm1.mb.cell 2
  have m3 : (w0.alloc (.cells #[.int .i64 op, .int .i64 dst, .int .i64 a, .int .i64 b] 43)).cell? ⟨mm, 3, none⟩ = some (.slice A2 ks.length c2) := hm1.mb.cell 3
  have hcY : ∀ w' : World, Below (w0.alloc (.cells #[.int .i64 op, .int .i64 dst, .int .i64 a, .int .i64 b] 43)).heap.size (w0.alloc (.cells #[.int .i64 op, .int .i64 dst, .int .i64 a, .int .i64 b] 43)) w' → Calls Try.prog 20 #[.slice (some ⟨rg, 0, none⟩) regs.length regs.length, .int .i64 a] w' fun e w2 => e = .returned (.agg #[.int .i64 Y.k, .int .u64 Y.b]) ∧ Below w'.heap.size w' w2 := by
    intro w' hw
    have hm := hm1.old hw
    have := get_any (some ⟨rg, 0, none⟩) regs.length regs a w' (Row.rd hm.rr) hm.f1 (Nat.le_trans hm.l1 (by decide))
    rw [hY] at this
    exact this
  have HY := Lib.hid hcY
  have hcZ : ∀ w' : World, Below (w0.alloc (.cells #[.int .i64 op, .int .i64 dst, .int .i64 a, .int .i64 b] 43)).heap.size (w0.alloc (.cells #[.int .i64 op, .int .i64 dst, .int .i64 a, .int .i64 b] 43)) w' → Calls Try.prog 20 #[.slice (some ⟨rg, 0, none⟩) regs.length regs.length, .int .i64 b] w' fun e w2 => e = .returned (.agg #[.int .i64 Z.k, .int .u64 Z.b]) ∧ Below w'.heap.size w' w2 := by
    intro w' hw
    have hm := hm1.old hw
    have := get_any (some ⟨rg, 0, none⟩) regs.length regs b w' (Row.rd hm.rr) hm.f1 (Nat.le_trans hm.l1 (by decide))
    rw [hZ] at this
    exact this
  have HZ := Lib.hid hcZ
  have HU := Lib.hid hU
  have HM := Lib.hid hm1
  have HB := Lib.hid hb0
  clear hcY hY hcZ hZ hU hx hm0 hm1 hb0
  go_enter Try.func39, Try.ntmps39
  go_wp2_with fail
  refine wp_region_t 24 (fun k => false) (by kernel_rfl) (fun qk => (regtwo op dst a b mm rg sg regs slots ins ks A1 A2 c1 c2 Y Z U w0).getD qk .any) (by kernel_rfl) ?_ ?_
  · refine BOk.cons rfl [] [0] rfl rfl (by kernel_rfl) (by kernel_rfl) (fun qK qa wr hB qO qF hK => ?_) ?_
    · have e0 : qa.tmps[0]? = some (.pointer (some ⟨mm, 0, none⟩)) := qO.1.trans rfl
      clear qO qF
      go_simp
      exact hK _ _ (Below.refl _ _) rfl
    refine BOk.cons rfl [0] [] rfl rfl (by kernel_rfl) (by kernel_rfl) (fun qK qa wr hB qO qF hK => ?_) ?_
    · have e4 : qa.tmps[4]? = some (.pointer (some ⟨mm, 0, none⟩)) := fis qF.1 rfl rfl
      clear qO qF
      go_simp
      exact hK _ _ (Below.refl _ _) rfl
    refine BOk.cons rfl [1] [] rfl rfl (by kernel_rfl) (by kernel_rfl) (fun qK qa wr hB qO qF hK => ?_) ?_
    · have e5 : qa.tmps[5]? = some (.pointer (some ⟨mm, 0, none⟩)) := fis qF.1 rfl rfl
      clear qO qF
      go_simp
      exact hK _ _ (Below.refl _ _) rfl
    refine BOk.cons rfl [2] [] rfl rfl (by kernel_rfl) (by kernel_rfl) (fun qK qa wr hB qO qF hK => ?_) ?_
    · have e6 : qa.tmps[6]? = some (.pointer (some ⟨mm, 0, none⟩)) := fis qF.1 rfl rfl
      clear qO qF
      have hm0 := (bcell hB _ _ (World.block_lt_of_cell? _ _ m0)).trans m0
      go_simp
      exact hK _ _ (Below.refl _ _) rfl
    refine BOk.cons rfl [] [3] rfl rfl (by kernel_rfl) (by kernel_rfl) (fun qK qa wr hB qO qF hK => ?_) ?_
    · have e3 : qa.tmps[3]? = some (.pointer (some ⟨w0.heap.size, 0, none⟩)) := qO.1.trans rfl
      clear qO qF
      go_simp
      exact hK _ _ (Below.refl _ _) rfl
    refine BOk.cons rfl [4] [] rfl rfl (by kernel_rfl) (by kernel_rfl) (fun qK qa wr hB qO qF hK => ?_) ?_
    · have e8 : qa.tmps[8]? = some (.pointer (some ⟨w0.heap.size, 1, none⟩)) := fis qF.1 rfl rfl
      clear qO qF
      have hx1 := (bcell hB _ _ (World.block_lt_of_cell? _ _ x1)).trans x1
      go_simp
      exact hK _ _ (Below.refl _ _) rfl
    refine BOk.cons rfl [] [3] rfl rfl (by kernel_rfl) (by kernel_rfl) (fun qK qa wr hB qO qF hK => ?_) ?_
    · have e3 : qa.tmps[3]? = some (.pointer (some ⟨w0.heap.size, 0, none⟩)) := qO.1.trans rfl
      clear qO qF
      go_simp
      exact hK _ _ (Below.refl _ _) rfl
    refine BOk.cons rfl [6] [] rfl rfl (by kernel_rfl) (by kernel_rfl) (fun qK qa wr hB qO qF hK => ?_) ?_
    · have e10 : qa.tmps[10]? = some (.pointer (some ⟨w0.heap.size, 0, none⟩)) := fis qF.1 rfl rfl
      clear qO qF
      have hx0 := (bcell hB _ _ (World.block_lt_of_cell? _ _ x0)).trans x0
      go_simp
      exact hK _ _ (Below.refl _ _) rfl
    refine BOk.cons rfl [] [0] rfl rfl (by kernel_rfl) (by kernel_rfl) (fun qK qa wr hB qO qF hK => ?_) ?_
    · have e0 : qa.tmps[0]? = some (.pointer (some ⟨mm, 0, none⟩)) := qO.1.trans rfl
      clear qO qF
      go_simp
      exact hK _ _ (Below.refl _ _) rfl
    refine BOk.cons rfl [8] [] rfl rfl (by kernel_rfl) (by kernel_rfl) (fun qK qa wr hB qO qF hK => ?_) ?_
    · have e12 : qa.tmps[12]? = some (.pointer (some ⟨mm, 0, none⟩)) := fis qF.1 rfl rfl
      clear qO qF
      go_simp
      exact hK _ _ (Below.refl _ _) rfl
    refine BOk.cons rfl [9] [] rfl rfl (by kernel_rfl) (by kernel_rfl) (fun qK qa wr hB qO qF hK => ?_) ?_
    · have e13 : qa.tmps[13]? = some (.pointer (some ⟨mm, 0, none⟩)) := fis qF.1 rfl rfl
      clear qO qF
      go_simp
      exact hK _ _ (Below.refl _ _) rfl
    refine BOk.cons rfl [10] [] rfl rfl (by kernel_rfl) (by kernel_rfl) (fun qK qa wr hB qO qF hK => ?_) ?_
    · have e14 : qa.tmps[14]? = some (.pointer (some ⟨mm, 0, none⟩)) := fis qF.1 rfl rfl
      clear qO qF
      have hm0 := (bcell hB _ _ (World.block_lt_of_cell? _ _ m0)).trans m0
      go_simp
      exact hK _ _ (Below.refl _ _) rfl
    refine BOk.cons rfl [] [3] rfl rfl (by kernel_rfl) (by kernel_rfl) (fun qK qa wr hB qO qF hK => ?_) ?_
    · have e3 : qa.tmps[3]? = some (.pointer (some ⟨w0.heap.size, 0, none⟩)) := qO.1.trans rfl
      clear qO qF
      go_simp
      exact hK _ _ (Below.refl _ _) rfl
    refine BOk.cons rfl [12] [] rfl rfl (by kernel_rfl) (by kernel_rfl) (fun qK qa wr hB qO qF hK => ?_) ?_
    · have e16 : qa.tmps[16]? = some (.pointer (some ⟨w0.heap.size, 2, none⟩)) := fis qF.1 rfl rfl
      clear qO qF
      have hx2 := (bcell hB _ _ (World.block_lt_of_cell? _ _ x2)).trans x2
      go_simp
      exact hK _ _ (Below.refl _ _) rfl
    refine BOk.cons rfl [11, 13] [] rfl rfl (by kernel_rfl) (by kernel_rfl) (fun qK qa wr hB qO qF hK => ?_) ?_
    · have e15 : qa.tmps[15]? = some (.slice (some ⟨rg, 0, none⟩) regs.length regs.length) := fis qF.1 rfl rfl
      have e17 : qa.tmps[17]? = some (.int .i64 a) := fis qF.2.1 rfl rfl
      clear qO qF
      go_simp
      go_at_call 20
      refine (HY.out _ hB).mono ?_
      rintro e w2 ⟨rfl, hb2⟩
      exact hK _ _ hb2 rfl
    refine BOk.cons rfl [] [0] rfl rfl (by kernel_rfl) (by kernel_rfl) (fun qK qa wr hB qO qF hK => ?_) ?_
    · have e0 : qa.tmps[0]? = some (.pointer (some ⟨mm, 0, none⟩)) := qO.1.trans rfl
      clear qO qF
      go_simp
      exact hK _ _ (Below.refl _ _) rfl
    refine BOk.cons rfl [15] [] rfl rfl (by kernel_rfl) (by kernel_rfl) (fun qK qa wr hB qO qF hK => ?_) ?_
    · have e19 : qa.tmps[19]? = some (.pointer (some ⟨mm, 0, none⟩)) := fis qF.1 rfl rfl
      clear qO qF
      go_simp
      exact hK _ _ (Below.refl _ _) rfl
    refine BOk.cons rfl [16] [] rfl rfl (by kernel_rfl) (by kernel_rfl) (fun qK qa wr hB qO qF hK => ?_) ?_
    · have e20 : qa.tmps[20]? = some (.pointer (some ⟨mm, 0, none⟩)) := fis qF.1 rfl rfl
      clear qO qF
      go_simp
      exact hK _ _ (Below.refl _ _) rfl
    refine BOk.cons rfl [17] [] rfl rfl (by kernel_rfl) (by kernel_rfl) (fun qK qa wr hB qO qF hK => ?_) ?_
    · have e21 : qa.tmps[21]? = some (.pointer (some ⟨mm, 0, none⟩)) := fis qF.1 rfl rfl
      clear qO qF
      have hm0 := (bcell hB _ _ (World.block_lt_of_cell? _ _ m0)).trans m0
      go_simp
      exact hK _ _ (Below.refl _ _) rfl
    refine BOk.cons rfl [] [3] rfl rfl (by kernel_rfl) (by kernel_rfl) (fun qK qa wr hB qO qF hK => ?_) ?_
    · have e3 : qa.tmps[3]? = some (.pointer (some ⟨w0.heap.size, 0, none⟩)) := qO.1.trans rfl
      clear qO qF
      go_simp
      exact hK _ _ (Below.refl _ _) rfl
    refine BOk.cons rfl [19] [] rfl rfl (by kernel_rfl) (by kernel_rfl) (fun qK qa wr hB qO qF hK => ?_) ?_
    · have e23 : qa.tmps[23]? = some (.pointer (some ⟨w0.heap.size, 3, none⟩)) := fis qF.1 rfl rfl
      clear qO qF
      have hx3 := (bcell hB _ _ (World.block_lt_of_cell? _ _ x3)).trans x3
      go_simp
      exact hK _ _ (Below.refl _ _) rfl
    refine BOk.cons rfl [18, 20] [] rfl rfl (by kernel_rfl) (by kernel_rfl) (fun qK qa wr hB qO qF hK => ?_) ?_
    · have e22 : qa.tmps[22]? = some (.slice (some ⟨rg, 0, none⟩) regs.length regs.length) := fis qF.1 rfl rfl
      have e24 : qa.tmps[24]? = some (.int .i64 b) := fis qF.2.1 rfl rfl
      clear qO qF
      go_simp
      go_at_call 20
      refine (HZ.out _ hB).mono ?_
      rintro e w2 ⟨rfl, hb2⟩
      exact hK _ _ hb2 rfl
    refine BOk.cons rfl [14, 21] [] rfl rfl (by kernel_rfl) (by kernel_rfl) (fun qK qa wr hB qO qF hK => ?_) ?_
    · have e18 : qa.tmps[18]? = some (.agg #[.int .i64 Y.k, .int .u64 Y.b]) := fis qF.1 rfl rfl
      have e25 : qa.tmps[25]? = some (.agg #[.int .i64 Z.k, .int .u64 Z.b]) := fis qF.2.1 rfl rfl
      clear qO qF
      go_simp
      exact hK _ _ ((Below.refl _ _).alloc (Nat.le_refl _) _) ⟨_, rfl, Bk.new _ _ _⟩
    refine BOk.cons rfl [7, 22] [] rfl rfl (by kernel_rfl) (by kernel_rfl) (fun qK qa wr hB qO qF hK => ?_) ?_
    · have e11 : qa.tmps[11]? = some (.int .i64 op) := fis qF.1 rfl rfl
      obtain ⟨u26, e26, r22⟩ := qF.2.1
      obtain ⟨g26, h26, k26⟩ := (show ∃ g, u26 = .slice (some ⟨g, 0, none⟩) 2 2 ∧ Bk wr g 31 #[.int .i64 Y.k, .int .u64 Y.b, .int .i64 Z.k, .int .u64 Z.b] from r22)
      subst h26
      have e26 : qa.tmps[26]? = some (.slice (some ⟨g26, 0, none⟩) 2 2) := e26
      clear qO qF
      go_simp
      go_at_call 48
      refine (apply_any op [Y, Z] _ 2 _ (bk_rd k26) (by intro x hx; simp only [List.mem_cons, List.not_mem_nil, or_false] at hx; rcases hx with rfl | rfl <;> assumption) (by simp)).mono ?_
      rintro e w2 ⟨rfl, hb2⟩
      rw [HU.out]
      exact hK _ _ hb2 rfl
    exact BOk.nil
  intro vals wr hl hB hR hS
  match vals, hl with
  | [z4, z5, z6, z7, z8, z9, z10, z11, z12, z13, z14, z15, z16, z17, z18, z19, z20, z21, z22, z23, z24, z25, z26, z27], _ =>
  have r3 : z7 = .slice (some ⟨rg, 0, none⟩) regs.length regs.length := hR 3 _ rfl
  subst r3
  have r5 : z9 = .int .i64 dst := hR 5 _ rfl
  subst r5
  have r23 : z27 = .agg #[.int .i64 U.k, .int .u64 U.b] := hR 23 _ rfl
  subst r23
  clear hS
  clear hR
  simp only [List.take_succ_cons, List.take_zero, List.drop_succ_cons, List.drop_zero, List.toList_toArray, List.cons_append, List.nil_append, putAll, Act.put, List.setIfInBounds_toArray, List.set_cons_zero, List.set_cons_succ]
  have hm := HM.out.old hB
  go_wp2_with (go_at_call 47; refine (set_any rg regs _ (Nat.le_refl _) dst U _ hm.rr (Nat.le_trans hm.l1 (by decide))).mono ?_; rintro e w3 ⟨rfl, hr3, hg3⟩)
  exact bodyPost_end (v := .tuple #[]) (by simp [results, Try.results39, go_sem]) rfl ⟨rfl, hr3, (gb_of _ (HB.out.trans (hB.mono HB.out.size))).trans hg3⟩

end Go.Proofs.Ytadblgfppnpamaa
