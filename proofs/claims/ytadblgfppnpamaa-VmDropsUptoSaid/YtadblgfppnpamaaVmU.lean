/- Layer 18: the document's input and constant of code that is being made. No conditions. -/
import Derived.Test.YtadblgfppnpamaaVmT
import Derived.Test.YtadblgfppnpamaaRegL
namespace Go.Proofs.Ytadblgfppnpamaa
open Go.RowKit
set_option linter.unusedVariables false
set_option linter.unusedSimpArgs false

theorem infoIn2 : (Try.prog.info? 39).map (fun i => (i.zero, i.size, i.bytes)) = some (some (.agg #[.int .i64 0, .int .i64 0, .int .i64 0, .int .i64 0]), 4, 32) := by kernel_rfl
theorem infoVa2 : (Try.prog.info? 31).map (fun i => (i.zero, i.size, i.bytes)) = some (some (.agg #[.int .i64 0, .int .u64 0]), 2, 16) := by kernel_rfl
/-- Code that is being made, in memory of its own. -/
structure OutOk (w : World) (g base : Nat) (o : CodeV) : Prop where
  bk : Bk w g 26 #[.int .i64 o.nr, .int .i64 o.ns, .slice o.Ai o.li.length o.ci, .slice o.Ak o.lk.length o.ck, .slice o.Al o.ll.length o.cl]
  oi : w.ownsRow base 39 4 (.slice o.Ai o.li.length o.ci) o.li.length (o.li.flatMap InputV.cells)
  ok : w.ownsRow base 31 2 (.slice o.Ak o.lk.length o.ck) o.lk.length (o.lk.flatMap V.cells)
  ol : w.ownsRow base 43 4 (.slice o.Al o.ll.length o.cl) o.ll.length (o.ll.flatMap InsV.cells)
theorem OutOk.old {w w' : World} {g base : Nat} {o : CodeV} (h : OutOk w g base o) (hb : Below w.heap.size w w') : OutOk w' g base o := ⟨h.bk.old hb, own_old h.oi hb, own_old h.ok hb, own_old h.ol hb⟩
theorem placeL_found {α : Type} {same : α → α → Bool} {x : α} : ∀ {l : List α} {k : Nat} {y : α}, (∀ (j : Nat) (z : α), j < k → l[j]? = some z → same x z = false) → l[k]? = some y → same x y = true → placeL same x l = (l, k)
  | [], _, _, _, h, _ => by simp at h
  | z :: l, 0, y, _, h, hs => by
    injection h with h
    subst h
    unfold placeL
    rw [if_pos hs]
  | z :: l, k + 1, y, hn, h, hs => by
    have h0 := hn 0 z (by omega) rfl
    have ih := placeL_found (l := l) (k := k) (fun j q hj hq => hn (j + 1) q (by omega) (by simpa using hq)) (by simpa using h) hs
    unfold placeL
    rw [if_neg (by rw [h0]; simp), ih]
theorem placeL_new {α : Type} {same : α → α → Bool} {x : α} : ∀ {l : List α}, (∀ (j : Nat) (z : α), j < l.length → l[j]? = some z → same x z = false) → placeL same x l = (l ++ [x], l.length)
  | [], _ => rfl
  | z :: l, hn => by
    have h0 := hn 0 z (by simp) rfl
    have ih := placeL_new (l := l) (fun j q hj hq => hn (j + 1) q (by simpa using hj) (by simpa using hq))
    unfold placeL
    rw [if_neg (by rw [h0]; simp), ih]
    rfl
theorem eql_V2 (a b c d : Int) (w : World) : (binOp .eql 31 (.agg #[.int .i64 a, .int .u64 b]) (.agg #[.int .i64 c, .int .u64 d])).run Try.prog w = .ok (.bool (a == c && b == d)) w := by
  have h1 : Try.prog.stoodInHeld 31 = false := by kernel_rfl
  by_cases h : a = c <;> by_cases h2 : b = d <;> simp [go_sem, h, h2, h1]
theorem eql_VV (x y : V) (w : World) : (binOp .eql 31 (.agg #[.int .i64 x.k, .int .u64 x.b]) (.agg #[.int .i64 y.k, .int .u64 y.b])).run Try.prog w = .ok (.bool (sameV x y)) w := by
  rw [eql_V2]
  unfold sameV
  rw [nat_beq]
/-- What the place of a thing in a list that is being made tells. -/
def PlaceOk (n : Nat) (own : Option Nat) (g base : Nat) (w : World) (O : Option Addr → Nat → CodeV) (e : Ending) (w' : World) : Prop :=
  ∃ (A' : Option Addr) (c' : Nat) (wm : World), e = .returned (.int .i64 (n : Nat)) ∧ OutOk w' g base (O A' c') ∧ w.grownBy wm own ∧ wm.grownBy w' (some g)
def inputR7 (x : InputV) (g base : Nat) (Ai : Option Addr) (ci : Nat) (li : List InputV) (w : World) : List Spec := [.is (.pointer (some ⟨g, 0, none⟩)),
  .is (.pointer (some ⟨g, 0, none⟩)),
  .is (.pointer (some ⟨g, 0, none⟩)),
  .is (.pointer (some ⟨g, 2, none⟩)),
  .is (.slice Ai li.length ci),
  .is (.agg #[.int .i64 x.op, .int .i64 x.kind, .int .i64 x.pos, .int .i64 x.attr]),
  .st (fun v w => ∃ g, v = .slice (some ⟨g, 0, none⟩) 1 1 ∧ Bk w g 39 #[.int .i64 x.op, .int .i64 x.kind, .int .i64 x.pos, .int .i64 x.attr]) (fun _ _ _ hb ⟨g, h1, h2⟩ => ⟨g, h1, h2.old hb⟩),
  .st (fun v w => ∃ (A : Option Addr) (c : Nat), v = .slice A (li.length + 1) c ∧ w.ownsRow base 39 4 (.slice A (li.length + 1) c) (li.length + 1) (li.flatMap InputV.cells ++ [.int .i64 x.op, .int .i64 x.kind, .int .i64 x.pos, .int .i64 x.attr])) (fun _ _ _ hb ⟨A, c, h1, h2⟩ => ⟨A, c, h1, own_old h2 hb⟩),
  .is (.pointer (some ⟨g, 0, none⟩)),
  .is (.pointer (some ⟨g, 2, none⟩))]
def constantR7 (x : V) (g base : Nat) (Ak : Option Addr) (ck : Nat) (lk : List V) (w : World) : List Spec := [.is (.pointer (some ⟨g, 0, none⟩)),
  .is (.pointer (some ⟨g, 0, none⟩)),
  .is (.pointer (some ⟨g, 0, none⟩)),
  .is (.pointer (some ⟨g, 3, none⟩)),
  .is (.slice Ak lk.length ck),
  .is (.agg #[.int .i64 x.k, .int .u64 x.b]),
  .st (fun v w => ∃ g, v = .slice (some ⟨g, 0, none⟩) 1 1 ∧ Bk w g 31 #[.int .i64 x.k, .int .u64 x.b]) (fun _ _ _ hb ⟨g, h1, h2⟩ => ⟨g, h1, h2.old hb⟩),
  .st (fun v w => ∃ (A : Option Addr) (c : Nat), v = .slice A (lk.length + 1) c ∧ w.ownsRow base 31 2 (.slice A (lk.length + 1) c) (lk.length + 1) (lk.flatMap V.cells ++ [.int .i64 x.k, .int .u64 x.b])) (fun _ _ _ hb ⟨A, c, h1, h2⟩ => ⟨A, c, h1, own_old h2 hb⟩),
  .is (.pointer (some ⟨g, 0, none⟩)),
  .is (.pointer (some ⟨g, 3, none⟩))]

set_option maxRecDepth 100000 in
set_option maxHeartbeats 4000000 in
theorem input_any (o : CodeV) (x : InputV) (g base : Nat) (w : World) (ho : OutOk w g base o) (hbg : base ≤ w.heap.size) (hl : o.li.length ≤ 1048576) :
    Calls Try.prog 30 #[.pointer (some ⟨g, 0, none⟩), .agg #[.int .i64 x.op, .int .i64 x.kind, .int .i64 x.pos, .int .i64 x.attr]] w (PlaceOk (placeL sameI x o.li).2 (Value.slice o.Ai o.li.length o.ci).ownBlock g base w fun A' c' => { o with li := (placeL sameI x o.li).1, Ai := A', ci := c' }) := by
  obtain ⟨nr, ns, Ai, ci, li, Ak, ck, lk, Al, cl, ll⟩ := o
  obtain ⟨iI, hI, hI0, hI1, hI2⟩ := info_parts infoIn2
  simp only at hl ⊢
  have HO := Lib.hid ho
  have HRD : Hid (Rd w w.heap.size Ai (li.flatMap InputV.cells)) := Lib.hid (own_rd ho.oi)
  generalize hq : placeL sameI x li = q
  have HQ := Lib.hid hq
  have hz := ho.bk.lt
  have c2 : (w.alloc (.cells #[.int .i64 x.op, .int .i64 x.kind, .int .i64 x.pos, .int .i64 x.attr] 39)).cell? ⟨g, 2, none⟩ = some (.slice Ai li.length ci) := (ho.bk.alloc _).cell 2
  have hbe0 : Below w.heap.size w (w.alloc (.cells #[.int .i64 x.op, .int .i64 x.kind, .int .i64 x.pos, .int .i64 x.attr] 39)) := (Below.refl _ _).alloc (Nat.le_refl _) _
  have kx0 := Bk.new w 39 #[.int .i64 x.op, .int .i64 x.kind, .int .i64 x.pos, .int .i64 x.attr]
  clear hq ho
  go_enter Try.func30, Try.ntmps30
  go_wp2_with fail
  clear c2
  go_loopw [12] (fun i wr => ∃ k : Nat, k ≤ li.length ∧ i = .int .i64 k ∧ Below w.heap.size w wr ∧ Bk wr w.heap.size 39 #[.int .i64 x.op, .int .i64 x.kind, .int .i64 x.pos, .int .i64 x.attr] ∧ Hid (∀ (j : Nat) (z : InputV), j < k → li[j]? = some z → sameI x z = false)) (fun i _ => li.length - (intOf i).toNat)
  case atStart => exact ⟨0, Nat.zero_le _, rfl, hbe0, kx0, Lib.hid (fun j z hj => by omega)⟩
  case round =>
    rename World => wl
    clear hbe0 kx0
    obtain ⟨k, hk, rfl, hbe, kx, hno⟩ := hrel
    by_cases hlt : k < li.length
    · as_aux_lemma =>
      obtain ⟨bb, oo, rfl, hb, hc⟩ := (HRD.out.below hbe).elem (f := InputV.cells) (n := 4) (fun _ => rfl) (by omega) hlt
      have hyk : li[k]? = some li[k] := List.getElem?_eq_getElem hlt
      generalize li[k] = y at *
      obtain ⟨e, he⟩ : ∃ e, sameI x y = e := ⟨_, rfl⟩
      have heq : ∀ w : World, (binOp .eql 39 (.agg #[.int .i64 x.op, .int .i64 x.kind, .int .i64 x.pos, .int .i64 x.attr]) (.agg #[.int .i64 y.op, .int .i64 y.kind, .int .i64 y.pos, .int .i64 y.attr])).run Try.prog w = .ok (.bool e) w := fun w => by rw [eql_I, he]
      have HE := Lib.hid he
      have HYK := Lib.hid hyk
      have y0 : wl.cell? ⟨bb, oo + k * 4, none⟩ = some (.int .i64 y.op) := hc 0 _ rfl
      have y1 : wl.cell? ⟨bb, oo + k * 4 + 1, none⟩ = some (.int .i64 y.kind) := hc 1 _ rfl
      have y2 : wl.cell? ⟨bb, oo + k * 4 + 2, none⟩ = some (.int .i64 y.pos) := hc 2 _ rfl
      have y3 : wl.cell? ⟨bb, oo + k * 4 + 3, none⟩ = some (.int .i64 y.attr) := hc 3 _ rfl
      have hbx := hbe.alloc hbe.size (.cells #[.int .i64 y.op, .int .i64 y.kind, .int .i64 y.pos, .int .i64 y.attr] 39)
      have kx2 := kx.alloc (.cells #[.int .i64 y.op, .int .i64 y.kind, .int .i64 y.pos, .int .i64 y.attr] 39)
      have ky := Bk.new wl 39 #[.int .i64 y.op, .int .i64 y.kind, .int .i64 y.pos, .int .i64 y.attr]
      have x0 : (wl.alloc (.cells #[.int .i64 y.op, .int .i64 y.kind, .int .i64 y.pos, .int .i64 y.attr] 39)).cell? ⟨w.heap.size, 0, none⟩ = some (.int .i64 x.op) := kx2.cell 0
      have x1 : (wl.alloc (.cells #[.int .i64 y.op, .int .i64 y.kind, .int .i64 y.pos, .int .i64 y.attr] 39)).cell? ⟨w.heap.size, 1, none⟩ = some (.int .i64 x.kind) := kx2.cell 1
      have x2 : (wl.alloc (.cells #[.int .i64 y.op, .int .i64 y.kind, .int .i64 y.pos, .int .i64 y.attr] 39)).cell? ⟨w.heap.size, 2, none⟩ = some (.int .i64 x.pos) := kx2.cell 2
      have x3 : (wl.alloc (.cells #[.int .i64 y.op, .int .i64 y.kind, .int .i64 y.pos, .int .i64 y.attr] 39)).cell? ⟨w.heap.size, 3, none⟩ = some (.int .i64 x.attr) := kx2.cell 3
      clear hc hyk he ky kx
      cases e
      · as_aux_lemma =>
        go_wp2_with fail
        go_roundw
        case rel =>
          refine ⟨k + 1, by omega, by go_num, hbx, kx2, Lib.hid fun j z hj hz => ?_⟩
          by_cases hjk : j = k
          · rw [hjk, HYK.out] at hz
            injection hz with hz
            rw [← hz]; exact HE.out
          · exact hno.out j z (by omega) hz
        case measure => simp [intOf]; omega
      · as_aux_lemma =>
        have hpl := placeL_found hno.out HYK.out HE.out
        rw [HQ.out] at hpl
        subst hpl
        have HOF := Lib.hid (HO.out.old hbx)
        have HG := Lib.hid (gb_of (Value.slice (some ⟨bb, oo, none⟩) li.length ci).ownBlock hbx)
        clear HQ HRD HO hno
        go_wp2_with fail
        go_ret
        exact ⟨_, _, _, rfl, HOF.out, HG.out, World.grownBy.refl _ _⟩
    · as_aux_lemma =>
      obtain rfl : k = li.length := by omega
      have hpl := placeL_new hno.out
      rw [HQ.out] at hpl
      subst hpl
      have hoW := HO.out.old hbe
      have HOW := Lib.hid hoW
      have Hoi := Lib.hid hoW.oi
      have hzl : w.heap.size ≤ wl.heap.size := hbe.size
      have c2 : wl.cell? ⟨g, 2, none⟩ = some (.slice Ai li.length ci) := hoW.bk.cell 2
      have x0 : wl.cell? ⟨w.heap.size, 0, none⟩ = some (.int .i64 x.op) := kx.cell 0
      have x1 : wl.cell? ⟨w.heap.size, 1, none⟩ = some (.int .i64 x.kind) := kx.cell 1
      have x2 : wl.cell? ⟨w.heap.size, 2, none⟩ = some (.int .i64 x.pos) := kx.cell 2
      have x3 : wl.cell? ⟨w.heap.size, 3, none⟩ = some (.int .i64 x.attr) := kx.cell 3
      clear hno HQ HRD HO hoW kx
      go_upto_region 7 with fail
      refine wp_region_l 10 7 ((Value.slice Ai li.length ci).ownBlock) (by decide) (by kernel_rfl) (fun qk => (inputR7 x g base Ai ci li w).getD qk .any) (by kernel_rfl) ?_ ?_
      · refine BOkL.pure rfl [] [0] rfl rfl (by kernel_rfl) (by kernel_rfl) (.pointer (some ⟨g, 0, none⟩)) rfl (fun qK qa wr qO qF hK => ?_) ?_
        · have e0 : qa.tmps[0]? = some (.pointer (some ⟨g, 0, none⟩)) := qO.1.trans rfl
          clear qO qF
          go_simp
          exact hK
        refine BOkL.cons rfl [] [0] rfl _ rfl (by kernel_rfl) rfl (by kernel_rfl) (by kernel_rfl) (fun qK qa wr hB qO qF hK => ?_) ?_
        · have e0 : qa.tmps[0]? = some (.pointer (some ⟨g, 0, none⟩)) := qO.1.trans rfl
          clear qO qF
          go_simp
          exact hK _ _ (Below.refl _ _) rfl
        refine BOkL.cons rfl [1] [] rfl _ rfl (by kernel_rfl) rfl (by kernel_rfl) (by kernel_rfl) (fun qK qa wr hB qO qF hK => ?_) ?_
        · have e23 : qa.tmps[23]? = some (.pointer (some ⟨g, 0, none⟩)) := fis qF.1 rfl rfl
          clear qO qF
          go_simp
          exact hK _ _ (Below.refl _ _) rfl
        refine BOkL.cons rfl [2] [] rfl _ rfl (by kernel_rfl) rfl (by kernel_rfl) (by kernel_rfl) (fun qK qa wr hB qO qF hK => ?_) ?_
        · have e24 : qa.tmps[24]? = some (.pointer (some ⟨g, 0, none⟩)) := fis qF.1 rfl rfl
          clear qO qF
          go_simp
          exact hK _ _ (Below.refl _ _) rfl
        refine BOkL.cons rfl [3] [] rfl _ rfl (by kernel_rfl) rfl (by kernel_rfl) (by kernel_rfl) (fun qK qa wr hB qO qF hK => ?_) ?_
        · have e25 : qa.tmps[25]? = some (.pointer (some ⟨g, 2, none⟩)) := fis qF.1 rfl rfl
          clear qO qF
          have hc2 := (bcell hB _ _ (World.block_lt_of_cell? _ _ c2)).trans c2
          go_simp
          exact hK _ _ (Below.refl _ _) rfl
        refine BOkL.cons rfl [] [3] rfl _ rfl (by kernel_rfl) rfl (by kernel_rfl) (by kernel_rfl) (fun qK qa wr hB qO qF hK => ?_) ?_
        · have e3 : qa.tmps[3]? = some (.pointer (some ⟨w.heap.size, 0, none⟩)) := qO.1.trans rfl
          clear qO qF
          have hx0 := (bcell hB _ _ (World.block_lt_of_cell? _ _ x0)).trans x0
          have hx1 := (bcell hB _ _ (World.block_lt_of_cell? _ _ x1)).trans x1
          have hx2 := (bcell hB _ _ (World.block_lt_of_cell? _ _ x2)).trans x2
          have hx3 := (bcell hB _ _ (World.block_lt_of_cell? _ _ x3)).trans x3
          go_simp
          exact hK _ _ (Below.refl _ _) rfl
        refine BOkL.cons rfl [5] [] rfl _ rfl (by kernel_rfl) rfl (by kernel_rfl) (by kernel_rfl) (fun qK qa wr hB qO qF hK => ?_) ?_
        · have e27 : qa.tmps[27]? = some (.agg #[.int .i64 x.op, .int .i64 x.kind, .int .i64 x.pos, .int .i64 x.attr]) := fis qF.1 rfl rfl
          clear qO qF
          go_simp
          exact hK _ _ ((Below.refl _ _).alloc (Nat.le_refl _) _) ⟨_, rfl, Bk.new _ _ _⟩
        refine BOkL.app rfl [4, 6] [] rfl (by kernel_rfl) (by kernel_rfl) (fun qK qa wr hB qO qF hK => ?_) ?_
        · have e26 : qa.tmps[26]? = some (.slice Ai li.length ci) := fis qF.1 rfl rfl
          obtain ⟨u28, e28, r6⟩ := qF.2.1
          obtain ⟨g28, h28, k28⟩ := (show ∃ g, u28 = .slice (some ⟨g, 0, none⟩) 1 1 ∧ Bk wr g 39 #[.int .i64 x.op, .int .i64 x.kind, .int .i64 x.pos, .int .i64 x.attr] from r6)
          subst h28
          have e28 : qa.tmps[28]? = some (.slice (some ⟨g28, 0, none⟩) 1 1) := e28
          clear qO qF
          refine wp_append_rd _ _ 22 rfl base 39 iI _ 4 32 Try.underlying22 hI hI0 hI1 hI2 rfl (by decide) (.slice Ai li.length ci) li.length _ (act_evalG e26) (own_old Hoi.out hB) (g28 + 1) (some ⟨g28, 0, none⟩) 1 1 [.int .i64 x.op, .int .i64 x.kind, .int .i64 x.pos, .int .i64 x.attr] (act_evalG e28) (Rd.bk k28 (Nat.lt_succ_self _)) rfl (by intro u hu; simp at hu; rcases hu with rfl | rfl | rfl | rfl <;> rfl) (by unfold maxLen; omega) (by omega) (by have := hB.size; omega) ?_
          intro A9 c9 w9 hown9 hg9 _
          exact hK _ _ (World.grownBy.trans (gb_of _ hB) hg9) hg9.size ⟨A9, c9, rfl, hown9⟩
        refine BOkL.pure rfl [0] [] rfl rfl (by kernel_rfl) (by kernel_rfl) (.pointer (some ⟨g, 0, none⟩)) rfl (fun qK qa wr qO qF hK => ?_) ?_
        · have e22 : qa.tmps[22]? = some (.pointer (some ⟨g, 0, none⟩)) := fisL qF.1 rfl rfl
          clear qO qF
          go_simp
          exact hK
        refine BOkL.pure rfl [8] [] rfl rfl (by kernel_rfl) (by kernel_rfl) (.pointer (some ⟨g, 2, none⟩)) rfl (fun qK qa wr qO qF hK => ?_) ?_
        · have e30 : qa.tmps[30]? = some (.pointer (some ⟨g, 0, none⟩)) := fisL qF.1 rfl rfl
          clear qO qF
          go_simp
          exact hK
        exact BOkL.nil
      intro vals wr hl hG hR
      match vals, hl with
      | [z22, z23, z24, z25, z26, z27, z28, z29, z30, z31], _ =>
      have r7 : (fun v w => ∃ (A : Option Addr) (c : Nat), v = .slice A (li.length + 1) c ∧ w.ownsRow base 39 4 (.slice A (li.length + 1) c) (li.length + 1) (li.flatMap InputV.cells ++ [.int .i64 x.op, .int .i64 x.kind, .int .i64 x.pos, .int .i64 x.attr])) z29 wr := both_at (hR 7 _ rfl)
      have r9 : z31 = .pointer (some ⟨g, 2, none⟩) := hR 9 _ rfl
      subst r9
      clear hR
      simp only [List.take_succ_cons, List.take_zero, List.drop_succ_cons, List.drop_zero, List.toList_toArray, List.cons_append, List.nil_append, putAll, Act.put, List.setIfInBounds_toArray, List.set_cons_zero, List.set_cons_succ]
      obtain ⟨A9, c9, rfl, hown9⟩ := r7
      rename World => w9
      have bk9 := HOW.out.bk.grown hG (own_ne_bk Hoi.out HOW.out.bk (by decide))
      have ka9 := own_keep HOW.out.ok Hoi.out (by decide) hG
      have kb9 := own_keep HOW.out.ol Hoi.out (by decide) hG
      have hgg := (gb_of (Value.slice Ai li.length ci).ownBlock hbe).trans hG
      have hlen : (li ++ [x]).length = li.length + 1 := by simp
      have hout : OutOk (w9.setCell ⟨g, 2, none⟩ (.slice A9 (li.length + 1) c9)) g base { ({ nr := nr, ns := ns, Ai := Ai, ci := ci, li := li, Ak := Ak, ck := ck, lk := lk, Al := Al, cl := cl, ll := ll } : CodeV) with li := li ++ [x], Ai := A9, ci := c9 } := by
        have hb := bk9.put 2 (.slice A9 (li.length + 1) c9)
        refine ⟨by show Bk _ g _ #[.int .i64 nr, .int .i64 ns, .slice A9 (li ++ [x]).length c9, .slice Ak lk.length ck, .slice Al ll.length cl]; rw [hlen]; simpa using hb, by show World.ownsRow _ base 39 4 (.slice A9 (li ++ [x]).length c9) (li ++ [x]).length ((li ++ [x]).flatMap InputV.cells); rw [hlen, List.flatMap_append]; exact own_set hown9 bk9 (by decide) 2 _, own_set ka9 bk9 (by decide) 2 _, own_set kb9 bk9 (by decide) 2 _⟩
      have HOUT := Lib.hid hout
      have HGG := Lib.hid hgg
      have d2 := bk9.cell 2
      have f2 := bk9.frozen 2
      have e2 : (w9.setCell ⟨g, 2, none⟩ (.slice A9 (li.length + 1) c9)).cell? ⟨g, 2, none⟩ = some (.slice A9 (li.length + 1) c9) := by
        have := (bk9.put 2 (.slice A9 (li.length + 1) c9)).cell 2
        simpa using this
      simp at d2
      clear hG hout hgg HOW Hoi ka9 kb9 bk9 hown9 c2 x0 x1 x2 x3 hbe
      go_wp2_with fail
      go_ret
      exact ⟨A9, c9, w9, by first | rfl | go_num | (simp; done), HOUT.out, HGG.out, gb_set (World.grownBy.refl _ _) _ _⟩

set_option maxRecDepth 100000 in
set_option maxHeartbeats 4000000 in
theorem constant_any (o : CodeV) (x : V) (g base : Nat) (w : World) (ho : OutOk w g base o) (hbg : base ≤ w.heap.size) (hl : o.lk.length ≤ 1048576) :
    Calls Try.prog 31 #[.pointer (some ⟨g, 0, none⟩), .agg #[.int .i64 x.k, .int .u64 x.b]] w (PlaceOk (placeL sameV x o.lk).2 (Value.slice o.Ak o.lk.length o.ck).ownBlock g base w fun A' c' => { o with lk := (placeL sameV x o.lk).1, Ak := A', ck := c' }) := by
  obtain ⟨nr, ns, Ai, ci, li, Ak, ck, lk, Al, cl, ll⟩ := o
  obtain ⟨iI, hI, hI0, hI1, hI2⟩ := info_parts infoVa2
  simp only at hl ⊢
  have HO := Lib.hid ho
  have HRD : Hid (Rd w w.heap.size Ak (lk.flatMap V.cells)) := Lib.hid (own_rd ho.ok)
  generalize hq : placeL sameV x lk = q
  have HQ := Lib.hid hq
  have hz := ho.bk.lt
  have c2 : (w.alloc (.cells #[.int .i64 x.k, .int .u64 x.b] 31)).cell? ⟨g, 3, none⟩ = some (.slice Ak lk.length ck) := (ho.bk.alloc _).cell 3
  have hbe0 : Below w.heap.size w (w.alloc (.cells #[.int .i64 x.k, .int .u64 x.b] 31)) := (Below.refl _ _).alloc (Nat.le_refl _) _
  have kx0 := Bk.new w 31 #[.int .i64 x.k, .int .u64 x.b]
  clear hq ho
  go_enter Try.func31, Try.ntmps31
  go_wp2_with fail
  clear c2
  go_loopw [12] (fun i wr => ∃ k : Nat, k ≤ lk.length ∧ i = .int .i64 k ∧ Below w.heap.size w wr ∧ Bk wr w.heap.size 31 #[.int .i64 x.k, .int .u64 x.b] ∧ Hid (∀ (j : Nat) (z : V), j < k → lk[j]? = some z → sameV x z = false)) (fun i _ => lk.length - (intOf i).toNat)
  case atStart => exact ⟨0, Nat.zero_le _, rfl, hbe0, kx0, Lib.hid (fun j z hj => by omega)⟩
  case round =>
    rename World => wl
    clear hbe0 kx0
    obtain ⟨k, hk, rfl, hbe, kx, hno⟩ := hrel
    by_cases hlt : k < lk.length
    · as_aux_lemma =>
      obtain ⟨bb, oo, rfl, hb, hc⟩ := (HRD.out.below hbe).elem (f := V.cells) (n := 2) (fun _ => rfl) (by omega) hlt
      have hyk : lk[k]? = some lk[k] := List.getElem?_eq_getElem hlt
      generalize lk[k] = y at *
      obtain ⟨e, he⟩ : ∃ e, sameV x y = e := ⟨_, rfl⟩
      have heq : ∀ w : World, (binOp .eql 31 (.agg #[.int .i64 x.k, .int .u64 x.b]) (.agg #[.int .i64 y.k, .int .u64 y.b])).run Try.prog w = .ok (.bool e) w := fun w => by rw [eql_VV, he]
      have HE := Lib.hid he
      have HYK := Lib.hid hyk
      have y0 : wl.cell? ⟨bb, oo + k * 2, none⟩ = some (.int .i64 y.k) := hc 0 _ rfl
      have y1 : wl.cell? ⟨bb, oo + k * 2 + 1, none⟩ = some (.int .u64 y.b) := hc 1 _ rfl
      have hbx := hbe.alloc hbe.size (.cells #[.int .i64 y.k, .int .u64 y.b] 31)
      have kx2 := kx.alloc (.cells #[.int .i64 y.k, .int .u64 y.b] 31)
      have ky := Bk.new wl 31 #[.int .i64 y.k, .int .u64 y.b]
      have x0 : (wl.alloc (.cells #[.int .i64 y.k, .int .u64 y.b] 31)).cell? ⟨w.heap.size, 0, none⟩ = some (.int .i64 x.k) := kx2.cell 0
      have x1 : (wl.alloc (.cells #[.int .i64 y.k, .int .u64 y.b] 31)).cell? ⟨w.heap.size, 1, none⟩ = some (.int .u64 x.b) := kx2.cell 1
      clear hc hyk he ky kx
      cases e
      · as_aux_lemma =>
        go_wp2_with fail
        go_roundw
        case rel =>
          refine ⟨k + 1, by omega, by go_num, hbx, kx2, Lib.hid fun j z hj hz => ?_⟩
          by_cases hjk : j = k
          · rw [hjk, HYK.out] at hz
            injection hz with hz
            rw [← hz]; exact HE.out
          · exact hno.out j z (by omega) hz
        case measure => simp [intOf]; omega
      · as_aux_lemma =>
        have hpl := placeL_found hno.out HYK.out HE.out
        rw [HQ.out] at hpl
        subst hpl
        have HOF := Lib.hid (HO.out.old hbx)
        have HG := Lib.hid (gb_of (Value.slice (some ⟨bb, oo, none⟩) lk.length ck).ownBlock hbx)
        clear HQ HRD HO hno
        go_wp2_with fail
        go_ret
        exact ⟨_, _, _, rfl, HOF.out, HG.out, World.grownBy.refl _ _⟩
    · as_aux_lemma =>
      obtain rfl : k = lk.length := by omega
      have hpl := placeL_new hno.out
      rw [HQ.out] at hpl
      subst hpl
      have hoW := HO.out.old hbe
      have HOW := Lib.hid hoW
      have Hok := Lib.hid hoW.ok
      have hzl : w.heap.size ≤ wl.heap.size := hbe.size
      have c2 : wl.cell? ⟨g, 3, none⟩ = some (.slice Ak lk.length ck) := hoW.bk.cell 3
      have x0 : wl.cell? ⟨w.heap.size, 0, none⟩ = some (.int .i64 x.k) := kx.cell 0
      have x1 : wl.cell? ⟨w.heap.size, 1, none⟩ = some (.int .u64 x.b) := kx.cell 1
      clear hno HQ HRD HO hoW kx
      go_upto_region 7 with fail
      refine wp_region_l 10 7 ((Value.slice Ak lk.length ck).ownBlock) (by decide) (by kernel_rfl) (fun qk => (constantR7 x g base Ak ck lk w).getD qk .any) (by kernel_rfl) ?_ ?_
      · refine BOkL.pure rfl [] [0] rfl rfl (by kernel_rfl) (by kernel_rfl) (.pointer (some ⟨g, 0, none⟩)) rfl (fun qK qa wr qO qF hK => ?_) ?_
        · have e0 : qa.tmps[0]? = some (.pointer (some ⟨g, 0, none⟩)) := qO.1.trans rfl
          clear qO qF
          go_simp
          exact hK
        refine BOkL.cons rfl [] [0] rfl _ rfl (by kernel_rfl) rfl (by kernel_rfl) (by kernel_rfl) (fun qK qa wr hB qO qF hK => ?_) ?_
        · have e0 : qa.tmps[0]? = some (.pointer (some ⟨g, 0, none⟩)) := qO.1.trans rfl
          clear qO qF
          go_simp
          exact hK _ _ (Below.refl _ _) rfl
        refine BOkL.cons rfl [1] [] rfl _ rfl (by kernel_rfl) rfl (by kernel_rfl) (by kernel_rfl) (fun qK qa wr hB qO qF hK => ?_) ?_
        · have e23 : qa.tmps[23]? = some (.pointer (some ⟨g, 0, none⟩)) := fis qF.1 rfl rfl
          clear qO qF
          go_simp
          exact hK _ _ (Below.refl _ _) rfl
        refine BOkL.cons rfl [2] [] rfl _ rfl (by kernel_rfl) rfl (by kernel_rfl) (by kernel_rfl) (fun qK qa wr hB qO qF hK => ?_) ?_
        · have e24 : qa.tmps[24]? = some (.pointer (some ⟨g, 0, none⟩)) := fis qF.1 rfl rfl
          clear qO qF
          go_simp
          exact hK _ _ (Below.refl _ _) rfl
        refine BOkL.cons rfl [3] [] rfl _ rfl (by kernel_rfl) rfl (by kernel_rfl) (by kernel_rfl) (fun qK qa wr hB qO qF hK => ?_) ?_
        · have e25 : qa.tmps[25]? = some (.pointer (some ⟨g, 3, none⟩)) := fis qF.1 rfl rfl
          clear qO qF
          have hc2 := (bcell hB _ _ (World.block_lt_of_cell? _ _ c2)).trans c2
          go_simp
          exact hK _ _ (Below.refl _ _) rfl
        refine BOkL.cons rfl [] [3] rfl _ rfl (by kernel_rfl) rfl (by kernel_rfl) (by kernel_rfl) (fun qK qa wr hB qO qF hK => ?_) ?_
        · have e3 : qa.tmps[3]? = some (.pointer (some ⟨w.heap.size, 0, none⟩)) := qO.1.trans rfl
          clear qO qF
          have hx0 := (bcell hB _ _ (World.block_lt_of_cell? _ _ x0)).trans x0
          have hx1 := (bcell hB _ _ (World.block_lt_of_cell? _ _ x1)).trans x1
          go_simp
          exact hK _ _ (Below.refl _ _) rfl
        refine BOkL.cons rfl [5] [] rfl _ rfl (by kernel_rfl) rfl (by kernel_rfl) (by kernel_rfl) (fun qK qa wr hB qO qF hK => ?_) ?_
        · have e27 : qa.tmps[27]? = some (.agg #[.int .i64 x.k, .int .u64 x.b]) := fis qF.1 rfl rfl
          clear qO qF
          go_simp
          exact hK _ _ ((Below.refl _ _).alloc (Nat.le_refl _) _) ⟨_, rfl, Bk.new _ _ _⟩
        refine BOkL.app rfl [4, 6] [] rfl (by kernel_rfl) (by kernel_rfl) (fun qK qa wr hB qO qF hK => ?_) ?_
        · have e26 : qa.tmps[26]? = some (.slice Ak lk.length ck) := fis qF.1 rfl rfl
          obtain ⟨u28, e28, r6⟩ := qF.2.1
          obtain ⟨g28, h28, k28⟩ := (show ∃ g, u28 = .slice (some ⟨g, 0, none⟩) 1 1 ∧ Bk wr g 31 #[.int .i64 x.k, .int .u64 x.b] from r6)
          subst h28
          have e28 : qa.tmps[28]? = some (.slice (some ⟨g28, 0, none⟩) 1 1) := e28
          clear qO qF
          refine wp_append_rd _ _ 23 rfl base 31 iI _ 2 16 Try.underlying23 hI hI0 hI1 hI2 rfl (by decide) (.slice Ak lk.length ck) lk.length _ (act_evalG e26) (own_old Hok.out hB) (g28 + 1) (some ⟨g28, 0, none⟩) 1 1 [.int .i64 x.k, .int .u64 x.b] (act_evalG e28) (Rd.bk k28 (Nat.lt_succ_self _)) rfl (by intro u hu; simp at hu; rcases hu with rfl | rfl <;> rfl) (by unfold maxLen; omega) (by omega) (by have := hB.size; omega) ?_
          intro A9 c9 w9 hown9 hg9 _
          exact hK _ _ (World.grownBy.trans (gb_of _ hB) hg9) hg9.size ⟨A9, c9, rfl, hown9⟩
        refine BOkL.pure rfl [0] [] rfl rfl (by kernel_rfl) (by kernel_rfl) (.pointer (some ⟨g, 0, none⟩)) rfl (fun qK qa wr qO qF hK => ?_) ?_
        · have e22 : qa.tmps[22]? = some (.pointer (some ⟨g, 0, none⟩)) := fisL qF.1 rfl rfl
          clear qO qF
          go_simp
          exact hK
        refine BOkL.pure rfl [8] [] rfl rfl (by kernel_rfl) (by kernel_rfl) (.pointer (some ⟨g, 3, none⟩)) rfl (fun qK qa wr qO qF hK => ?_) ?_
        · have e30 : qa.tmps[30]? = some (.pointer (some ⟨g, 0, none⟩)) := fisL qF.1 rfl rfl
          clear qO qF
          go_simp
          exact hK
        exact BOkL.nil
      intro vals wr hl hG hR
      match vals, hl with
      | [z22, z23, z24, z25, z26, z27, z28, z29, z30, z31], _ =>
      have r7 : (fun v w => ∃ (A : Option Addr) (c : Nat), v = .slice A (lk.length + 1) c ∧ w.ownsRow base 31 2 (.slice A (lk.length + 1) c) (lk.length + 1) (lk.flatMap V.cells ++ [.int .i64 x.k, .int .u64 x.b])) z29 wr := both_at (hR 7 _ rfl)
      have r9 : z31 = .pointer (some ⟨g, 3, none⟩) := hR 9 _ rfl
      subst r9
      clear hR
      simp only [List.take_succ_cons, List.take_zero, List.drop_succ_cons, List.drop_zero, List.toList_toArray, List.cons_append, List.nil_append, putAll, Act.put, List.setIfInBounds_toArray, List.set_cons_zero, List.set_cons_succ]
      obtain ⟨A9, c9, rfl, hown9⟩ := r7
      rename World => w9
      have bk9 := HOW.out.bk.grown hG (own_ne_bk Hok.out HOW.out.bk (by decide))
      have ka9 := own_keep HOW.out.oi Hok.out (by decide) hG
      have kb9 := own_keep HOW.out.ol Hok.out (by decide) hG
      have hgg := (gb_of (Value.slice Ak lk.length ck).ownBlock hbe).trans hG
      have hlen : (lk ++ [x]).length = lk.length + 1 := by simp
      have hout : OutOk (w9.setCell ⟨g, 3, none⟩ (.slice A9 (lk.length + 1) c9)) g base { ({ nr := nr, ns := ns, Ai := Ai, ci := ci, li := li, Ak := Ak, ck := ck, lk := lk, Al := Al, cl := cl, ll := ll } : CodeV) with lk := lk ++ [x], Ak := A9, ck := c9 } := by
        have hb := bk9.put 3 (.slice A9 (lk.length + 1) c9)
        refine ⟨by show Bk _ g _ #[.int .i64 nr, .int .i64 ns, .slice Ai li.length ci, .slice A9 (lk ++ [x]).length c9, .slice Al ll.length cl]; rw [hlen]; simpa using hb, own_set ka9 bk9 (by decide) 3 _, by show World.ownsRow _ base 31 2 (.slice A9 (lk ++ [x]).length c9) (lk ++ [x]).length ((lk ++ [x]).flatMap V.cells); rw [hlen, List.flatMap_append]; exact own_set hown9 bk9 (by decide) 3 _, own_set kb9 bk9 (by decide) 3 _⟩
      have HOUT := Lib.hid hout
      have HGG := Lib.hid hgg
      have d2 := bk9.cell 3
      have f2 := bk9.frozen 3
      have e2 : (w9.setCell ⟨g, 3, none⟩ (.slice A9 (lk.length + 1) c9)).cell? ⟨g, 3, none⟩ = some (.slice A9 (lk.length + 1) c9) := by
        have := (bk9.put 3 (.slice A9 (lk.length + 1) c9)).cell 3
        simpa using this
      simp at d2
      clear hG hout hgg HOW Hok ka9 kb9 bk9 hown9 c2 x0 x1 hbe
      go_wp2_with fail
      go_ret
      exact ⟨A9, c9, w9, by first | rfl | go_num | (simp; done), HOUT.out, HGG.out, gb_set (World.grownBy.refl _ _) _ _⟩
end Go.Proofs.Ytadblgfppnpamaa
