/- Layer 9: the closures of the program's aggregate. No conditions. -/
import Derived.Test.YtomhheihhnmbcaaEvO
namespace Go.Proofs.Ytomhheihhnmbcaa
open Go.RowKit
set_option linter.unusedVariables false
set_option linter.unusedSimpArgs false

theorem padd_any (a b : V) (ha : a.fits) (hb : b.fits) (w : World) :
    Calls Try.prog 51 #[a.v, b.v] w fun e w' => e = .returned (addV a b).v ∧ Below w.heap.size w w' := by
  unfold V.v
  go_enter Try.func51, Try.ntmps51
  generalize hR : addV a b = R
  have HR := Lib.hid hR
  clear hR
  go_wp2_with fail
  have h4 : ∀ x1 x2 x3 x4 : Obj, Below w.heap.size w ((((w.alloc x1).alloc x2).alloc x3).alloc x4) := fun _ _ _ _ => (((bel2 _ _ _).alloc (by simp; omega) _)).alloc (by simp; omega) _
  refine (apply_any 1 [a, b] _ 2 _ (bk_rd (Bk.newAt (by simp) 31 #[.int .i64 a.k, .int .u64 a.b, .int .i64 b.k, .int .u64 b.b])) (by intro q hq; simp only [List.mem_cons, List.not_mem_nil, or_false] at hq; rcases hq with rfl | rfl <;> assumption) (by simp)).mono ?_
  rintro e w1 ⟨rfl, hb1⟩
  have hbe : Below w.heap.size w w1 := (h4 _ _ _ _).trans (hb1.mono (by simp; omega))
  have kr := ((Bk.newAt (w := (w.alloc (.cells #[.int .i64 a.k, .int .u64 a.b] 31)).alloc (.cells #[.int .i64 b.k, .int .u64 b.b] 31)) (g := w.heap.size + 1 + 1) (by simp) 31 #[.int .i64 0, .int .u64 0]).alloc _).old hb1
  have e : applyV 1 [a, b] = R := HR.out
  rw [e]
  clear e
  simp only [V.v]
  obtain ⟨c0, c1, f0, f1⟩ := vcells kr
  obtain ⟨d0, d1, _, _⟩ := vcells (vput kr (.int .i64 R.k) (.int .u64 R.b))
  clear kr hb1
  go_wp2_with fail
  exact bodyPost_ret (v := .agg #[.int .i64 R.k, .int .u64 R.b]) (by simp [results, Try.results51, go_sem, d0, d1]) rfl ⟨rfl, (hbe.setCell (by simp; omega) _).setCell (by simp; omega) _⟩

theorem ppick_any (a b : V) (ha : a.fits) (hb : b.fits) (op : Int) (nb : Nat) (w : World) (hc : w.cell? ⟨nb, 0, none⟩ = some (.int .i64 op)) :
    Calls Try.prog 52 #[a.v, b.v, .pointer (some ⟨nb, 0, none⟩)] w fun e w' => e = .returned (pickV a b (decide (op = 30))).v ∧ Below w.heap.size w w' := by
  have hnb := World.block_lt_of_cell? _ _ hc
  have h3 : ∀ x1 x2 x3 : Obj, Below w.heap.size w (((w.alloc x1).alloc x2).alloc x3) := fun _ _ _ => ((bel2 _ _ _).alloc (by simp; omega) _)
  have q0 : ∀ x1 x2 x3 : Obj, (((w.alloc x1).alloc x2).alloc x3).cell? ⟨nb, 0, none⟩ = some (.int .i64 op) := fun _ _ _ => (bcell (h3 _ _ _) _ _ hnb).trans hc
  have hb3 : (op == 30) = decide (op = 30) := by by_cases h : op = 30 <;> simp [h]
  rw [← hb3]
  clear hb3
  generalize hm : (op == 30) = m
  generalize hR : pickV a b m = R
  have HR := Lib.hid hR
  clear hR hc
  unfold V.v
  go_enter Try.func52, Try.ntmps52
  go_wp2_with fail
  refine (pick_any a b m ha hb _).mono ?_
  rintro e w1 ⟨rfl, hb1⟩
  have hbe : Below w.heap.size w w1 := (h3 _ _ _).trans (hb1.mono (by simp; omega))
  have kr := (Bk.newAt (w := (w.alloc (.cells #[.int .i64 a.k, .int .u64 a.b] 31)).alloc (.cells #[.int .i64 b.k, .int .u64 b.b] 31)) (g := w.heap.size + 1 + 1) (by simp) 31 #[.int .i64 0, .int .u64 0]).old hb1
  rw [HR.out]
  simp only [V.v]
  obtain ⟨c0, c1, f0, f1⟩ := vcells kr
  obtain ⟨d0, d1, _, _⟩ := vcells (vput kr (.int .i64 R.k) (.int .u64 R.b))
  clear kr hb1
  go_wp2_with fail
  exact bodyPost_ret (v := .agg #[.int .i64 R.k, .int .u64 R.b]) (by simp [results, Try.results52, go_sem, d0, d1]) rfl ⟨rfl, (hbe.setCell (by simp; omega) _).setCell (by simp; omega) _⟩

def evAdd (S X R : V) (lb b o c k : Nat) (l0 : List V) (w0 : World) : List Spec := [.is (.func (.func 51) #[] #[]),
  .is (.agg #[.int .i64 S.k, .int .u64 S.b]),
  .is (.slice (some ⟨b, o, none⟩) (l0.length + 1) c),
  .is (.int .i64 (k : Nat)),
  .is (.int .i64 ((k + 1 : Nat) : Int)),
  .is (.pointer (some ⟨b, o + (k + 1) * 2, none⟩)),
  .is (.agg #[.int .i64 X.k, .int .u64 X.b]),
  .is (.agg #[.int .i64 R.k, .int .u64 R.b])]

set_option maxRecDepth 100000 in
set_option maxHeartbeats 4000000 in
theorem pfold_add (g : V → V → V) (x : V) (l0 : List V) (lb b o c : Nat) (w0 : World) (hcl : w0.cell? ⟨lb, 0, none⟩ = some (.slice (some ⟨b, o, none⟩) (l0.length + 1) c)) (hb : b < w0.heap.size)
    (hc : ∀ (j : Nat) (u : Value), ((x :: l0).flatMap V.cells)[j]? = some u → w0.cell? ⟨b, o + j, none⟩ = some u) (hf : ∀ y ∈ x :: l0, y.fits) (hl : l0.length ≤ 1048577)
    (hg : ∀ a b : V, a.fits → b.fits → (g a b).fits) (hs : ∀ a b : V, a.fits → b.fits → ∀ w : World, Below w0.heap.size w0 w → Calls Try.prog 51 #[a.v, b.v] w fun e w' => e = .returned (g a b).v ∧ Below w.heap.size w w') :
    Calls Try.prog 50 #[.func (.func 51) #[] #[], .pointer (some ⟨lb, 0, none⟩)] w0 fun e w' => e = .returned (l0.foldl g x).v ∧ Below w0.heap.size w0 w' := by
  have at_ : ∀ (w' : World), Below w0.heap.size w0 w' → ∀ (k : Nat) (h : k < l0.length), w'.cell? ⟨b, o + (k + 1) * 2, none⟩ = some (.int .i64 l0[k].k) ∧ w'.cell? ⟨b, o + (k + 1) * 2 + 1, none⟩ = some (.int .u64 l0[k].b) := by
    intro w' hw k h
    have e0 := flat_at (n := 2) V.cells (fun _ => rfl) (x :: l0) (k + 1) 0 (by simp; omega) (by omega)
    have e1 := flat_at (n := 2) V.cells (fun _ => rfl) (x :: l0) (k + 1) 1 (by simp; omega) (by omega)
    exact ⟨(bcell hw _ _ hb).trans (hc _ _ e0), (bcell hw _ _ hb).trans (by have := hc _ _ e1; rwa [← Nat.add_assoc] at this)⟩
  have hlb := World.block_lt_of_cell? _ _ hcl
  have AT := Lib.hid at_
  have HF := Lib.hid hf
  have HG := Lib.hid hg
  have HS := Lib.hid hs
  have hx0 : w0.cell? ⟨b, o, none⟩ = some (.int .i64 x.k) := hc 0 _ rfl
  have hx1 : w0.cell? ⟨b, o + 1, none⟩ = some (.int .u64 x.b) := hc 1 _ rfl
  have q0 : ∀ x1 : Obj, (w0.alloc x1).cell? ⟨b, o, none⟩ = some (.int .i64 x.k) := fun _ => (bcell ((Below.refl _ _).alloc (Nat.le_refl _) _) _ _ hb).trans hx0
  have q1 : ∀ x1 : Obj, (w0.alloc x1).cell? ⟨b, o + 1, none⟩ = some (.int .u64 x.b) := fun _ => (bcell ((Below.refl _ _).alloc (Nat.le_refl _) _) _ _ hb).trans hx1
  have ql : ∀ x1 : Obj, (w0.alloc x1).cell? ⟨lb, 0, none⟩ = some (.slice (some ⟨b, o, none⟩) (l0.length + 1) c) := fun _ => (bcell ((Below.refl _ _).alloc (Nat.le_refl _) _) _ _ hlb).trans hcl
  have ql2 : ∀ x1 x2 : Obj, ((w0.alloc x1).alloc x2).cell? ⟨lb, 0, none⟩ = some (.slice (some ⟨b, o, none⟩) (l0.length + 1) c) := fun _ _ => (bcell (bel2 _ _ _) _ _ hlb).trans hcl
  have hws0 : IntKind.i64.wrap ((l0.length : Int) + 1 - 1) = (l0.length : Int) := by rw [IntKind.wrap_i64]; omega
  clear at_ hc hf hx0 hx1 hg hs
  generalize hR : l0.foldl g x = R
  have HRR := Lib.hid hR
  clear hR
  go_enter Try.func50, Try.ntmps50
  go_wp2_with fail
  clear q0 q1 ql ql2
  go_loopw [12] (fun i wr => ∃ (k : Nat), k ≤ l0.length ∧ i = .int .i64 k ∧ Below w0.heap.size w0 wr ∧ Bk wr w0.heap.size 31 #[.int .i64 0, .int .u64 0] ∧
      Bk wr (w0.heap.size + 1) 31 #[.int .i64 ((l0.take k).foldl g x).k, .int .u64 ((l0.take k).foldl g x).b] ∧ Hid ((l0.take k).foldl g x).fits) (fun i _ => l0.length - (intOf i).toNat)
  case atStart =>
    refine ⟨0, Nat.zero_le _, rfl, bel2 _ _ _, (Bk.new _ _ _).alloc _, ?_, Lib.hid (HF.out x (by simp))⟩
    exact Bk.newAt (by simp) _ _
  case round =>
    obtain ⟨k, hk, rfl, hbel, hb0, hb1, hfit⟩ := hrel
    by_cases hlt : k < l0.length
    · as_aux_lemma =>
      obtain ⟨cx0, cx1⟩ := AT.out _ hbel k hlt
      have cl := (bcell hbel _ _ hlb).trans hcl
      have hX : l0[k].fits := HF.out _ (by simp)
      have hS := hfit.out
      have hnext : (l0.take (k + 1)).foldl g x = g ((l0.take k).foldl g x) l0[k] := by rw [List.take_succ_eq_append_getElem hlt, List.foldl_append]; rfl
      have hfn := HG.out _ _ hS hX
      rw [← hnext] at hfn
      have HN := Lib.hid hnext.symm
      have HFN := Lib.hid hfn
      clear hnext hfn hfit
      generalize hRn : (l0.take (k + 1)).foldl g x = R at *
      have HRn := Lib.hid hRn
      clear hRn
      generalize (l0.take k).foldl g x = S at *
      generalize l0[k] = X at *
      have HR := HN
      have HW := Lib.hid hbel
      have hz := hb1.lt
      obtain ⟨c0, c1, _, _⟩ := vcells hb1
      have hws : IntKind.i64.wrap ((k : Int) + 1) = (k : Int) + 1 := by rw [IntKind.wrap_i64]; omega
      go_wp2_with fail
      refine wp_region_t 8 (fun k => false) (by kernel_rfl) (fun qk => (evAdd S X R lb b o c k l0 w0).getD qk .any) (by kernel_rfl) ?_ ?_
      · refine BOk.cons rfl [] [0] rfl rfl (by kernel_rfl) (by kernel_rfl) (fun qK qa wr hB qO qF hK => ?_) ?_
        · have e0 : qa.tmps[0]? = some (.func (.func 51) #[] #[]) := qO.1.trans rfl
          clear qO qF
          go_simp
          exact hK _ _ (Below.refl _ _) rfl
        refine BOk.cons rfl [] [4] rfl rfl (by kernel_rfl) (by kernel_rfl) (fun qK qa wr hB qO qF hK => ?_) ?_
        · have e4 : qa.tmps[4]? = some (.pointer (some ⟨w0.heap.size + 1, 0, none⟩)) := qO.1.trans rfl
          clear qO qF
          have hc0 := (bcell hB _ _ (World.block_lt_of_cell? _ _ c0)).trans c0
          have hc1 := (bcell hB _ _ (World.block_lt_of_cell? _ _ c1)).trans c1
          go_simp
          exact hK _ _ (Below.refl _ _) rfl
        refine BOk.cons rfl [] [1] rfl rfl (by kernel_rfl) (by kernel_rfl) (fun qK qa wr hB qO qF hK => ?_) ?_
        · have e1 : qa.tmps[1]? = some (.pointer (some ⟨lb, 0, none⟩)) := qO.1.trans rfl
          clear qO qF
          have hcl := (bcell hB _ _ (World.block_lt_of_cell? _ _ cl)).trans cl
          go_simp
          exact hK _ _ (Below.refl _ _) rfl
        refine BOk.cons rfl [] [5] rfl rfl (by kernel_rfl) (by kernel_rfl) (fun qK qa wr hB qO qF hK => ?_) ?_
        · have e5 : qa.tmps[5]? = some (.int .i64 (k : Nat)) := qO.1.trans rfl
          clear qO qF
          go_simp
          exact hK _ _ (Below.refl _ _) rfl
        refine BOk.cons rfl [3] [] rfl rfl (by kernel_rfl) (by kernel_rfl) (fun qK qa wr hB qO qF hK => ?_) ?_
        · obtain ⟨u18, e18, r3⟩ := qF.1
          have e18 : qa.tmps[18]? = some (.int .i64 (k : Nat)) := (show u18 = .int .i64 (k : Nat) from r3) ▸ e18
          clear r3
          clear qO qF
          go_simp
          refine hK _ _ (Below.refl _ _) ?_
          show (_ : Value) = _
          first | rfl | (simp [hws]; done)
        refine BOk.cons rfl [2, 4] [] rfl rfl (by kernel_rfl) (by kernel_rfl) (fun qK qa wr hB qO qF hK => ?_) ?_
        · obtain ⟨u17, e17, r2⟩ := qF.1
          have e17 : qa.tmps[17]? = some (.slice (some ⟨b, o, none⟩) (l0.length + 1) c) := (show u17 = .slice (some ⟨b, o, none⟩) (l0.length + 1) c from r2) ▸ e17
          clear r2
          obtain ⟨u19, e19, r4⟩ := qF.2.1
          have e19 : qa.tmps[19]? = some (.int .i64 ((k + 1 : Nat) : Int)) := (show u19 = .int .i64 ((k + 1 : Nat) : Int) from r4) ▸ e19
          clear r4
          clear qO qF
          go_simp
          refine hK _ _ (Below.refl _ _) ?_
          show (_ : Value) = _
          first | rfl | (simp; done) | (simp; omega) | go_num
        refine BOk.cons rfl [5] [] rfl rfl (by kernel_rfl) (by kernel_rfl) (fun qK qa wr hB qO qF hK => ?_) ?_
        · obtain ⟨u20, e20, r5⟩ := qF.1
          have e20 : qa.tmps[20]? = some (.pointer (some ⟨b, o + (k + 1) * 2, none⟩)) := (show u20 = .pointer (some ⟨b, o + (k + 1) * 2, none⟩) from r5) ▸ e20
          clear r5
          clear qO qF
          have hcx0 := (bcell hB _ _ (World.block_lt_of_cell? _ _ cx0)).trans cx0
          have hcx1 := (bcell hB _ _ (World.block_lt_of_cell? _ _ cx1)).trans cx1
          go_simp
          exact hK _ _ (Below.refl _ _) rfl
        refine BOk.cons rfl [0, 1, 6] [] rfl rfl (by kernel_rfl) (by kernel_rfl) (fun qK qa wr hB qO qF hK => ?_) ?_
        · obtain ⟨u15, e15, r0⟩ := qF.1
          have e15 : qa.tmps[15]? = some (.func (.func 51) #[] #[]) := (show u15 = .func (.func 51) #[] #[] from r0) ▸ e15
          clear r0
          obtain ⟨u16, e16, r1⟩ := qF.2.1
          have e16 : qa.tmps[16]? = some (.agg #[.int .i64 S.k, .int .u64 S.b]) := (show u16 = .agg #[.int .i64 S.k, .int .u64 S.b] from r1) ▸ e16
          clear r1
          obtain ⟨u21, e21, r6⟩ := qF.2.2.1
          have e21 : qa.tmps[21]? = some (.agg #[.int .i64 X.k, .int .u64 X.b]) := (show u21 = .agg #[.int .i64 X.k, .int .u64 X.b] from r6) ▸ e21
          clear r6
          clear qO qF
          go_simp
          go_at_call 51
          refine (HS.out _ _ hS hX _ (HW.out.trans (hB.mono HW.out.size))).mono ?_
          rintro e w2 ⟨rfl, hb2⟩
          rw [HR.out]
          exact hK _ _ hb2 rfl
        exact BOk.nil
      intro vals wr hl hB hR hS
      match vals, hl with
      | [z15, z16, z17, z18, z19, z20, z21, z22], _ =>
      have r7 : z22 = .agg #[.int .i64 R.k, .int .u64 R.b] := hR 7 _ rfl
      subst r7
      clear hS
      clear hR
      simp only [List.take_succ_cons, List.take_zero, List.drop_succ_cons, List.drop_zero, List.toList_toArray, List.cons_append, List.nil_append, putAll, Act.put, List.setIfInBounds_toArray, List.set_cons_zero, List.set_cons_succ]
      have kr := hb1.old hB
      have kr0 := hb0.old hB
      have hbe := hbel.trans (hB.mono hbel.size)
      obtain ⟨c0, c1, f0, f1⟩ := vcells kr
      clear hB
      go_wp2_with fail
      go_roundw
      case rel =>
        refine ⟨k + 1, by omega, by go_num, (hbe.setCell (by simp) _).setCell (by simp) _, (kr0.far (by simp) _).far (by simp) _, ?_, by rw [HRn.out]; exact HFN⟩
        rw [HRn.out]
        exact (kr.put 0 _).put 1 _
      case measure => simp [intOf]; omega
    · as_aux_lemma =>
      obtain rfl : k = l0.length := by omega
      rw [List.take_length] at hb1
      rw [HRR.out] at hb1
      clear hfit HRR
      obtain ⟨e0, e1, f0, f1⟩ := vcells hb0
      obtain ⟨v0, v1, _, _⟩ := vcells hb1
      obtain ⟨d0, d1, _, _⟩ := vcells (vput hb0 (.int .i64 R.k) (.int .u64 R.b))
      go_wp2_with fail
      exact bodyPost_ret (v := .agg #[.int .i64 R.k, .int .u64 R.b]) (by simp [results, Try.results50, go_sem, d0, d1]) rfl ⟨rfl, (hbel.setCell (Nat.le_refl _) _).setCell (Nat.le_refl _) _⟩

def evPick (S X R : V) (nb : Nat) (lb b o c k : Nat) (l0 : List V) (w0 : World) : List Spec := [.is (.func (.func 52) #[] #[.pointer (some ⟨nb, 0, none⟩)]),
  .is (.agg #[.int .i64 S.k, .int .u64 S.b]),
  .is (.slice (some ⟨b, o, none⟩) (l0.length + 1) c),
  .is (.int .i64 (k : Nat)),
  .is (.int .i64 ((k + 1 : Nat) : Int)),
  .is (.pointer (some ⟨b, o + (k + 1) * 2, none⟩)),
  .is (.agg #[.int .i64 X.k, .int .u64 X.b]),
  .is (.agg #[.int .i64 R.k, .int .u64 R.b])]

set_option maxRecDepth 100000 in
set_option maxHeartbeats 4000000 in
theorem pfold_pick (g : V → V → V) (nb : Nat) (x : V) (l0 : List V) (lb b o c : Nat) (w0 : World) (hcl : w0.cell? ⟨lb, 0, none⟩ = some (.slice (some ⟨b, o, none⟩) (l0.length + 1) c)) (hb : b < w0.heap.size)
    (hc : ∀ (j : Nat) (u : Value), ((x :: l0).flatMap V.cells)[j]? = some u → w0.cell? ⟨b, o + j, none⟩ = some u) (hf : ∀ y ∈ x :: l0, y.fits) (hl : l0.length ≤ 1048577)
    (hg : ∀ a b : V, a.fits → b.fits → (g a b).fits) (hs : ∀ a b : V, a.fits → b.fits → ∀ w : World, Below w0.heap.size w0 w → Calls Try.prog 52 #[a.v, b.v, .pointer (some ⟨nb, 0, none⟩)] w fun e w' => e = .returned (g a b).v ∧ Below w.heap.size w w') :
    Calls Try.prog 50 #[.func (.func 52) #[] #[.pointer (some ⟨nb, 0, none⟩)], .pointer (some ⟨lb, 0, none⟩)] w0 fun e w' => e = .returned (l0.foldl g x).v ∧ Below w0.heap.size w0 w' := by
  have at_ : ∀ (w' : World), Below w0.heap.size w0 w' → ∀ (k : Nat) (h : k < l0.length), w'.cell? ⟨b, o + (k + 1) * 2, none⟩ = some (.int .i64 l0[k].k) ∧ w'.cell? ⟨b, o + (k + 1) * 2 + 1, none⟩ = some (.int .u64 l0[k].b) := by
    intro w' hw k h
    have e0 := flat_at (n := 2) V.cells (fun _ => rfl) (x :: l0) (k + 1) 0 (by simp; omega) (by omega)
    have e1 := flat_at (n := 2) V.cells (fun _ => rfl) (x :: l0) (k + 1) 1 (by simp; omega) (by omega)
    exact ⟨(bcell hw _ _ hb).trans (hc _ _ e0), (bcell hw _ _ hb).trans (by have := hc _ _ e1; rwa [← Nat.add_assoc] at this)⟩
  have hlb := World.block_lt_of_cell? _ _ hcl
  have AT := Lib.hid at_
  have HF := Lib.hid hf
  have HG := Lib.hid hg
  have HS := Lib.hid hs
  have hx0 : w0.cell? ⟨b, o, none⟩ = some (.int .i64 x.k) := hc 0 _ rfl
  have hx1 : w0.cell? ⟨b, o + 1, none⟩ = some (.int .u64 x.b) := hc 1 _ rfl
  have q0 : ∀ x1 : Obj, (w0.alloc x1).cell? ⟨b, o, none⟩ = some (.int .i64 x.k) := fun _ => (bcell ((Below.refl _ _).alloc (Nat.le_refl _) _) _ _ hb).trans hx0
  have q1 : ∀ x1 : Obj, (w0.alloc x1).cell? ⟨b, o + 1, none⟩ = some (.int .u64 x.b) := fun _ => (bcell ((Below.refl _ _).alloc (Nat.le_refl _) _) _ _ hb).trans hx1
  have ql : ∀ x1 : Obj, (w0.alloc x1).cell? ⟨lb, 0, none⟩ = some (.slice (some ⟨b, o, none⟩) (l0.length + 1) c) := fun _ => (bcell ((Below.refl _ _).alloc (Nat.le_refl _) _) _ _ hlb).trans hcl
  have ql2 : ∀ x1 x2 : Obj, ((w0.alloc x1).alloc x2).cell? ⟨lb, 0, none⟩ = some (.slice (some ⟨b, o, none⟩) (l0.length + 1) c) := fun _ _ => (bcell (bel2 _ _ _) _ _ hlb).trans hcl
  have hws0 : IntKind.i64.wrap ((l0.length : Int) + 1 - 1) = (l0.length : Int) := by rw [IntKind.wrap_i64]; omega
  clear at_ hc hf hx0 hx1 hg hs
  generalize hR : l0.foldl g x = R
  have HRR := Lib.hid hR
  clear hR
  go_enter Try.func50, Try.ntmps50
  go_wp2_with fail
  clear q0 q1 ql ql2
  go_loopw [12] (fun i wr => ∃ (k : Nat), k ≤ l0.length ∧ i = .int .i64 k ∧ Below w0.heap.size w0 wr ∧ Bk wr w0.heap.size 31 #[.int .i64 0, .int .u64 0] ∧
      Bk wr (w0.heap.size + 1) 31 #[.int .i64 ((l0.take k).foldl g x).k, .int .u64 ((l0.take k).foldl g x).b] ∧ Hid ((l0.take k).foldl g x).fits) (fun i _ => l0.length - (intOf i).toNat)
  case atStart =>
    refine ⟨0, Nat.zero_le _, rfl, bel2 _ _ _, (Bk.new _ _ _).alloc _, ?_, Lib.hid (HF.out x (by simp))⟩
    exact Bk.newAt (by simp) _ _
  case round =>
    obtain ⟨k, hk, rfl, hbel, hb0, hb1, hfit⟩ := hrel
    by_cases hlt : k < l0.length
    · as_aux_lemma =>
      obtain ⟨cx0, cx1⟩ := AT.out _ hbel k hlt
      have cl := (bcell hbel _ _ hlb).trans hcl
      have hX : l0[k].fits := HF.out _ (by simp)
      have hS := hfit.out
      have hnext : (l0.take (k + 1)).foldl g x = g ((l0.take k).foldl g x) l0[k] := by rw [List.take_succ_eq_append_getElem hlt, List.foldl_append]; rfl
      have hfn := HG.out _ _ hS hX
      rw [← hnext] at hfn
      have HN := Lib.hid hnext.symm
      have HFN := Lib.hid hfn
      clear hnext hfn hfit
      generalize hRn : (l0.take (k + 1)).foldl g x = R at *
      have HRn := Lib.hid hRn
      clear hRn
      generalize (l0.take k).foldl g x = S at *
      generalize l0[k] = X at *
      have HR := HN
      have HW := Lib.hid hbel
      have hz := hb1.lt
      obtain ⟨c0, c1, _, _⟩ := vcells hb1
      have hws : IntKind.i64.wrap ((k : Int) + 1) = (k : Int) + 1 := by rw [IntKind.wrap_i64]; omega
      go_wp2_with fail
      refine wp_region_t 8 (fun k => false) (by kernel_rfl) (fun qk => (evPick S X R nb lb b o c k l0 w0).getD qk .any) (by kernel_rfl) ?_ ?_
      · refine BOk.cons rfl [] [0] rfl rfl (by kernel_rfl) (by kernel_rfl) (fun qK qa wr hB qO qF hK => ?_) ?_
        · have e0 : qa.tmps[0]? = some (.func (.func 52) #[] #[.pointer (some ⟨nb, 0, none⟩)]) := qO.1.trans rfl
          clear qO qF
          go_simp
          exact hK _ _ (Below.refl _ _) rfl
        refine BOk.cons rfl [] [4] rfl rfl (by kernel_rfl) (by kernel_rfl) (fun qK qa wr hB qO qF hK => ?_) ?_
        · have e4 : qa.tmps[4]? = some (.pointer (some ⟨w0.heap.size + 1, 0, none⟩)) := qO.1.trans rfl
          clear qO qF
          have hc0 := (bcell hB _ _ (World.block_lt_of_cell? _ _ c0)).trans c0
          have hc1 := (bcell hB _ _ (World.block_lt_of_cell? _ _ c1)).trans c1
          go_simp
          exact hK _ _ (Below.refl _ _) rfl
        refine BOk.cons rfl [] [1] rfl rfl (by kernel_rfl) (by kernel_rfl) (fun qK qa wr hB qO qF hK => ?_) ?_
        · have e1 : qa.tmps[1]? = some (.pointer (some ⟨lb, 0, none⟩)) := qO.1.trans rfl
          clear qO qF
          have hcl := (bcell hB _ _ (World.block_lt_of_cell? _ _ cl)).trans cl
          go_simp
          exact hK _ _ (Below.refl _ _) rfl
        refine BOk.cons rfl [] [5] rfl rfl (by kernel_rfl) (by kernel_rfl) (fun qK qa wr hB qO qF hK => ?_) ?_
        · have e5 : qa.tmps[5]? = some (.int .i64 (k : Nat)) := qO.1.trans rfl
          clear qO qF
          go_simp
          exact hK _ _ (Below.refl _ _) rfl
        refine BOk.cons rfl [3] [] rfl rfl (by kernel_rfl) (by kernel_rfl) (fun qK qa wr hB qO qF hK => ?_) ?_
        · obtain ⟨u18, e18, r3⟩ := qF.1
          have e18 : qa.tmps[18]? = some (.int .i64 (k : Nat)) := (show u18 = .int .i64 (k : Nat) from r3) ▸ e18
          clear r3
          clear qO qF
          go_simp
          refine hK _ _ (Below.refl _ _) ?_
          show (_ : Value) = _
          first | rfl | (simp [hws]; done)
        refine BOk.cons rfl [2, 4] [] rfl rfl (by kernel_rfl) (by kernel_rfl) (fun qK qa wr hB qO qF hK => ?_) ?_
        · obtain ⟨u17, e17, r2⟩ := qF.1
          have e17 : qa.tmps[17]? = some (.slice (some ⟨b, o, none⟩) (l0.length + 1) c) := (show u17 = .slice (some ⟨b, o, none⟩) (l0.length + 1) c from r2) ▸ e17
          clear r2
          obtain ⟨u19, e19, r4⟩ := qF.2.1
          have e19 : qa.tmps[19]? = some (.int .i64 ((k + 1 : Nat) : Int)) := (show u19 = .int .i64 ((k + 1 : Nat) : Int) from r4) ▸ e19
          clear r4
          clear qO qF
          go_simp
          refine hK _ _ (Below.refl _ _) ?_
          show (_ : Value) = _
          first | rfl | (simp; done) | (simp; omega) | go_num
        refine BOk.cons rfl [5] [] rfl rfl (by kernel_rfl) (by kernel_rfl) (fun qK qa wr hB qO qF hK => ?_) ?_
        · obtain ⟨u20, e20, r5⟩ := qF.1
          have e20 : qa.tmps[20]? = some (.pointer (some ⟨b, o + (k + 1) * 2, none⟩)) := (show u20 = .pointer (some ⟨b, o + (k + 1) * 2, none⟩) from r5) ▸ e20
          clear r5
          clear qO qF
          have hcx0 := (bcell hB _ _ (World.block_lt_of_cell? _ _ cx0)).trans cx0
          have hcx1 := (bcell hB _ _ (World.block_lt_of_cell? _ _ cx1)).trans cx1
          go_simp
          exact hK _ _ (Below.refl _ _) rfl
        refine BOk.cons rfl [0, 1, 6] [] rfl rfl (by kernel_rfl) (by kernel_rfl) (fun qK qa wr hB qO qF hK => ?_) ?_
        · obtain ⟨u15, e15, r0⟩ := qF.1
          have e15 : qa.tmps[15]? = some (.func (.func 52) #[] #[.pointer (some ⟨nb, 0, none⟩)]) := (show u15 = .func (.func 52) #[] #[.pointer (some ⟨nb, 0, none⟩)] from r0) ▸ e15
          clear r0
          obtain ⟨u16, e16, r1⟩ := qF.2.1
          have e16 : qa.tmps[16]? = some (.agg #[.int .i64 S.k, .int .u64 S.b]) := (show u16 = .agg #[.int .i64 S.k, .int .u64 S.b] from r1) ▸ e16
          clear r1
          obtain ⟨u21, e21, r6⟩ := qF.2.2.1
          have e21 : qa.tmps[21]? = some (.agg #[.int .i64 X.k, .int .u64 X.b]) := (show u21 = .agg #[.int .i64 X.k, .int .u64 X.b] from r6) ▸ e21
          clear r6
          clear qO qF
          go_simp
          go_at_call 52
          refine (HS.out _ _ hS hX _ (HW.out.trans (hB.mono HW.out.size))).mono ?_
          rintro e w2 ⟨rfl, hb2⟩
          rw [HR.out]
          exact hK _ _ hb2 rfl
        exact BOk.nil
      intro vals wr hl hB hR hS
      match vals, hl with
      | [z15, z16, z17, z18, z19, z20, z21, z22], _ =>
      have r7 : z22 = .agg #[.int .i64 R.k, .int .u64 R.b] := hR 7 _ rfl
      subst r7
      clear hS
      clear hR
      simp only [List.take_succ_cons, List.take_zero, List.drop_succ_cons, List.drop_zero, List.toList_toArray, List.cons_append, List.nil_append, putAll, Act.put, List.setIfInBounds_toArray, List.set_cons_zero, List.set_cons_succ]
      have kr := hb1.old hB
      have kr0 := hb0.old hB
      have hbe := hbel.trans (hB.mono hbel.size)
      obtain ⟨c0, c1, f0, f1⟩ := vcells kr
      clear hB
      go_wp2_with fail
      go_roundw
      case rel =>
        refine ⟨k + 1, by omega, by go_num, (hbe.setCell (by simp) _).setCell (by simp) _, (kr0.far (by simp) _).far (by simp) _, ?_, by rw [HRn.out]; exact HFN⟩
        rw [HRn.out]
        exact (kr.put 0 _).put 1 _
      case measure => simp [intOf]; omega
    · as_aux_lemma =>
      obtain rfl : k = l0.length := by omega
      rw [List.take_length] at hb1
      rw [HRR.out] at hb1
      clear hfit HRR
      obtain ⟨e0, e1, f0, f1⟩ := vcells hb0
      obtain ⟨v0, v1, _, _⟩ := vcells hb1
      obtain ⟨d0, d1, _, _⟩ := vcells (vput hb0 (.int .i64 R.k) (.int .u64 R.b))
      go_wp2_with fail
      exact bodyPost_ret (v := .agg #[.int .i64 R.k, .int .u64 R.b]) (by simp [results, Try.results50, go_sem, d0, d1]) rfl ⟨rfl, (hbel.setCell (Nat.le_refl _) _).setCell (Nat.le_refl _) _⟩
end Go.Proofs.Ytomhheihhnmbcaa
