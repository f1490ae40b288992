/- VmEnds holds of what is of bounded bulk. No conditions. -/
import Derived.Test.YtadblgfppnpamaaLawB
import Derived.Test.YtadblgfppnpamaaVmRd
import Derived.Test.YtadblgfppnpamaaVmAw
import Derived.Test.YtadblgfppnpamaaVmTw
import Derived.Test.YtadblgfppnpamaaVmSm
namespace Go.Proofs.Ytadblgfppnpamaa.vmEnds
open Go.ChangeShapes Go.WideShapes Go.ChangeAt Go.RowKit
open Go.ChangeMaps (open_string shut_string)
set_option linter.unusedSimpArgs false
set_option linter.unusedVariables false

def regE12true (nr ns : Int) (Ai : Option Addr) (ci : Nat) (li : List InputV) (Ak : Option Addr) (ck : Nat) (lk : List V) (Al : Option Addr) (cl : Nat) (ll : List InsV) (Bi : Option Addr) (di : Nat) (Bk_ : Option Addr) (dk : Nat) (Bl : Option Addr) (dl : Nat) (A1 A4 : Option Addr) (c1 c4 : Nat) (l1 : List V) (LL : List InsV) (Y : V) (W0 wv wd : World) : List Spec := [.is (.bool true),
  .is (.bool true),
  .is (.agg #[.int .i64 nr, .int .i64 ns, .slice Bi li.length di, .slice Bk_ lk.length dk, .slice A4 LL.length c4]),
  .is (.slice A1 l1.length c1),
  .is (.agg #[.int .i64 Y.k, .int .u64 Y.b]),
  .is (.agg #[.int .i64 Y.k, .int .u64 Y.b]),
  .is (.bool false),
  .is (.bool false),
  .is (.bool false),
  .is (.bool true),
  .is (.bool false),
  .is (.bool false),
  .is (undef),
  .is (undef),
  .is (undef),
  .is (.bool false),
  .is (.bool false)]
def regE14true (nr ns : Int) (Ai : Option Addr) (ci : Nat) (li : List InputV) (Ak : Option Addr) (ck : Nat) (lk : List V) (Al : Option Addr) (cl : Nat) (ll : List InsV) (Bi : Option Addr) (di : Nat) (Bk_ : Option Addr) (dk : Nat) (Bl : Option Addr) (dl : Nat) (A1 A4 : Option Addr) (c1 c4 : Nat) (l1 : List V) (LL : List InsV) (Y : V) (W0 wv wd : World) : List Spec := [.is (.agg #[.int .i64 Y.k, .int .u64 Y.b]),
  .is (.agg #[.int .i64 Y.k, .int .u64 Y.b]),
  .is (.agg #[.int .i64 Y.k, .int .u64 Y.b]),
  .is (.bool true),
  .is (.bool true),
  .is (.bool true),
  .is (.bool true),
  .is (undef),
  .is (undef),
  .is (undef),
  .is (.bool true),
  .is (.bool true),
  .is (.bool true)]
def regE12false (nr ns : Int) (Ai : Option Addr) (ci : Nat) (li : List InputV) (Ak : Option Addr) (ck : Nat) (lk : List V) (Al : Option Addr) (cl : Nat) (ll : List InsV) (Bi : Option Addr) (di : Nat) (Bk_ : Option Addr) (dk : Nat) (Bl : Option Addr) (dl : Nat) (A1 A4 : Option Addr) (c1 c4 : Nat) (l1 : List V) (LL : List InsV) (Y : V) (W0 wv wd : World) : List Spec := [.is (.bool false),
  .is (.bool false),
  .is (undef),
  .is (undef),
  .is (undef),
  .is (undef),
  .is (undef),
  .is (.bool false),
  .is (.bool false),
  .is (.bool false),
  .is (.bool true),
  .is (.bool true),
  .is (.agg #[.int .i64 Y.k, .int .u64 Y.b]),
  .is (.agg #[.int .i64 0, .int .u64 0]),
  .is (.bool false),
  .is (.bool false),
  .is (.bool false)]
def regE14false (nr ns : Int) (Ai : Option Addr) (ci : Nat) (li : List InputV) (Ak : Option Addr) (ck : Nat) (lk : List V) (Al : Option Addr) (cl : Nat) (ll : List InsV) (Bi : Option Addr) (di : Nat) (Bk_ : Option Addr) (dk : Nat) (Bl : Option Addr) (dl : Nat) (A1 A4 : Option Addr) (c1 c4 : Nat) (l1 : List V) (LL : List InsV) (Y : V) (W0 wv wd : World) : List Spec := [.is (.agg #[.int .i64 Y.k, .int .u64 Y.b]),
  .is (.agg #[.int .i64 Y.k, .int .u64 Y.b]),
  .is (.agg #[.int .i64 Y.k, .int .u64 Y.b]),
  .is (.bool true),
  .is (.bool true),
  .is (.bool false),
  .is (.bool false),
  .is (.agg #[.int .i64 nr, .int .i64 ns, .slice Ai li.length ci, .slice Ak lk.length ck, .slice Al ll.length cl]),
  .is (.bool false),
  .is (.bool true),
  .is (.bool true),
  .is (.bool true),
  .is (.bool true)]

theorem eql_RV (a b : Int) (w : World) : (binOp .eql 33 (.agg #[.int .i64 a, .int .u64 b]) (.agg #[.int .i64 a, .int .u64 b])).run Try.prog w = .ok (.bool true) w := by
  have h1 : Try.prog.stoodInHeld 33 = false := by kernel_rfl
  simp [go_sem, h1]
theorem runM_fits (ins ks : List V) (ll : List InsV) (hi : ∀ x ∈ ins, x.fits) (hk : ∀ x ∈ ks, x.fits) : ∀ p : List V × List V, (∀ x ∈ p.1, x.fits) → (∀ x ∈ p.2, x.fits) → (runM ins ks ll p).fits := by
  induction ll with
  | nil => intro p _ _; exact fits0
  | cons x l ih =>
    intro p h1 h2
    unfold runM
    split
    · exact take_fits _ h1
    · refine ih _ ?_ ?_
      · unfold stepM
        repeat' split
        · exact setL_fits h1 (take_fits _ hi)
        · exact setL_fits h1 (take_fits _ hk)
        · exact h1
        · exact setL_fits h1 (take_fits _ h2)
        · exact setL_fits h1 (apply_fits _ _ (by intro y hy; simp only [List.mem_cons, List.not_mem_nil, or_false] at hy; subst hy; exact take_fits _ h1))
        · exact setL_fits h1 (apply_fits _ _ (by intro y hy; simp only [List.mem_cons, List.not_mem_nil, or_false] at hy; rcases hy with rfl | rfl <;> exact take_fits _ h1))
        · exact h1
      · unfold stepM
        repeat' split
        · exact h2
        · exact h2
        · exact setL_fits h2 (take_fits _ h1)
        · exact h2
        · exact h2
        · exact h2
        · exact h2
theorem goodL_told (nr ns : Int) (n1 n2 : Nat) : ∀ (l : List InsV) (f g : Int → Bool), l ≠ [] → goodL nr ns n1 n2 l f g = true → toldB l = true
  | [], _, _, h, _ => absurd rfl h
  | x :: l, f, g, _, h => by
    rw [goodL] at h
    simp only [Bool.and_eq_true] at h
    obtain ⟨⟨_, h1⟩, h2⟩ := h
    rw [beq_iff_eq] at h1
    unfold toldB
    rw [List.any_cons]
    cases l with
    | nil =>
      have : (x.op == 52) = true := h1
      simp at this
      simp [this]
    | cons y r =>
      have := goodL_told nr ns n1 n2 (y :: r) _ _ (by simp) h2
      unfold toldB at this
      rw [this, Bool.or_true]
theorem good_told (c : CodeV) (h : toldB c.ll = false) : goodV c = false := by
  cases hg : goodV c
  · rfl
  · exfalso
    unfold goodV at hg
    simp only [Bool.and_eq_true] at hg
    obtain ⟨h1, _, _, h2⟩ := hg
    have hne : c.ll ≠ [] := by
      intro e
      rw [e] at h1
      simp [badC] at h1
    rw [goodL_told _ _ _ _ _ _ _ hne h2] at h
    cases h
theorem toldB_snoc (l : List InsV) (k : Nat) (h : k < l.length) : toldB (l.take (k + 1)) = (toldB (l.take k) || (l[k].op == 52)) := by
  unfold toldB
  rw [List.take_succ_eq_append_getElem h, List.any_append]
  congr 1
  simp only [List.any_cons, List.any_nil, Bool.or_false]
  rw [Bool.eq_iff_iff]
  simp
set_option maxRecDepth 100000 in
set_option maxHeartbeats 4000000 in
theorem walk (W0 : World) (x0 : CodeV) (hc0 : x0.li.length ≤ x0.ci ∧ x0.lk.length ≤ x0.ck ∧ x0.ll.length ≤ x0.cl) (hq0 : x0.ok W0 W0.heap.size)
    (A1 : Option Addr) (c1 : Nat) (l1 : List V) (hc1 : l1.length ≤ c1) (hl1 : l1.length ≤ 1048576) (hr1 : Rd W0 W0.heap.size A1 (l1.flatMap V.cells)) (hq1 : ∀ x ∈ l1, x.fits)
    (A2 : Option Addr) (c2 : Nat) (l2 : List InsV) (hc2 : l2.length ≤ c2) (hl2 : l2.length ≤ 1048576) (hr2 : Rd W0 W0.heap.size A2 (l2.flatMap InsV.cells)) (hq2 : ∀ x ∈ l2, x.fits) :
    Calls Try.prog 6 #[x0.val, .slice A1 l1.length c1, .slice A2 l2.length c2] W0 fun e W' => e = .returned (.bool true) ∧ Below W0.heap.size W0 W' := by
  have hv : x0.val = .agg #[.int .i64 x0.nr, .int .i64 x0.ns, .slice x0.Ai x0.li.length x0.ci, .slice x0.Ak x0.lk.length x0.ck, .slice x0.Al x0.ll.length x0.cl] := rfl
  obtain ⟨nr, ns, Ai, ci, li, Ak, ck, lk, Al, cl, ll⟩ := x0
  simp only at hv
  have kc := Bk.new W0 26 #[.int .i64 nr, .int .i64 ns, .slice Ai li.length ci, .slice Ak lk.length ck, .slice Al ll.length cl]
  have hb0 : Below W0.heap.size W0 (W0.alloc (.cells #[.int .i64 nr, .int .i64 ns, .slice Ai li.length ci, .slice Ak lk.length ck, .slice Al ll.length cl] 26)) := (Below.refl _ _).alloc (Nat.le_refl _) _
  rw [hv]
  clear hv
  have KC := Lib.hid kc
  have HB := Lib.hid hb0
  clear kc hb0
  by_cases hbig : 3000 < ll.length ∨ 3000 < l2.length
  · go_enter Try.func6, Try.ntmps6
    go_wp2_with fail
    refine (awake_any _).mono ?_
    rintro e w1 ⟨rfl, hb1⟩
    have k4 := (KC.out.old hb1).cell 4
    have HB1 := Lib.hid (HB.out.trans (hb1.mono HB.out.size))
    clear hb1
    by_cases hb3 : 3000 < ll.length
    · clear hbig
      go_wp2_with fail
      refine (awake_any _).mono ?_
      rintro e w2 ⟨rfl, hb2⟩
      go_wp2_with fail
      go_ret
      exact ⟨rfl, HB1.out.trans (hb2.mono HB1.out.size)⟩
    · have hb4 : 3000 < l2.length := by omega
      clear hbig
      go_wp2_with fail
      refine (awake_any _).mono ?_
      rintro e w2 ⟨rfl, hb2⟩
      go_wp2_with fail
      go_ret
      exact ⟨rfl, HB1.out.trans (hb2.mono HB1.out.size)⟩
  have hb3 : ¬ 3000 < ll.length := fun h => hbig (.inl h)
  have hb4 : ¬ 3000 < l2.length := fun h => hbig (.inr h)
  clear hbig
  obtain ⟨iS, hS, hS0, hS1, hS2⟩ := info_parts infoIs
  have HQ := Lib.hid hq0
  clear hq0
  go_enter Try.func6, Try.ntmps6
  go_wp2_with fail
  refine (awake_any _).mono ?_
  rintro e w1 ⟨rfl, hb1⟩
  have HB1 := Lib.hid (HB.out.trans (hb1.mono HB.out.size))
  have KC1 := Lib.hid (KC.out.old hb1)
  have k0 := KC1.out.cell 0
  have k1 := KC1.out.cell 1
  have k2 := KC1.out.cell 2
  have k3 := KC1.out.cell 3
  have k4 := KC1.out.cell 4
  have hq := HQ.out.old HB1.out
  obtain ⟨Y, hY⟩ : ∃ Y, runV ⟨nr, ns, Ai, ci, li, Ak, ck, lk, Al, cl, ll⟩ l1 = Y := ⟨_, rfl⟩
  have hrun := run_any ⟨nr, ns, Ai, ci, li, Ak, ck, lk, Al, cl, ll⟩ A1 c1 l1 _ hq ((hr1.below HB1.out).more HB1.out.size) hq1 hl1
  rw [hY] at hrun
  have HRUN := Lib.hid hrun
  clear hb1 HB KC hrun hq
  go_wp2_with fail
  refine HRUN.out.mono ?_
  rintro e wv ⟨rfl, hb2⟩
  unfold V.v
  have bv : Below wv.heap.size wv (wv.alloc (.cells #[.int .i64 Y.k, .int .u64 Y.b] 31)) := (Below.refl _ _).alloc (Nat.le_refl _) _
  have hbv := hb2.trans (bv.mono hb2.size)
  have KY := Lib.hid (Bk.new wv 31 #[.int .i64 Y.k, .int .u64 Y.b])
  have HB2 := Lib.hid (HB1.out.trans (hbv.mono HB1.out.size))
  have KC2 := Lib.hid (KC1.out.old hbv)
  clear k0 k1 k2 k3 k4 hb2 bv hbv KC1 HRUN
  have k4 := KC2.out.cell 4
  go_wp2_with fail
  go_loopw [8, 32] (fun t i wr => ∃ k : Nat, k ≤ ll.length ∧ i = .int .i64 k ∧ t = .bool (toldB (ll.take k)) ∧ Below (wv.alloc (.cells #[.int .i64 Y.k, .int .u64 Y.b] 31)).heap.size (wv.alloc (.cells #[.int .i64 Y.k, .int .u64 Y.b] 31)) wr) (fun _ i _ => ll.length - (intOf i).toNat)
  case atStart => exact ⟨0, Nat.zero_le _, rfl, rfl, Below.refl _ _⟩
  case round =>
    obtain ⟨k, hk, rfl, rfl, hbe⟩ := hrel
    rename World => wl
    by_cases hlt : k < ll.length
    · as_aux_lemma =>
      obtain ⟨bb, oo, rfl, hb, hc⟩ := (HQ.out.rl.below (HB2.out.trans (hbe.mono HB2.out.size))).elem (f := InsV.cells) (n := 4) (fun _ => rfl) (by omega) hlt
      have hs := toldB_snoc ll k hlt
      generalize ll[k] = x at *
      obtain ⟨op, dst, a, b⟩ := x
      have hc0 : wl.cell? ⟨bb, oo + k * 4, none⟩ = some (.int .i64 op) := hc 0 _ rfl
      have hc1 : wl.cell? ⟨bb, oo + k * 4 + 1, none⟩ = some (.int .i64 dst) := hc 1 _ rfl
      have hc2 : wl.cell? ⟨bb, oo + k * 4 + 2, none⟩ = some (.int .i64 a) := hc 2 _ rfl
      have hc3 : wl.cell? ⟨bb, oo + k * 4 + 3, none⟩ = some (.int .i64 b) := hc 3 _ rfl
      have HX := Lib.hid (hbe.alloc (Nat.le_trans (Nat.le_refl _) hbe.size) (.cells #[.int .i64 op, .int .i64 dst, .int .i64 a, .int .i64 b] 43))
      generalize toldB (ll.take k) = T at *
      have HS := Lib.hid hs
      clear hc hbe hs k4
      cases T
      · go_wp2_with fail
        go_roundw
        case rel => exact ⟨k + 1, by omega, by go_num, by rw [HS.out]; rfl, HX.out⟩
        case measure => simp [intOf]; omega
      · go_wp2_with fail
        go_roundw
        case rel => exact ⟨k + 1, by omega, by go_num, by rw [HS.out]; rfl, HX.out⟩
        case measure => simp [intOf]; omega
    · obtain rfl : k = ll.length := by omega
      rw [List.take_length]
      have HB3 := Lib.hid (HB2.out.trans (hbe.mono HB2.out.size))
      have KC3 := Lib.hid (KC2.out.old hbe)
      have KY3 := Lib.hid (KY.out.old hbe)
      have hq := HQ.out.old HB3.out
      have htw := twin_any ⟨nr, ns, Ai, ci, li, Ak, ck, lk, Al, cl, ll⟩ wl hq
      have HTW := Lib.hid htw
      clear hbe hq htw k4 KC2 KY HB2
      have k0 := KC3.out.cell 0
      have k1 := KC3.out.cell 1
      have k2 := KC3.out.cell 2
      have k3 := KC3.out.cell 3
      have k4 := KC3.out.cell 4
      go_wp2_with fail
      refine HTW.out.mono ?_
      rintro e wd ⟨⟨nr2, ns2, Bi, di, li2, Bk_, dk, lk2, Bl, dl, ll2⟩, rfl, ⟨e1, e2, e3, e4, e5, o1, o2, o3⟩, hbt⟩
      simp only at e1 e2 e3 e4 e5
      subst nr2; subst ns2; subst li2; subst lk2; subst ll2
      unfold CodeV.val
      have hbd : Below wd.heap.size wd (wd.alloc (.cells #[.int .i64 nr, .int .i64 ns, .slice Bi li.length di, .slice Bk_ lk.length dk, .slice Bl ll.length dl] 26)) := (Below.refl _ _).alloc (Nat.le_refl _) _
      have hbt2 := hbt.trans (hbd.mono hbt.size)
      have kt := Bk.new wd 26 #[.int .i64 nr, .int .i64 ns, .slice Bi li.length di, .slice Bk_ lk.length dk, .slice Bl ll.length dl]
      have HB4 := Lib.hid (HB3.out.trans (hbt2.mono HB3.out.size))
      have KC4 := Lib.hid (KC3.out.old hbt2)
      have KY4 := Lib.hid (KY3.out.old hbt2)
      have HO1 := Lib.hid (own_old o1 hbd)
      have HO2 := Lib.hid (own_old o2 hbd)
      have HO3 := Lib.hid (own_old o3 hbd)
      have KT := Lib.hid kt
      have t4 := kt.cell 4
      obtain ⟨LL, hLL⟩ : ∃ LL, ll ++ l2 = LL := ⟨_, rfl⟩
      have hlen : ll.length + l2.length = LL.length := by rw [← hLL, List.length_append]
      have hcells : ll.flatMap InsV.cells ++ l2.flatMap InsV.cells = LL.flatMap InsV.cells := by rw [← hLL, List.flatMap_append]
      have hwz : W0.heap.size ≤ wl.heap.size := HB3.out.size
      have hcl : W0.heap.size < wl.heap.size := KC3.out.lt
      have hyl : wv.heap.size < wl.heap.size := KY3.out.lt
      have hszd : wl.heap.size ≤ wd.heap.size := hbt.size
      have hsz1 : wl.heap.size ≤ (wd.alloc (.cells #[.int .i64 nr, .int .i64 ns, .slice Bi li.length di, .slice Bk_ lk.length dk, .slice Bl ll.length dl] 26)).heap.size := by simp; omega
      clear o1 o2 o3 hbt hbd hbt2 kt k0 k1 k2 k3 k4 HTW KC3 KY3 HB3
      go_wp2_with (at_builtin; refine wpList_append_rd rfl _ _ 24 rfl wl.heap.size 43 iS _ 4 32 Try.underlying24 hS hS0 hS1 hS2 rfl (by decide) _ ll.length _ rfl HO3.out W0.heap.size A2 l2.length c2 (l2.flatMap InsV.cells) rfl (hr2.below HB4.out) (flat_len (n := 4) InsV.cells (fun _ => rfl) l2) one_is (by unfold maxLen; omega) (by omega) hsz1 ?_; intro A4 c4 w4 ho4 hg4 hat; refine Hid.out ?_)
      refine Lib.hid ?_
      rw [hlen, hcells] at ho4
      try simp only [hlen]
      have hB4 : Below wl.heap.size (wd.alloc (.cells #[.int .i64 nr, .int .i64 ns, .slice Bi li.length di, .slice Bk_ lk.length dk, .slice Bl ll.length dl] 26)) w4 := ⟨hg4.os, hg4.tape, hg4.output, hg4.size, fun k hk => hg4.block k (Nat.lt_of_lt_of_le hk hsz1) (fun e => by have := (HO3.out.lt k e.symm).1; omega)⟩
      have ho14 := own_keep HO1.out HO3.out (by decide) hg4
      have ho24 := own_keep HO2.out HO3.out (by decide) hg4
      have kt4 : Bk w4 wd.heap.size 26 #[.int .i64 nr, .int .i64 ns, .slice Bi li.length di, .slice Bk_ lk.length dk, .slice Bl ll.length dl] := KT.out.grown hg4 (own_ne_bk HO3.out KT.out (by decide))
      have kt5 : Bk (w4.setCell ⟨wd.heap.size, 4, none⟩ (.slice A4 LL.length c4)) wd.heap.size 26 #[.int .i64 nr, .int .i64 ns, .slice Bi li.length di, .slice Bk_ lk.length dk, .slice A4 LL.length c4] := by have := kt4.put 4 (.slice A4 LL.length c4); simpa using this
      have kc5 := (KC4.out.below hB4 hcl).far (p := ⟨wd.heap.size, 4, none⟩) (by show W0.heap.size ≠ wd.heap.size; omega) (.slice A4 LL.length c4)
      have ky5 := (KY4.out.below hB4 hyl).far (p := ⟨wd.heap.size, 4, none⟩) (by show wv.heap.size ≠ wd.heap.size; omega) (.slice A4 LL.length c4)
      have ho5 := own_set ho4 kt4 (by decide) 4 (.slice A4 LL.length c4)
      have ho15 := own_set ho14 kt4 (by decide) 4 (.slice A4 LL.length c4)
      have ho25 := own_set ho24 kt4 (by decide) 4 (.slice A4 LL.length c4)
      have hB5 := (HB4.out.trans (hB4.mono hwz)).setCell (p := ⟨wd.heap.size, 4, none⟩) (by show W0.heap.size ≤ wd.heap.size; omega) (.slice A4 LL.length c4)
      have hfl : ∀ x ∈ LL, x.fits := by
        intro x hx
        rw [← hLL] at hx
        rcases List.mem_append.1 hx with h | h
        · exact HQ.out.fl x h
        · exact hq2 x h
      have hok5 : (⟨nr, ns, Bi, di, li, Bk_, dk, lk, A4, c4, LL⟩ : CodeV).ok (w4.setCell ⟨wd.heap.size, 4, none⟩ (.slice A4 LL.length c4)) (w4.setCell ⟨wd.heap.size, 4, none⟩ (.slice A4 LL.length c4)).heap.size :=
        ⟨own_rd ho15, own_rd ho25, own_rd ho5, HQ.out.ni, HQ.out.nk, by show LL.length ≤ 1048576; omega, HQ.out.fi, HQ.out.fk, hfl, HQ.out.fr, HQ.out.fs⟩
      have x4 := kt4.cell 4
      have f4 := kt4.frozen 4
      have HOK := Lib.hid hok5
      have KC := Lib.hid kc5
      have KY := Lib.hid ky5
      have KT := Lib.hid kt5
      have HB := Lib.hid hB5
      have hYf : Y.fits := by rw [← hY]; exact runM_fits _ _ _ hq1 HQ.out.fk _ (fun x hx => by rw [List.eq_of_mem_replicate hx]; exact fits0) (fun x hx => by rw [List.eq_of_mem_replicate hx]; exact fits0)
      have hYc : clean Y = Y := by rw [← hY]; exact runM_clean _ _ _ _
      have hcl2 : ∀ w : World, Calls Try.prog 17 #[.agg #[.int .i64 Y.k, .int .u64 Y.b]] w fun e w2 => e = .returned (.agg #[.int .i64 Y.k, .int .u64 Y.b]) ∧ Below w.heap.size w w2 := fun w => by
        have := rclean_any Y hYf w
        rw [hYc] at this
        exact this
      have HCL := Lib.hid hcl2
      have heq := eql_RV Y.k Y.b
      clear ho4 hg4 hat hB4 ho14 ho24 kt4 kt5 kc5 ky5 ho5 ho15 ho25 hB5 hok5 hcl2 hfl KC4 KY4 HB4 HO1 HO2 HO3 t4
      obtain ⟨T, hT⟩ : ∃ T, toldB ll = T := ⟨_, rfl⟩
      rw [hT]
      have k0 := KC.out.cell 0
      have k1 := KC.out.cell 1
      have k2 := KC.out.cell 2
      have k3 := KC.out.cell 3
      have k4 := KC.out.cell 4
      have t0 := KT.out.cell 0
      have t1 := KT.out.cell 1
      have t2 := KT.out.cell 2
      have t3 := KT.out.cell 3
      have t4 := KT.out.cell 4
      have y0 := KY.out.cell 0
      have y1 := KY.out.cell 1
      cases T
      · as_aux_lemma =>
        have hY0 : Y = none0 := by rw [← hY]; exact runM_untold _ _ _ hT _
        have hneq : ∀ w : World, (binOp .neq 31 (.agg #[.int .i64 Y.k, .int .u64 Y.b]) (.agg #[.int .i64 0, .int .u64 0])).run Try.prog w = .ok (.bool false) w := fun w => by rw [hY0]; exact neq_va 0 0 w
        have hgd : ∀ w' : World, Below (w4.setCell ⟨wd.heap.size, 4, none⟩ (.slice A4 LL.length c4)).heap.size (w4.setCell ⟨wd.heap.size, 4, none⟩ (.slice A4 LL.length c4)) w' → Calls Try.prog 12 #[.agg #[.int .i64 nr, .int .i64 ns, .slice Ai li.length ci, .slice Ak lk.length ck, .slice Al ll.length cl]] w' fun e w2 => e = .returned (.bool false) ∧ Below w'.heap.size w' w2 := by
          intro w' hw
          have := good_any ⟨nr, ns, Ai, ci, li, Ak, ck, lk, Al, cl, ll⟩ w' ((HQ.out.old HB.out).old hw) (by show ll.length ≤ 3000; omega)
          rw [good_told ⟨nr, ns, Ai, ci, li, Ak, ck, lk, Al, cl, ll⟩ hT] at this
          exact this
        have HGD := Lib.hid hgd
        clear hgd hY0 hT hlen hLL hcells hY
        go_wp2_with fail
        refine wp_region_b (by kernel_rfl) (fun qk => (regE12false nr ns Ai ci li Ak ck lk Al cl ll Bi di Bk_ dk Bl dl A1 A4 c1 c4 l1 LL Y W0 wv wd).getD qk .any) (by kernel_rfl) ?_ ?_
        · refine BOk.cons rfl [] [8] rfl rfl (by kernel_rfl) (by kernel_rfl) (fun qK qa wr hB qO qF hK => ?_) ?_
          · have e8 : qa.tmps[8]? = some (.bool false) := qO.1.trans rfl
            clear qO qF
            go_simp
            exact hK _ _ (Below.refl _ _) (by first | rfl | (show (_ : Value) = _; simp_all; done))
          refine BOk.cons rfl [0] [] rfl rfl (by kernel_rfl) (by kernel_rfl) (fun qK qa wr hB qO qF hK => ?_) ?_
          · have e50 : qa.tmps[50]? = some (.bool false) := fis qF.1 rfl rfl
            clear qO qF
            go_simp
            exact hK _ _ (Below.refl _ _) (by first | rfl | (show (_ : Value) = _; simp_all; done))
          refine BOk.no rfl rfl 1 true rfl rfl rfl (by kernel_rfl) (fun _ => rfl) ?_
          refine BOk.no rfl rfl 1 true rfl rfl rfl (by kernel_rfl) (fun _ => rfl) ?_
          refine BOk.no rfl rfl 1 true rfl rfl rfl (by kernel_rfl) (fun _ => rfl) ?_
          refine BOk.no rfl rfl 1 true rfl rfl rfl (by kernel_rfl) (fun _ => rfl) ?_
          refine BOk.no rfl rfl 1 true rfl rfl rfl (by kernel_rfl) (fun _ => rfl) ?_
          refine BOk.cons rfl [1] [] rfl rfl (by kernel_rfl) (by kernel_rfl) (fun qK qa wr hB qO qF hK => ?_) ?_
          · have e51 : qa.tmps[51]? = some (.bool false) := fis qF.1 rfl rfl
            clear qO qF
            go_simp
            refine hK _ _ (Below.refl _ _) ?_
            show (_ : Value) = _
            first | rfl | (simp; done) | (simp; omega)
          refine BOk.cons rfl [7] [] rfl rfl (by kernel_rfl) (by kernel_rfl) (fun qK qa wr hB qO qF hK => ?_) ?_
          · have e57 : qa.tmps[57]? = some (.bool false) := fis qF.1 rfl rfl
            clear qO qF
            go_simp
            exact hK _ _ (Below.refl _ _) (by first | rfl | (show (_ : Value) = _; simp_all; done))
          refine BOk.yes rfl [] [8] rfl 8 false rfl rfl rfl (by kernel_rfl) (by kernel_rfl) (by kernel_rfl) (fun qK qa wr hB qO qF hK => ?_) ?_
          · have e8 : qa.tmps[8]? = some (.bool false) := qO.1.trans rfl
            clear qO qF
            go_simp
            exact hK _ _ (Below.refl _ _) (by first | rfl | (show (_ : Value) = _; simp_all; done))
          refine BOk.yes rfl [9] [] rfl 8 false rfl rfl rfl (by kernel_rfl) (by kernel_rfl) (by kernel_rfl) (fun qK qa wr hB qO qF hK => ?_) ?_
          · have e59 : qa.tmps[59]? = some (.bool false) := fis qF.1 rfl rfl
            clear qO qF
            go_simp
            exact hK _ _ (Below.refl _ _) rfl
          refine BOk.yes rfl [10] [] rfl 8 false rfl rfl rfl (by kernel_rfl) (by kernel_rfl) (by kernel_rfl) (fun qK qa wr hB qO qF hK => ?_) ?_
          · have e60 : qa.tmps[60]? = some (.bool true) := fis qF.1 rfl rfl
            clear qO qF
            go_simp
            exact hK _ _ (Below.refl _ _) (by first | rfl | (show (_ : Value) = _; simp_all; done))
          refine BOk.yes rfl [] [7] rfl 11 true rfl rfl rfl (by kernel_rfl) (by kernel_rfl) (by kernel_rfl) (fun qK qa wr hB qO qF hK => ?_) ?_
          · have e7 : qa.tmps[7]? = some (.pointer (some ⟨wv.heap.size, 0, none⟩)) := qO.1.trans rfl
            clear qO qF
            have hy0 := (bcell hB _ _ (World.block_lt_of_cell? _ _ y0)).trans y0
            have hy1 := (bcell hB _ _ (World.block_lt_of_cell? _ _ y1)).trans y1
            go_simp
            exact hK _ _ (Below.refl _ _) rfl
          refine BOk.yes rfl [] [] rfl 11 true rfl rfl rfl (by kernel_rfl) (by kernel_rfl) (by kernel_rfl) (fun qK qa wr hB qO qF hK => ?_) ?_
          · clear qO qF
            go_simp
            exact hK _ _ (Below.refl _ _) rfl
          refine BOk.yes rfl [12, 13] [] rfl 11 true rfl rfl rfl (by kernel_rfl) (by kernel_rfl) (by kernel_rfl) (fun qK qa wr hB qO qF hK => ?_) ?_
          · have e62 : qa.tmps[62]? = some (.agg #[.int .i64 Y.k, .int .u64 Y.b]) := fis qF.1 rfl rfl
            have e63 : qa.tmps[63]? = some (.agg #[.int .i64 0, .int .u64 0]) := fis qF.2.1 rfl rfl
            clear qO qF
            go_simp
            refine hK _ _ (Below.refl _ _) ?_
            show (_ : Value) = _
            first | rfl | (simp; done) | (simp; omega)
          refine BOk.yes rfl [11, 14] [] rfl 8 false rfl rfl rfl (by kernel_rfl) (by kernel_rfl) (by kernel_rfl) (fun qK qa wr hB qO qF hK => ?_) ?_
          · have e61 : qa.tmps[61]? = some (.bool true) := fis qF.1 rfl rfl
            have e64 : qa.tmps[64]? = some (.bool false) := fis qF.2.1 rfl rfl
            clear qO qF
            go_simp
            refine hK _ _ (Below.refl _ _) ?_
            show (_ : Value) = _
            first | rfl | (simp; done) | (simp; omega)
          refine BOk.cons rfl [8, 15] [] rfl rfl (by kernel_rfl) (by kernel_rfl) (fun qK qa wr hB qO qF hK => ?_) ?_
          · have e58 : qa.tmps[58]? = some (.bool false) := fis qF.1 rfl rfl
            have e65 : qa.tmps[65]? = some (.bool false) := fis qF.2.1 rfl rfl
            clear qO qF
            go_simp
            refine hK _ _ (Below.refl _ _) ?_
            show (_ : Value) = _
            first | rfl | (simp; done) | (simp; omega)
          exact BOk.nil
        intro vals wr hl hB hR
        match vals, hl with
        | [z50, z51, z52, z53, z54, z55, z56, z57, z58, z59, z60, z61, z62, z63, z64, z65, z66], _ =>
        have r16 : z66 = .bool false := hR 16 _ rfl
        subst r16
        clear hR
        simp only [List.cons_append, List.nil_append, putAll, Act.put, List.setIfInBounds_toArray, List.set_cons_zero, List.set_cons_succ]
        replace KC := Lib.hid (KC.out.old hB)
        replace KY := Lib.hid (KY.out.old hB)
        replace HB := Lib.hid (HB.out.trans (hB.mono HB.out.size))
        have hgd : ∀ w' : World, Below wr.heap.size wr w' → Calls Try.prog 12 #[.agg #[.int .i64 nr, .int .i64 ns, .slice Ai li.length ci, .slice Ak lk.length ck, .slice Al ll.length cl]] w' fun e w2 => e = .returned (.bool false) ∧ Below w'.heap.size w' w2 := fun w' hw => HGD.out w' (hB.trans (hw.mono hB.size))
        replace HGD := Lib.hid hgd
        clear hgd hB k0 k1 k2 k3 k4 t0 t1 t2 t3 t4 y0 y1
        have k0 := KC.out.cell 0
        have k1 := KC.out.cell 1
        have k2 := KC.out.cell 2
        have k3 := KC.out.cell 3
        have k4 := KC.out.cell 4
        have y0 := KY.out.cell 0
        have y1 := KY.out.cell 1
        go_wp2_with fail
        refine wp_region_b (by kernel_rfl) (fun qk => (regE14false nr ns Ai ci li Ak ck lk Al cl ll Bi di Bk_ dk Bl dl A1 A4 c1 c4 l1 LL Y W0 wv wd).getD qk .any) (by kernel_rfl) ?_ ?_
        · refine BOk.cons rfl [] [7] rfl rfl (by kernel_rfl) (by kernel_rfl) (fun qK qa wr hB qO qF hK => ?_) ?_
          · have e7 : qa.tmps[7]? = some (.pointer (some ⟨wv.heap.size, 0, none⟩)) := qO.1.trans rfl
            clear qO qF
            have hy0 := (bcell hB _ _ (World.block_lt_of_cell? _ _ y0)).trans y0
            have hy1 := (bcell hB _ _ (World.block_lt_of_cell? _ _ y1)).trans y1
            go_simp
            exact hK _ _ (Below.refl _ _) rfl
          refine BOk.cons rfl [0] [] rfl rfl (by kernel_rfl) (by kernel_rfl) (fun qK qa wr hB qO qF hK => ?_) ?_
          · have e67 : qa.tmps[67]? = some (.agg #[.int .i64 Y.k, .int .u64 Y.b]) := fis qF.1 rfl rfl
            clear qO qF
            go_simp
            go_at_call 17
            refine (HCL.out _).mono ?_
            rintro e w2 ⟨rfl, hb2⟩
            exact hK _ _ hb2 rfl
          refine BOk.cons rfl [] [7] rfl rfl (by kernel_rfl) (by kernel_rfl) (fun qK qa wr hB qO qF hK => ?_) ?_
          · have e7 : qa.tmps[7]? = some (.pointer (some ⟨wv.heap.size, 0, none⟩)) := qO.1.trans rfl
            clear qO qF
            have hy0 := (bcell hB _ _ (World.block_lt_of_cell? _ _ y0)).trans y0
            have hy1 := (bcell hB _ _ (World.block_lt_of_cell? _ _ y1)).trans y1
            go_simp
            exact hK _ _ (Below.refl _ _) rfl
          refine BOk.cons rfl [1, 2] [] rfl rfl (by kernel_rfl) (by kernel_rfl) (fun qK qa wr hB qO qF hK => ?_) ?_
          · have e68 : qa.tmps[68]? = some (.agg #[.int .i64 Y.k, .int .u64 Y.b]) := fis qF.1 rfl rfl
            have e69 : qa.tmps[69]? = some (.agg #[.int .i64 Y.k, .int .u64 Y.b]) := fis qF.2.1 rfl rfl
            clear qO qF
            go_simp
            refine hK _ _ (Below.refl _ _) ?_
            show (_ : Value) = _
            first | rfl | (simp; done) | (simp; omega)
          refine BOk.cons rfl [3] [] rfl rfl (by kernel_rfl) (by kernel_rfl) (fun qK qa wr hB qO qF hK => ?_) ?_
          · have e70 : qa.tmps[70]? = some (.bool true) := fis qF.1 rfl rfl
            clear qO qF
            go_simp
            exact hK _ _ (Below.refl _ _) (by first | rfl | (show (_ : Value) = _; simp_all; done))
          refine BOk.yes rfl [] [8] rfl 4 true rfl rfl rfl (by kernel_rfl) (by kernel_rfl) (by kernel_rfl) (fun qK qa wr hB qO qF hK => ?_) ?_
          · have e8 : qa.tmps[8]? = some (.bool false) := qO.1.trans rfl
            clear qO qF
            go_simp
            exact hK _ _ (Below.refl _ _) (by first | rfl | (show (_ : Value) = _; simp_all; done))
          refine BOk.yes rfl [5] [] rfl 4 true rfl rfl rfl (by kernel_rfl) (by kernel_rfl) (by kernel_rfl) (fun qK qa wr hB qO qF hK => ?_) ?_
          · have e72 : qa.tmps[72]? = some (.bool false) := fis qF.1 rfl rfl
            clear qO qF
            go_simp
            exact hK _ _ (Below.refl _ _) (by first | rfl | (show (_ : Value) = _; simp_all; done))
          refine BOk.yes rfl [] [3] rfl 6 false rfl rfl rfl (by kernel_rfl) (by kernel_rfl) (by kernel_rfl) (fun qK qa wr hB qO qF hK => ?_) ?_
          · have e3 : qa.tmps[3]? = some (.pointer (some ⟨W0.heap.size, 0, none⟩)) := qO.1.trans rfl
            clear qO qF
            have hk0 := (bcell hB _ _ (World.block_lt_of_cell? _ _ k0)).trans k0
            have hk1 := (bcell hB _ _ (World.block_lt_of_cell? _ _ k1)).trans k1
            have hk2 := (bcell hB _ _ (World.block_lt_of_cell? _ _ k2)).trans k2
            have hk3 := (bcell hB _ _ (World.block_lt_of_cell? _ _ k3)).trans k3
            have hk4 := (bcell hB _ _ (World.block_lt_of_cell? _ _ k4)).trans k4
            go_simp
            exact hK _ _ (Below.refl _ _) rfl
          refine BOk.yes rfl [7] [] rfl 6 false rfl rfl rfl (by kernel_rfl) (by kernel_rfl) (by kernel_rfl) (fun qK qa wr hB qO qF hK => ?_) ?_
          · have e74 : qa.tmps[74]? = some (.agg #[.int .i64 nr, .int .i64 ns, .slice Ai li.length ci, .slice Ak lk.length ck, .slice Al ll.length cl]) := fis qF.1 rfl rfl
            clear qO qF
            go_simp
            go_at_call 12
            refine (HGD.out _ hB).mono ?_
            rintro e w2 ⟨rfl, hb2⟩
            exact hK _ _ hb2 rfl
          refine BOk.yes rfl [8] [] rfl 6 false rfl rfl rfl (by kernel_rfl) (by kernel_rfl) (by kernel_rfl) (fun qK qa wr hB qO qF hK => ?_) ?_
          · have e75 : qa.tmps[75]? = some (.bool false) := fis qF.1 rfl rfl
            clear qO qF
            go_simp
            exact hK _ _ (Below.refl _ _) rfl
          refine BOk.yes rfl [6, 9] [] rfl 4 true rfl rfl rfl (by kernel_rfl) (by kernel_rfl) (by kernel_rfl) (fun qK qa wr hB qO qF hK => ?_) ?_
          · have e73 : qa.tmps[73]? = some (.bool false) := fis qF.1 rfl rfl
            have e76 : qa.tmps[76]? = some (.bool true) := fis qF.2.1 rfl rfl
            clear qO qF
            go_simp
            refine hK _ _ (Below.refl _ _) ?_
            show (_ : Value) = _
            first | rfl | (simp; done) | (simp; omega)
          refine BOk.cons rfl [4, 10] [] rfl rfl (by kernel_rfl) (by kernel_rfl) (fun qK qa wr hB qO qF hK => ?_) ?_
          · have e71 : qa.tmps[71]? = some (.bool true) := fis qF.1 rfl rfl
            have e77 : qa.tmps[77]? = some (.bool true) := fis qF.2.1 rfl rfl
            clear qO qF
            go_simp
            refine hK _ _ (Below.refl _ _) ?_
            show (_ : Value) = _
            first | rfl | (simp; done) | (simp; omega)
          refine BOk.cons rfl [11] [] rfl rfl (by kernel_rfl) (by kernel_rfl) (fun qK qa wr hB qO qF hK => ?_) ?_
          · have e78 : qa.tmps[78]? = some (.bool true) := fis qF.1 rfl rfl
            clear qO qF
            go_simp
            exact hK _ _ (Below.refl _ _) (by first | rfl | (show (_ : Value) = _; simp_all; done))
          exact BOk.nil
        intro vals wr hl hB hR
        match vals, hl with
        | [y67, y68, y69, y70, y71, y72, y73, y74, y75, y76, y77, y78, y6], _ =>
        have r12 : y6 = .bool true := hR 12 _ rfl
        subst r12
        clear hR
        simp only [List.cons_append, List.nil_append, putAll, Act.put, List.setIfInBounds_toArray, List.set_cons_zero, List.set_cons_succ]
        go_wp2_with fail
        go_ret
        exact ⟨rfl, HB.out.trans (hB.mono HB.out.size)⟩
      · as_aux_lemma =>
        have hneq := neq_va Y.k Y.b
        have hrd : ∀ w' : World, Below (w4.setCell ⟨wd.heap.size, 4, none⟩ (.slice A4 LL.length c4)).heap.size (w4.setCell ⟨wd.heap.size, 4, none⟩ (.slice A4 LL.length c4)) w' → Calls Try.prog 9 #[.agg #[.int .i64 nr, .int .i64 ns, .slice Bi li.length di, .slice Bk_ lk.length dk, .slice A4 LL.length c4], .slice A1 l1.length c1] w' fun e w2 => e = .returned (.agg #[.int .i64 Y.k, .int .u64 Y.b]) ∧ Below w'.heap.size w' w2 := by
          intro w' hw
          have hw2 := HB.out.trans (hw.mono HB.out.size)
          have := run_any ⟨nr, ns, Bi, di, li, Bk_, dk, lk, A4, c4, LL⟩ A1 c1 l1 w' (HOK.out.old hw) ((hr1.below hw2).more hw2.size) hq1 hl1
          rw [show runV ⟨nr, ns, Bi, di, li, Bk_, dk, lk, A4, c4, LL⟩ l1 = Y by rw [← hY]; show runM l1 lk LL _ = runM l1 lk ll _; rw [← hLL]; exact runM_told _ _ _ _ hT _] at this
          exact this
        have HRD := Lib.hid hrd
        clear hrd hT hlen hLL hcells hY
        go_wp2_with fail
        refine wp_region_b (by kernel_rfl) (fun qk => (regE12true nr ns Ai ci li Ak ck lk Al cl ll Bi di Bk_ dk Bl dl A1 A4 c1 c4 l1 LL Y W0 wv wd).getD qk .any) (by kernel_rfl) ?_ ?_
        · refine BOk.cons rfl [] [8] rfl rfl (by kernel_rfl) (by kernel_rfl) (fun qK qa wr hB qO qF hK => ?_) ?_
          · have e8 : qa.tmps[8]? = some (.bool true) := qO.1.trans rfl
            clear qO qF
            go_simp
            exact hK _ _ (Below.refl _ _) (by first | rfl | (show (_ : Value) = _; simp_all; done))
          refine BOk.cons rfl [0] [] rfl rfl (by kernel_rfl) (by kernel_rfl) (fun qK qa wr hB qO qF hK => ?_) ?_
          · have e50 : qa.tmps[50]? = some (.bool true) := fis qF.1 rfl rfl
            clear qO qF
            go_simp
            exact hK _ _ (Below.refl _ _) (by first | rfl | (show (_ : Value) = _; simp_all; done))
          refine BOk.yes rfl [] [11] rfl 1 true rfl rfl rfl (by kernel_rfl) (by kernel_rfl) (by kernel_rfl) (fun qK qa wr hB qO qF hK => ?_) ?_
          · have e11 : qa.tmps[11]? = some (.pointer (some ⟨wd.heap.size, 0, none⟩)) := qO.1.trans rfl
            clear qO qF
            have ht0 := (bcell hB _ _ (World.block_lt_of_cell? _ _ t0)).trans t0
            have ht1 := (bcell hB _ _ (World.block_lt_of_cell? _ _ t1)).trans t1
            have ht2 := (bcell hB _ _ (World.block_lt_of_cell? _ _ t2)).trans t2
            have ht3 := (bcell hB _ _ (World.block_lt_of_cell? _ _ t3)).trans t3
            have ht4 := (bcell hB _ _ (World.block_lt_of_cell? _ _ t4)).trans t4
            go_simp
            exact hK _ _ (Below.refl _ _) rfl
          refine BOk.yes rfl [] [1] rfl 1 true rfl rfl rfl (by kernel_rfl) (by kernel_rfl) (by kernel_rfl) (fun qK qa wr hB qO qF hK => ?_) ?_
          · have e1 : qa.tmps[1]? = some (.slice A1 l1.length c1) := qO.1.trans rfl
            clear qO qF
            go_simp
            exact hK _ _ (Below.refl _ _) rfl
          refine BOk.yes rfl [2, 3] [] rfl 1 true rfl rfl rfl (by kernel_rfl) (by kernel_rfl) (by kernel_rfl) (fun qK qa wr hB qO qF hK => ?_) ?_
          · have e52 : qa.tmps[52]? = some (.agg #[.int .i64 nr, .int .i64 ns, .slice Bi li.length di, .slice Bk_ lk.length dk, .slice A4 LL.length c4]) := fis qF.1 rfl rfl
            have e53 : qa.tmps[53]? = some (.slice A1 l1.length c1) := fis qF.2.1 rfl rfl
            clear qO qF
            go_simp
            go_at_call 9
            refine (HRD.out _ hB).mono ?_
            rintro e w2 ⟨rfl, hb2⟩
            exact hK _ _ hb2 rfl
          refine BOk.yes rfl [] [7] rfl 1 true rfl rfl rfl (by kernel_rfl) (by kernel_rfl) (by kernel_rfl) (fun qK qa wr hB qO qF hK => ?_) ?_
          · have e7 : qa.tmps[7]? = some (.pointer (some ⟨wv.heap.size, 0, none⟩)) := qO.1.trans rfl
            clear qO qF
            have hy0 := (bcell hB _ _ (World.block_lt_of_cell? _ _ y0)).trans y0
            have hy1 := (bcell hB _ _ (World.block_lt_of_cell? _ _ y1)).trans y1
            go_simp
            exact hK _ _ (Below.refl _ _) rfl
          refine BOk.yes rfl [4, 5] [] rfl 1 true rfl rfl rfl (by kernel_rfl) (by kernel_rfl) (by kernel_rfl) (fun qK qa wr hB qO qF hK => ?_) ?_
          · have e54 : qa.tmps[54]? = some (.agg #[.int .i64 Y.k, .int .u64 Y.b]) := fis qF.1 rfl rfl
            have e55 : qa.tmps[55]? = some (.agg #[.int .i64 Y.k, .int .u64 Y.b]) := fis qF.2.1 rfl rfl
            clear qO qF
            go_simp
            refine hK _ _ (Below.refl _ _) ?_
            show (_ : Value) = _
            first | rfl | (simp; done) | (simp; omega)
          refine BOk.cons rfl [1, 6] [] rfl rfl (by kernel_rfl) (by kernel_rfl) (fun qK qa wr hB qO qF hK => ?_) ?_
          · have e51 : qa.tmps[51]? = some (.bool true) := fis qF.1 rfl rfl
            have e56 : qa.tmps[56]? = some (.bool false) := fis qF.2.1 rfl rfl
            clear qO qF
            go_simp
            refine hK _ _ (Below.refl _ _) ?_
            show (_ : Value) = _
            first | rfl | (simp; done) | (simp; omega)
          refine BOk.cons rfl [7] [] rfl rfl (by kernel_rfl) (by kernel_rfl) (fun qK qa wr hB qO qF hK => ?_) ?_
          · have e57 : qa.tmps[57]? = some (.bool false) := fis qF.1 rfl rfl
            clear qO qF
            go_simp
            exact hK _ _ (Below.refl _ _) (by first | rfl | (show (_ : Value) = _; simp_all; done))
          refine BOk.yes rfl [] [8] rfl 8 false rfl rfl rfl (by kernel_rfl) (by kernel_rfl) (by kernel_rfl) (fun qK qa wr hB qO qF hK => ?_) ?_
          · have e8 : qa.tmps[8]? = some (.bool true) := qO.1.trans rfl
            clear qO qF
            go_simp
            exact hK _ _ (Below.refl _ _) (by first | rfl | (show (_ : Value) = _; simp_all; done))
          refine BOk.yes rfl [9] [] rfl 8 false rfl rfl rfl (by kernel_rfl) (by kernel_rfl) (by kernel_rfl) (fun qK qa wr hB qO qF hK => ?_) ?_
          · have e59 : qa.tmps[59]? = some (.bool true) := fis qF.1 rfl rfl
            clear qO qF
            go_simp
            exact hK _ _ (Below.refl _ _) rfl
          refine BOk.yes rfl [10] [] rfl 8 false rfl rfl rfl (by kernel_rfl) (by kernel_rfl) (by kernel_rfl) (fun qK qa wr hB qO qF hK => ?_) ?_
          · have e60 : qa.tmps[60]? = some (.bool false) := fis qF.1 rfl rfl
            clear qO qF
            go_simp
            exact hK _ _ (Below.refl _ _) (by first | rfl | (show (_ : Value) = _; simp_all; done))
          refine BOk.no rfl rfl 11 true rfl rfl rfl (by kernel_rfl) (fun _ => rfl) ?_
          refine BOk.no rfl rfl 11 true rfl rfl rfl (by kernel_rfl) (fun _ => rfl) ?_
          refine BOk.no rfl rfl 11 true rfl rfl rfl (by kernel_rfl) (fun _ => rfl) ?_
          refine BOk.yes rfl [11] [] rfl 8 false rfl rfl rfl (by kernel_rfl) (by kernel_rfl) (by kernel_rfl) (fun qK qa wr hB qO qF hK => ?_) ?_
          · have e61 : qa.tmps[61]? = some (.bool false) := fis qF.1 rfl rfl
            clear qO qF
            go_simp
            refine hK _ _ (Below.refl _ _) ?_
            show (_ : Value) = _
            first | rfl | (simp; done) | (simp; omega)
          refine BOk.cons rfl [8, 15] [] rfl rfl (by kernel_rfl) (by kernel_rfl) (fun qK qa wr hB qO qF hK => ?_) ?_
          · have e58 : qa.tmps[58]? = some (.bool false) := fis qF.1 rfl rfl
            have e65 : qa.tmps[65]? = some (.bool false) := fis qF.2.1 rfl rfl
            clear qO qF
            go_simp
            refine hK _ _ (Below.refl _ _) ?_
            show (_ : Value) = _
            first | rfl | (simp; done) | (simp; omega)
          exact BOk.nil
        intro vals wr hl hB hR
        match vals, hl with
        | [z50, z51, z52, z53, z54, z55, z56, z57, z58, z59, z60, z61, z62, z63, z64, z65, z66], _ =>
        have r16 : z66 = .bool false := hR 16 _ rfl
        subst r16
        clear hR
        simp only [List.cons_append, List.nil_append, putAll, Act.put, List.setIfInBounds_toArray, List.set_cons_zero, List.set_cons_succ]
        replace KC := Lib.hid (KC.out.old hB)
        replace KY := Lib.hid (KY.out.old hB)
        replace HB := Lib.hid (HB.out.trans (hB.mono HB.out.size))
        clear hB k0 k1 k2 k3 k4 t0 t1 t2 t3 t4 y0 y1
        have k0 := KC.out.cell 0
        have k1 := KC.out.cell 1
        have k2 := KC.out.cell 2
        have k3 := KC.out.cell 3
        have k4 := KC.out.cell 4
        have y0 := KY.out.cell 0
        have y1 := KY.out.cell 1
        go_wp2_with fail
        refine wp_region_b (by kernel_rfl) (fun qk => (regE14true nr ns Ai ci li Ak ck lk Al cl ll Bi di Bk_ dk Bl dl A1 A4 c1 c4 l1 LL Y W0 wv wd).getD qk .any) (by kernel_rfl) ?_ ?_
        · refine BOk.cons rfl [] [7] rfl rfl (by kernel_rfl) (by kernel_rfl) (fun qK qa wr hB qO qF hK => ?_) ?_
          · have e7 : qa.tmps[7]? = some (.pointer (some ⟨wv.heap.size, 0, none⟩)) := qO.1.trans rfl
            clear qO qF
            have hy0 := (bcell hB _ _ (World.block_lt_of_cell? _ _ y0)).trans y0
            have hy1 := (bcell hB _ _ (World.block_lt_of_cell? _ _ y1)).trans y1
            go_simp
            exact hK _ _ (Below.refl _ _) rfl
          refine BOk.cons rfl [0] [] rfl rfl (by kernel_rfl) (by kernel_rfl) (fun qK qa wr hB qO qF hK => ?_) ?_
          · have e67 : qa.tmps[67]? = some (.agg #[.int .i64 Y.k, .int .u64 Y.b]) := fis qF.1 rfl rfl
            clear qO qF
            go_simp
            go_at_call 17
            refine (HCL.out _).mono ?_
            rintro e w2 ⟨rfl, hb2⟩
            exact hK _ _ hb2 rfl
          refine BOk.cons rfl [] [7] rfl rfl (by kernel_rfl) (by kernel_rfl) (fun qK qa wr hB qO qF hK => ?_) ?_
          · have e7 : qa.tmps[7]? = some (.pointer (some ⟨wv.heap.size, 0, none⟩)) := qO.1.trans rfl
            clear qO qF
            have hy0 := (bcell hB _ _ (World.block_lt_of_cell? _ _ y0)).trans y0
            have hy1 := (bcell hB _ _ (World.block_lt_of_cell? _ _ y1)).trans y1
            go_simp
            exact hK _ _ (Below.refl _ _) rfl
          refine BOk.cons rfl [1, 2] [] rfl rfl (by kernel_rfl) (by kernel_rfl) (fun qK qa wr hB qO qF hK => ?_) ?_
          · have e68 : qa.tmps[68]? = some (.agg #[.int .i64 Y.k, .int .u64 Y.b]) := fis qF.1 rfl rfl
            have e69 : qa.tmps[69]? = some (.agg #[.int .i64 Y.k, .int .u64 Y.b]) := fis qF.2.1 rfl rfl
            clear qO qF
            go_simp
            refine hK _ _ (Below.refl _ _) ?_
            show (_ : Value) = _
            first | rfl | (simp; done) | (simp; omega)
          refine BOk.cons rfl [3] [] rfl rfl (by kernel_rfl) (by kernel_rfl) (fun qK qa wr hB qO qF hK => ?_) ?_
          · have e70 : qa.tmps[70]? = some (.bool true) := fis qF.1 rfl rfl
            clear qO qF
            go_simp
            exact hK _ _ (Below.refl _ _) (by first | rfl | (show (_ : Value) = _; simp_all; done))
          refine BOk.yes rfl [] [8] rfl 4 true rfl rfl rfl (by kernel_rfl) (by kernel_rfl) (by kernel_rfl) (fun qK qa wr hB qO qF hK => ?_) ?_
          · have e8 : qa.tmps[8]? = some (.bool true) := qO.1.trans rfl
            clear qO qF
            go_simp
            exact hK _ _ (Below.refl _ _) (by first | rfl | (show (_ : Value) = _; simp_all; done))
          refine BOk.yes rfl [5] [] rfl 4 true rfl rfl rfl (by kernel_rfl) (by kernel_rfl) (by kernel_rfl) (fun qK qa wr hB qO qF hK => ?_) ?_
          · have e72 : qa.tmps[72]? = some (.bool true) := fis qF.1 rfl rfl
            clear qO qF
            go_simp
            exact hK _ _ (Below.refl _ _) (by first | rfl | (show (_ : Value) = _; simp_all; done))
          refine BOk.no rfl rfl 6 false rfl rfl rfl (by kernel_rfl) (fun _ => rfl) ?_
          refine BOk.no rfl rfl 6 false rfl rfl rfl (by kernel_rfl) (fun _ => rfl) ?_
          refine BOk.no rfl rfl 6 false rfl rfl rfl (by kernel_rfl) (fun _ => rfl) ?_
          refine BOk.yes rfl [6] [] rfl 4 true rfl rfl rfl (by kernel_rfl) (by kernel_rfl) (by kernel_rfl) (fun qK qa wr hB qO qF hK => ?_) ?_
          · have e73 : qa.tmps[73]? = some (.bool true) := fis qF.1 rfl rfl
            clear qO qF
            go_simp
            refine hK _ _ (Below.refl _ _) ?_
            show (_ : Value) = _
            first | rfl | (simp; done) | (simp; omega)
          refine BOk.cons rfl [4, 10] [] rfl rfl (by kernel_rfl) (by kernel_rfl) (fun qK qa wr hB qO qF hK => ?_) ?_
          · have e71 : qa.tmps[71]? = some (.bool true) := fis qF.1 rfl rfl
            have e77 : qa.tmps[77]? = some (.bool true) := fis qF.2.1 rfl rfl
            clear qO qF
            go_simp
            refine hK _ _ (Below.refl _ _) ?_
            show (_ : Value) = _
            first | rfl | (simp; done) | (simp; omega)
          refine BOk.cons rfl [11] [] rfl rfl (by kernel_rfl) (by kernel_rfl) (fun qK qa wr hB qO qF hK => ?_) ?_
          · have e78 : qa.tmps[78]? = some (.bool true) := fis qF.1 rfl rfl
            clear qO qF
            go_simp
            exact hK _ _ (Below.refl _ _) (by first | rfl | (show (_ : Value) = _; simp_all; done))
          exact BOk.nil
        intro vals wr hl hB hR
        match vals, hl with
        | [y67, y68, y69, y70, y71, y72, y73, y74, y75, y76, y77, y78, y6], _ =>
        have r12 : y6 = .bool true := hR 12 _ rfl
        subst r12
        clear hR
        simp only [List.cons_append, List.nil_append, putAll, Act.put, List.setIfInBounds_toArray, List.set_cons_zero, List.set_cons_succ]
        go_wp2_with fail
        go_ret
        exact ⟨rfl, HB.out.trans (hB.mono HB.out.size)⟩

theorem own : ownKnob Try.prog.godebug = none := by kernel_rfl
theorem laidOut : laidOutB Try.prog = true := by kernel_rfl
theorem rec0 : (Try.f6.params.toList.all fun t => Try.prog.readableRec t && decide (t < Try.prog.types.size)) = true := by kernel_rfl
set_option maxRecDepth 100000 in
theorem lifted (os : Os) (started : os.Started) (H : Type) (enc : TypeId × Value → H) (F : Stop.Interp) :
    ReturnsInHanded {} Try.checked os 6 .any ((Rows.OpenSpec.upto Rows.vmEndsSpec).pre6 enc Try.prog Try.f6 Rows.vmEndsUptoRow.domain false) (((Rows.OpenSpec.upto Rows.vmEndsSpec).at F).post enc Try.prog Try.f6 false true false false) := by
  refine law_stepB (C := Try.checked) (s := Rows.vmEndsSpec) (tb := 4) own started (by kernel_rfl) Try.func6
    (OpenSpec.witness (enc := enc) (C := Try.checked) (s := Rows.OpenSpec.upto Rows.vmEndsSpec) (k := Rows.uptoSmall) rfl false ⟨#[], #[.agg #[.int .i64 0, .int .i64 0, .slice none 0 0, .slice none 0 0, .slice none 0 0], .slice none 0 0, .slice none 0 0], []⟩ 8 (by kernel_rfl) (by kernel_rfl) (by kernel_rfl)
      (x := ([.agg [.lit (.int .i64 0), .lit (.int .i64 0), .nil, .nil, .nil], .nil, .nil], [], [])) (by kernel_rfl) rfl (by kernel_rfl)) laidOut ?_ rfl Try.underlying4 rfl ?_ ?_
  · intro t ht
    have := List.all_eq_true.1 rec0 t ht
    simp only [Bool.and_eq_true, decide_eq_true_eq] at this
    exact this
  · intro ds hd
    match ds, hd with
    | [d0, d1, d2], _ => exact ⟨rfl, rfl, rfl⟩
  intro W base args ds p hval hA hsz hbk
  rw [Try.params6] at hA hval hsz
  obtain ⟨v0, vs0, d0, ds0, p0, q0, hargs, rfl, rfl, h0, r0⟩ := trodAll_cons hA
  obtain ⟨v1, vs1, d1, ds1, p1, q1, rfl, rfl, rfl, h1, r1⟩ := trodAll_cons r0
  obtain ⟨v2, vs2, d2, ds2, p2, q2, rfl, rfl, rfl, h2, r2⟩ := trodAll_cons r1
  obtain ⟨rfl, rfl, rfl⟩ := trodAll_nil r2
  obtain rfl : args = #[v0, v1, v2] := by cases args; simp_all
  obtain ⟨x0, rfl, hc0, hq0⟩ := openB_code (hval 0 26 v0 rfl rfl) h0 (weights_each (i := 0) hsz rfl rfl) (Nat.le_trans (bulk_part (by simp)) hbk)
  obtain ⟨A1, c1, l1, rfl, hc1, hl1, hr1, hq1⟩ := openB_vals (hval 1 23 v1 rfl rfl) h1 (weights_each (i := 1) hsz rfl rfl) (Nat.le_trans (bulk_part (by simp)) hbk)
  obtain ⟨A2, c2, l2, rfl, hc2, hl2, hr2, hq2⟩ := openB_inss (hval 2 24 v2 rfl rfl) h2 (weights_each (i := 2) hsz rfl rfl) (Nat.le_trans (bulk_part (by simp)) hbk)
  exact walk W x0 hc0 hq0 A1 c1 l1 hc1 hl1 hr1 hq1 A2 c2 l2 hc2 hl2 hr2 hq2

theorem vmEnds_holds : Rows.VmEndsUptoSaid :=
  OpenClaim.holds_of_cond 6 Try.f6 rfl rfl rfl rfl rfl rfl rfl ⟨rfl, rfl, rfl, rfl, rfl⟩ rfl rfl rfl rfl rfl (by kernel_rfl) Try.func6 (by kernel_rfl)
    (of_decide_eq_true (by kernel_rfl)) (by unfold Func.isWrapper; first | (rw [if_pos (by decide +kernel)]; kernel_rfl) | (rw [if_neg (by decide +kernel)]; exact ⟨rfl, rfl⟩))
    (fun os started H enc _ F => lifted os started H enc F)
#print axioms vmEnds_holds
end Go.Proofs.Ytadblgfppnpamaa.vmEnds
