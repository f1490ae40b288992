/- VmDrops holds of what is of bounded bulk. No conditions. -/
import Derived.Test.YtadblgfppnpamaaLawB
import Derived.Test.YtadblgfppnpamaaVmRd
import Derived.Test.YtadblgfppnpamaaVmAw
import Derived.Test.YtadblgfppnpamaaVmV
import Derived.Test.YtadblgfppnpamaaVmW
import Derived.Deep.DeepCutAuto
namespace Go.Proofs.Ytadblgfppnpamaa.vmDrops
open Go.ChangeShapes Go.WideShapes Go.ChangeAt Go.RowKit
open Go.ChangeMaps (open_string shut_string)
set_option linter.unusedSimpArgs false
set_option linter.unusedVariables false


theorem infoVd : (Try.prog.info? 31).map (fun i => (i.zero, i.size, i.bytes)) = some (some (.agg #[.int .i64 0, .int .u64 0]), 2, 16) := by kernel_rfl
def dpR12t (x y : InputV) (bb oo bx n1 ci q nv c1 : Nat) (A1 : Option Addr) (W0 : World) : List Spec := [.is (.pointer (some ⟨W0.heap.size, 2, none⟩)),
  .is (.slice (some ⟨bb, oo, none⟩) n1 ci),
  .is (.int .i64 (q : Nat)),
  .is (.pointer (some ⟨bb, oo + q * 4, none⟩)),
  .is (.agg #[.int .i64 y.op, .int .i64 y.kind, .int .i64 y.pos, .int .i64 y.attr]),
  .is (.agg #[.int .i64 x.op, .int .i64 x.kind, .int .i64 x.pos, .int .i64 x.attr]),
  .is (.bool true),
  .is (.bool true),
  .is (.int .i64 (q : Nat)),
  .is (.slice A1 nv c1),
  .is (.int .i64 (nv : Nat)),
  .is (.bool (decide ((q : Nat) < (nv : Nat)))),
  .is (.bool (decide ((q : Nat) < (nv : Nat))))]
def dpR12f (x y : InputV) (bb oo bx n1 ci q nv c1 : Nat) (A1 : Option Addr) (W0 : World) : List Spec := [.is (.pointer (some ⟨W0.heap.size, 2, none⟩)),
  .is (.slice (some ⟨bb, oo, none⟩) n1 ci),
  .is (.int .i64 (q : Nat)),
  .is (.pointer (some ⟨bb, oo + q * 4, none⟩)),
  .is (.agg #[.int .i64 y.op, .int .i64 y.kind, .int .i64 y.pos, .int .i64 y.attr]),
  .is (.agg #[.int .i64 x.op, .int .i64 x.kind, .int .i64 x.pos, .int .i64 x.attr]),
  .is (.bool false),
  .is (.bool false),
  .is (undef),
  .is (undef),
  .is (undef),
  .is (undef),
  .is (.bool false)]
def dpR25t (x : V) (bz : Nat) (e : Bool) : List Spec := [.is (.bool true),
  .is (.bool true),
  .is (.agg #[.int .i64 x.k, .int .u64 x.b]),
  .is (.agg #[.int .i64 (clean x).k, .int .u64 (clean x).b]),
  .is (.agg #[.int .i64 x.k, .int .u64 x.b]),
  .is (.bool e),
  .is (.bool e)]
def dpR25f (x : V) (bz : Nat) (e : Bool) : List Spec := [.is (.bool false),
  .is (.bool false),
  .is (undef),
  .is (undef),
  .is (undef),
  .is (undef),
  .is (.bool false)]
def dpR27t (nr ns dn ds : Int) (Ai Ak Al Di Dk Dl A1 Av : Option Addr) (n1 n2 n ci ck cl m1 m2 m3 di dk dl nv c1 cv : Nat) (Y : V) (fc : Bool) (W0 w3 : World) : List Spec := [.is (.agg #[.int .i64 nr, .int .i64 ns, .slice Ai n1 ci, .slice Ak n2 ck, .slice Al n cl]),
  .is (.bool true),
  .is (.bool true),
  .is (undef),
  .is (undef),
  .is (undef),
  .is (undef),
  .is (undef),
  .is (undef),
  .is (undef),
  .is (.bool true),
  .is (.bool true),
  .is (.agg #[.int .i64 nr, .int .i64 ns, .slice Ai n1 ci, .slice Ak n2 ck, .slice Al n cl]),
  .is (.bool fc),
  .is (.bool fc),
  .is (.bool true),
  .is (.bool true),
  .is (.bool true)]
def dpR27f (nr ns dn ds : Int) (Ai Ak Al Di Dk Dl A1 Av : Option Addr) (n1 n2 n ci ck cl m1 m2 m3 di dk dl nv c1 cv : Nat) (Y : V) (fc : Bool) (W0 w3 : World) : List Spec := [.is (.agg #[.int .i64 nr, .int .i64 ns, .slice Ai n1 ci, .slice Ak n2 ck, .slice Al n cl]),
  .is (.bool false),
  .is (.bool false),
  .is (.agg #[.int .i64 nr, .int .i64 ns, .slice Ai n1 ci, .slice Ak n2 ck, .slice Al n cl]),
  .is (.slice A1 nv c1),
  .is (.agg #[.int .i64 Y.k, .int .u64 Y.b]),
  .is (.agg #[.int .i64 dn, .int .i64 ds, .slice Di m1 di, .slice Dk m2 dk, .slice Dl m3 dl]),
  .is (.slice Av m1 cv),
  .is (.agg #[.int .i64 Y.k, .int .u64 Y.b]),
  .is (.bool true),
  .is (.bool true),
  .is (.bool true),
  .is (.agg #[.int .i64 nr, .int .i64 ns, .slice Ai n1 ci, .slice Ak n2 ck, .slice Al n cl]),
  .is (.bool fc),
  .is (.bool fc),
  .is (.bool true),
  .is (.bool true),
  .is (.bool true)]
set_option maxRecDepth 100000 in
set_option maxHeartbeats 20000000 in
theorem walk (W0 : World) (x0 : CodeV) (hc0 : x0.li.length ≤ x0.ci ∧ x0.lk.length ≤ x0.ck ∧ x0.ll.length ≤ x0.cl) (hq0 : x0.ok W0 W0.heap.size)
    (A1 : Option Addr) (c1 : Nat) (l1 : List V) (hc1 : l1.length ≤ c1) (hl1 : l1.length ≤ 1048576) (hr1 : Rd W0 W0.heap.size A1 (l1.flatMap V.cells)) (hq1 : ∀ x ∈ l1, x.fits) :
    Calls Try.prog 5 #[x0.val, .slice A1 l1.length c1] W0 fun e W' => e = .returned (.bool true) ∧ Below W0.heap.size W0 W' := by
  have HQ := Lib.hid hq0
  have HR1 := Lib.hid hr1
  have HQ1 := Lib.hid hq1
  obtain ⟨iV, hV, hV0, hV1, hV2⟩ := info_parts infoVd
  have hpl := fun (w' : World) (hb : Below W0.heap.size W0 w') => plain_any x0 w' (hq0.old hb)
  have hdp := fun (N : Nat) (hN : PlainV x0 N) (hl : x0.ll.length ≤ 1024) (w' : World) (hb : Below W0.heap.size W0 w') => pdrop_any x0 N hN hl w' (hq0.old hb)
  have htw := fun (w' : World) (hb : Below W0.heap.size W0 w') => twice_any x0 w' (hq0.old hb)
  have hgo := fun (w' : World) (hb : Below W0.heap.size W0 w') (hl : x0.ll.length ≤ 3000) => good_any x0 w' (hq0.old hb) hl
  obtain ⟨nr, ns, Ai, ci, li, Ak, ck, lk, Al, cl, ll⟩ := x0
  have hni := hq0.ni
  have hnk := hq0.nk
  have hnl := hq0.nl
  simp only [CodeV.val] at hpl hdp htw hgo hni hnk hnl ⊢
  clear hc0 hq0 hr1 hq1 hc1
  obtain ⟨n1, hn1⟩ : ∃ n1, li.length = n1 := ⟨_, rfl⟩
  obtain ⟨n2, hn2⟩ : ∃ n2, lk.length = n2 := ⟨_, rfl⟩
  obtain ⟨n, hn⟩ : ∃ n, ll.length = n := ⟨_, rfl⟩
  obtain ⟨nv, hnv⟩ : ∃ nv, l1.length = nv := ⟨_, rfl⟩
  rw [hn1, hn2, hn] at hpl hdp htw hgo
  rw [hn1, hn2, hn, hnv]
  have HPL := Lib.hid hpl
  have HDP := Lib.hid hdp
  have HTW := Lib.hid htw
  have HGO := Lib.hid hgo
  have HN1 := Lib.hid hn1
  have HN2 := Lib.hid hn2
  have HN := Lib.hid hn
  have HNV := Lib.hid hnv
  rw [hn1] at hni
  rw [hn2] at hnk
  rw [hn] at hnl
  rw [hnv] at hl1
  clear hpl hdp htw hgo hn1 hn2 hn hnv
  have kc0 := Bk.new W0 26 #[.int .i64 nr, .int .i64 ns, .slice Ai n1 ci, .slice Ak n2 ck, .slice Al n cl]
  have hbe : Below W0.heap.size W0 (W0.alloc (.cells #[.int .i64 nr, .int .i64 ns, .slice Ai n1 ci, .slice Ak n2 ck, .slice Al n cl] 26)) := (Below.refl _ _).alloc (Nat.le_refl _) _
  go_enter Try.func5, Try.ntmps5
  go_wp2_with fail
  refine (awake_any _).mono ?_
  rintro e w1 ⟨rfl, hb1⟩
  have kc1 := kc0.old hb1
  replace hbe := hbe.trans (hb1.mono hbe.size)
  have k0 : w1.cell? ⟨W0.heap.size, 0, none⟩ = some (.int .i64 nr) := kc1.cell 0
  have k1 : w1.cell? ⟨W0.heap.size, 1, none⟩ = some (.int .i64 ns) := kc1.cell 1
  have k2 : w1.cell? ⟨W0.heap.size, 2, none⟩ = some (.slice Ai n1 ci) := kc1.cell 2
  have k3 : w1.cell? ⟨W0.heap.size, 3, none⟩ = some (.slice Ak n2 ck) := kc1.cell 3
  have k4 : w1.cell? ⟨W0.heap.size, 4, none⟩ = some (.slice Al n cl) := kc1.cell 4
  clear kc0 hb1
  go_wp2_with fail
  refine (HPL.out _ hbe).mono ?_
  rintro e w2 ⟨p, rfl, hp, hb2⟩
  have kc2 := kc1.old hb2
  replace hbe := hbe.trans (hb2.mono hbe.size)
  clear hb2 kc1 HPL k0 k1 k2 k3 k4
  cases p with
  | false =>
    as_aux_lemma =>
    clear hp HDP HTW HGO HQ HR1 HQ1 kc2
    go_wp2_with fail
    refine (awake_any _).mono ?_
    rintro e w9 ⟨rfl, hb9⟩
    have hbf := hbe.trans (hb9.mono hbe.size)
    clear hb9 hbe
    go_wp2_with fail
    go_ret
    exact ⟨rfl, hbf⟩
  | true =>
    obtain ⟨N, hN⟩ := hp rfl
    have HPV := Lib.hid hN
    clear hp hN
    have k0 : w2.cell? ⟨W0.heap.size, 0, none⟩ = some (.int .i64 nr) := kc2.cell 0
    have k1 : w2.cell? ⟨W0.heap.size, 1, none⟩ = some (.int .i64 ns) := kc2.cell 1
    have k2 : w2.cell? ⟨W0.heap.size, 2, none⟩ = some (.slice Ai n1 ci) := kc2.cell 2
    have k3 : w2.cell? ⟨W0.heap.size, 3, none⟩ = some (.slice Ak n2 ck) := kc2.cell 3
    have k4 : w2.cell? ⟨W0.heap.size, 4, none⟩ = some (.slice Al n cl) := kc2.cell 4
    by_cases hbig : 1024 < n
    · as_aux_lemma =>
      clear HDP HTW HGO HQ HR1 HQ1 kc2 HPV
      go_wp2_with fail
      refine (awake_any _).mono ?_
      rintro e w9 ⟨rfl, hb9⟩
      have hbf := hbe.trans (hb9.mono hbe.size)
      clear hb9 hbe
      go_wp2_with fail
      go_ret
      exact ⟨rfl, hbf⟩
    have hsm : ll.length ≤ 1024 := by rw [HN.out]; omega
    go_wp2_with fail
    refine (HDP.out N HPV.out (by omega) _ hbe).mono ?_
    rintro e w3 ⟨d, rfl, d1, d2, d3, d4, d5, r1, r2, r3, hb3⟩
    have kc3 := kc2.old hb3
    replace hbe := hbe.trans (hb3.mono hbe.size)
    have hfit : FitS (dropF ⟨nr, ns, Ai, ci, li, Ak, ck, lk, Al, cl, ll⟩) 1024 := (dropF_fits (c := ⟨nr, ns, Ai, ci, li, Ak, ck, lk, Al, cl, ll⟩) HQ.out.fi HQ.out.fk HQ.out.fl hsm).more hsm
    have hdok : d.ok w3 w3.heap.size := by
      refine ⟨r1, r2, r3, ?_, ?_, ?_, ?_, ?_, ?_, ?_, ?_⟩
      · rw [d3]; have := hfit.n1; omega
      · rw [d4]; have := hfit.n2; omega
      · rw [d5]; have := hfit.n3; unfold lastZ; rw [List.length_modify]; omega
      · rw [d3]; exact hfit.li
      · rw [d4]; exact hfit.lk
      · rw [d5]; exact lastZ_fits hfit.ll
      · rw [d1]; exact i64_small (by omega) (by have := hfit.n3; omega)
      · rw [d2]; exact i64_0
    have htl : Once li → runV ⟨nr, ns, Ai, ci, li, Ak, ck, lk, Al, cl, ll⟩ l1 = runV d (leftL li l1 d.li) := fun ho => by rw [d3]; exact left_tells HPV.out ho hsm l1 d1 d2 d4 d5
    have HTL := Lib.hid htl
    have HDO := Lib.hid hdok
    have HGD := Lib.hid (plain_good HPV.out hsm)
    clear d1 d2 d3 d4 d5 r1 r2 r3 hb3 hfit hdok htl kc2 HDP k0 k1 k2 k3 k4
    obtain ⟨dn, ds, Di, di, dl1, Dk, dk, dl2, Dl, dl, dl3⟩ := d
    have hm1 : dl1.length ≤ 1048576 := HDO.out.ni
    obtain ⟨m1, em1⟩ : ∃ m1, dl1.length = m1 := ⟨_, rfl⟩
    obtain ⟨m2, em2⟩ : ∃ m2, dl2.length = m2 := ⟨_, rfl⟩
    obtain ⟨m3, em3⟩ : ∃ m3, dl3.length = m3 := ⟨_, rfl⟩
    simp only [CodeV.val]
    rw [em1, em2, em3]
    have HM1 := Lib.hid em1
    have HM2 := Lib.hid em2
    have HM3 := Lib.hid em3
    rw [em1] at hm1
    clear em1 em2 em3
    have kd := Bk.new w3 26 #[.int .i64 dn, .int .i64 ds, .slice Di m1 di, .slice Dk m2 dk, .slice Dl m3 dl]
    have hbd := hbe.alloc hbe.size (.cells #[.int .i64 dn, .int .i64 ds, .slice Di m1 di, .slice Dk m2 dk, .slice Dl m3 dl] 26)
    have kcd := kc3.alloc (.cells #[.int .i64 dn, .int .i64 ds, .slice Di m1 di, .slice Dk m2 dk, .slice Dl m3 dl] 26)
    have HRD : Hid (Rd w3 w3.heap.size Di (dl1.flatMap InputV.cells)) := Lib.hid HDO.out.ri
    have h22 : (w3.alloc (.cells #[.int .i64 dn, .int .i64 ds, .slice Di m1 di, .slice Dk m2 dk, .slice Dl m3 dl] 26)).cell? ⟨w3.heap.size, 2, none⟩ = some (.slice Di m1 di) := kd.cell 2
    have hwr : IntKind.i64.wrap ((n1 : Int) - 1) = (n1 : Int) - 1 := by rw [IntKind.wrap_i64]; omega
    have hb3d : Below w3.heap.size w3 (w3.alloc (.cells #[.int .i64 dn, .int .i64 ds, .slice Di m1 di, .slice Dk m2 dk, .slice Dl m3 dl] 26)) := (Below.refl _ _).alloc (Nat.le_refl _) _
    have hlt3 : W0.heap.size < w3.heap.size := kc3.lt
    clear hbe kc3
    go_wp2_with fail
    clear h22
    go_loopw [6, 35] (fun vs i wr => ∃ (k : Nat) (Av : Option Addr) (cv : Nat), k ≤ m1 ∧ i = .int .i64 k ∧ vs = .slice Av k cv ∧ Below W0.heap.size W0 wr ∧ Below w3.heap.size w3 wr ∧ Bk wr W0.heap.size 26 #[.int .i64 nr, .int .i64 ns, .slice Ai n1 ci, .slice Ak n2 ck, .slice Al n cl] ∧ Bk wr w3.heap.size 26 #[.int .i64 dn, .int .i64 ds, .slice Di m1 di, .slice Dk m2 dk, .slice Dl m3 dl] ∧
      wr.ownsRow (w3.heap.size + 1) 31 2 vs k (((dl1.take k).map (lookV li l1)).flatMap V.cells)) (fun _ i _ => m1 - (intOf i).toNat)
    case atStart => exact ⟨0, none, 0, Nat.zero_le _, rfl, rfl, hbd, hb3d, kcd, kd, World.ownsRow_nil _ _ _ _⟩
    case round =>
      rename World => wa
      clear hbd hb3d kcd kd
      obtain ⟨k, Av, cv, hk, rfl, rfl, hbe, hb3, kc, kd, hown⟩ := hrel
      by_cases hlt : k < m1
      · as_aux_lemma =>
        have hkl : k < dl1.length := by rw [HM1.out]; exact hlt
        obtain ⟨b6, o6, rfl, hb6, hc6⟩ := (HRD.out.below hb3).elem (f := InputV.cells) (n := 4) (fun _ => rfl) (by omega) hkl
        have hnext : ((dl1.take (k + 1)).map (lookV li l1)).flatMap V.cells = ((dl1.take k).map (lookV li l1)).flatMap V.cells ++ (lookV li l1 dl1[k]).cells := by
          rw [List.take_succ_eq_append_getElem hkl, List.map_append, List.flatMap_append]
          simp
        generalize dl1[k] = x at *
        have i0 : wa.cell? ⟨b6, o6 + k * 4, none⟩ = some (.int .i64 x.op) := hc6 0 _ rfl
        have i1 : wa.cell? ⟨b6, o6 + k * 4 + 1, none⟩ = some (.int .i64 x.kind) := hc6 1 _ rfl
        have i2 : wa.cell? ⟨b6, o6 + k * 4 + 2, none⟩ = some (.int .i64 x.pos) := hc6 2 _ rfl
        have i3 : wa.cell? ⟨b6, o6 + k * 4 + 3, none⟩ = some (.int .i64 x.attr) := hc6 3 _ rfl
        have HNX := Lib.hid hnext
        have hb2 : Below wa.heap.size wa ((wa.alloc (.cells #[.int .i64 x.op, .int .i64 x.kind, .int .i64 x.pos, .int .i64 x.attr] 39)).alloc (.cells #[.int .i64 0, .int .u64 0] 31)) := ((Below.refl _ _).alloc (Nat.le_refl _) _).alloc (by simp) _
        have hobk : ∀ q, (Value.slice Av k cv).ownBlock = some q → wa.heap.size ≤ q → False := fun q h h2 => by have := (hown.lt q h).2; omega
        have HOB := Lib.hid hobk
        have hza : w3.heap.size < wa.heap.size := kd.lt
        have hbe2 := hbe.trans (hb2.mono hbe.size)
        have hb32 := hb3.trans (hb2.mono hb3.size)
        have kc2 := kc.old hb2
        have kd2 := kd.old hb2
        have hown2 := own_old hown hb2
        have kx2 := (Bk.new wa 39 #[.int .i64 x.op, .int .i64 x.kind, .int .i64 x.pos, .int .i64 x.attr]).alloc (.cells #[.int .i64 0, .int .u64 0] 31)
        have kv2 := Bk.newAt (w := wa.alloc (.cells #[.int .i64 x.op, .int .i64 x.kind, .int .i64 x.pos, .int .i64 x.attr] 39)) (g := wa.heap.size + 1) (by simp) 31 #[.int .i64 0, .int .u64 0]
        have c2 : ((wa.alloc (.cells #[.int .i64 x.op, .int .i64 x.kind, .int .i64 x.pos, .int .i64 x.attr] 39)).alloc (.cells #[.int .i64 0, .int .u64 0] 31)).cell? ⟨W0.heap.size, 2, none⟩ = some (.slice Ai n1 ci) := kc2.cell 2
        clear hc6 hnext kc kd hbe hb3 hown hb2 hobk
        go_wp2_with fail
        clear c2 i0 i1 i2 i3
        generalize ((wa.alloc (.cells #[.int .i64 x.op, .int .i64 x.kind, .int .i64 x.pos, .int .i64 x.attr] 39)).alloc (.cells #[.int .i64 0, .int .u64 0] 31)) = wc at *
        generalize wa.heap.size = bx at *
        go_loopw [10] (fun i wr => ∃ (m : Nat) (v : V), m ≤ n1 ∧ i = .int .i64 ((m : Int) - 1) ∧ Below W0.heap.size W0 wr ∧ Below w3.heap.size w3 wr ∧ Bk wr W0.heap.size 26 #[.int .i64 nr, .int .i64 ns, .slice Ai n1 ci, .slice Ak n2 ck, .slice Al n cl] ∧ Bk wr w3.heap.size 26 #[.int .i64 dn, .int .i64 ds, .slice (some ⟨b6, o6, none⟩) m1 di, .slice Dk m2 dk, .slice Dl m3 dl] ∧ Bk wr bx 39 #[.int .i64 x.op, .int .i64 x.kind, .int .i64 x.pos, .int .i64 x.attr] ∧
          wr.ownsRow (w3.heap.size + 1) 31 2 (.slice Av k cv) k (((dl1.take k).map (lookV li l1)).flatMap V.cells) ∧ Bk wr (bx + 1) 31 #[.int .i64 v.k, .int .u64 v.b] ∧ Hid (v = lookV (li.drop m) (l1.drop m) x)) (fun i _ => (intOf i + 1).toNat)
        case atStart => exact ⟨n1, none0, Nat.le_refl _, rfl, hbe2, hb32, kc2, kd2, kx2, hown2, kv2, Lib.hid (by rw [show li.drop n1 = [] from List.drop_eq_nil_of_le (by rw [HN1.out]; exact Nat.le_refl _)]; rfl)⟩
        case round =>
          rename World => wb
          clear hbe2 hb32 kc2 kd2 kx2 hown2 kv2
          obtain ⟨m, v, hm, rfl, hbe, hb3, kc, kd, kx, hown, kv, hvv⟩ := hrel
          cases m with
          | succ q =>
            have hqn : q < n1 := by omega
            have hql : q < li.length := by rw [HN1.out]; omega
            obtain ⟨bb, oo, rfl, hb, hc⟩ := (HQ.out.ri.below hbe).elem (f := InputV.cells) (n := 4) (fun _ => rfl) (by omega) hql
            have hdl : li.drop q = li[q] :: li.drop (q + 1) := List.drop_eq_getElem_cons hql
            generalize li[q] = y at *
            have y0 : wb.cell? ⟨bb, oo + q * 4, none⟩ = some (.int .i64 y.op) := hc 0 _ rfl
            have y1 : wb.cell? ⟨bb, oo + q * 4 + 1, none⟩ = some (.int .i64 y.kind) := hc 1 _ rfl
            have y2 : wb.cell? ⟨bb, oo + q * 4 + 2, none⟩ = some (.int .i64 y.pos) := hc 2 _ rfl
            have y3 : wb.cell? ⟨bb, oo + q * 4 + 3, none⟩ = some (.int .i64 y.attr) := hc 3 _ rfl
            have c2 : wb.cell? ⟨W0.heap.size, 2, none⟩ = some (.slice (some ⟨bb, oo, none⟩) n1 ci) := kc.cell 2
            have z0 : wb.cell? ⟨bx, 0, none⟩ = some (.int .i64 x.op) := kx.cell 0
            have z1 : wb.cell? ⟨bx, 1, none⟩ = some (.int .i64 x.kind) := kx.cell 1
            have z2 : wb.cell? ⟨bx, 2, none⟩ = some (.int .i64 x.pos) := kx.cell 2
            have z3 : wb.cell? ⟨bx, 3, none⟩ = some (.int .i64 x.attr) := kx.cell 3
            obtain ⟨e, he⟩ : ∃ e, sameI y x = e := ⟨_, rfl⟩
            have heq : ∀ w : World, (binOp .eql 39 (.agg #[.int .i64 y.op, .int .i64 y.kind, .int .i64 y.pos, .int .i64 y.attr]) (.agg #[.int .i64 x.op, .int .i64 x.kind, .int .i64 x.pos, .int .i64 x.attr])).run Try.prog w = .ok (.bool e) w := fun w => by rw [eql_I, he]
            have HE := Lib.hid he
            have HDL := Lib.hid hdl
            clear hc he hdl
            rw [show (((q + 1 : Nat) : Int) - 1) = (q : Int) by omega]
            cases e with
            | false =>
              as_aux_lemma =>
              have hv2 : Hid (v = lookV (li.drop q) (l1.drop q) x) := Lib.hid (by
                rw [HDL.out, hvv.out]
                cases hl : l1.drop q with
                | nil =>
                  have : l1.drop (q + 1) = [] := by rw [← List.drop_drop, hl]; rfl
                  rw [this]
                  cases li.drop (q + 1) <;> rfl
                | cons u r =>
                  have : l1.drop (q + 1) = r := by rw [← List.drop_drop, hl]; rfl
                  rw [this]
                  have e : lookV (y :: li.drop (q + 1)) (u :: r) x = lookV (li.drop (q + 1)) r x := if_neg (by rw [HE.out]; simp)
                  exact e.symm)
              go_upto_region 12 with fail
              refine wp_region_b (by kernel_rfl) (fun qk => (dpR12f x y bb oo bx n1 ci q nv c1 A1 W0).getD qk .any) (by kernel_rfl) ?_ ?_
              · refine BOk.cons rfl [] [2] rfl rfl (by kernel_rfl) (by kernel_rfl) (fun qK qa wr hB qO qF hK => ?_) ?_
                · have e2 : qa.tmps[2]? = some (.pointer (some ⟨W0.heap.size, 0, none⟩)) := qO.1.trans rfl
                  clear qO qF
                  go_simp
                  exact hK _ _ (Below.refl _ _) rfl
                refine BOk.cons rfl [0] [] rfl rfl (by kernel_rfl) (by kernel_rfl) (fun qK qa wr hB qO qF hK => ?_) ?_
                · have e48 : qa.tmps[48]? = some (.pointer (some ⟨W0.heap.size, 2, none⟩)) := fis qF.1 rfl rfl
                  clear qO qF
                  have hc2 := (bcell hB _ _ (World.block_lt_of_cell? _ _ c2)).trans c2
                  go_simp
                  exact hK _ _ (Below.refl _ _) rfl
                refine BOk.cons rfl [] [10] rfl rfl (by kernel_rfl) (by kernel_rfl) (fun qK qa wr hB qO qF hK => ?_) ?_
                · have e10 : qa.tmps[10]? = some (.int .i64 (q : Nat)) := qO.1.trans rfl
                  clear qO qF
                  go_simp
                  exact hK _ _ (Below.refl _ _) rfl
                refine BOk.cons rfl [1, 2] [] rfl rfl (by kernel_rfl) (by kernel_rfl) (fun qK qa wr hB qO qF hK => ?_) ?_
                · have e49 : qa.tmps[49]? = some (.slice (some ⟨bb, oo, none⟩) n1 ci) := fis qF.1 rfl rfl
                  have e50 : qa.tmps[50]? = some (.int .i64 (q : Nat)) := fis qF.2.1 rfl rfl
                  clear qO qF
                  go_simp
                  refine hK _ _ (Below.refl _ _) ?_
                  show (_ : Value) = _
                  first | rfl | (simp; done) | (simp; omega)
                refine BOk.cons rfl [3] [] rfl rfl (by kernel_rfl) (by kernel_rfl) (fun qK qa wr hB qO qF hK => ?_) ?_
                · have e51 : qa.tmps[51]? = some (.pointer (some ⟨bb, oo + q * 4, none⟩)) := fis qF.1 rfl rfl
                  clear qO qF
                  have hy0 := (bcell hB _ _ (World.block_lt_of_cell? _ _ y0)).trans y0
                  have hy1 := (bcell hB _ _ (World.block_lt_of_cell? _ _ y1)).trans y1
                  have hy2 := (bcell hB _ _ (World.block_lt_of_cell? _ _ y2)).trans y2
                  have hy3 := (bcell hB _ _ (World.block_lt_of_cell? _ _ y3)).trans y3
                  go_simp
                  exact hK _ _ (Below.refl _ _) rfl
                refine BOk.cons rfl [] [8] rfl rfl (by kernel_rfl) (by kernel_rfl) (fun qK qa wr hB qO qF hK => ?_) ?_
                · have e8 : qa.tmps[8]? = some (.pointer (some ⟨bx, 0, none⟩)) := qO.1.trans rfl
                  clear qO qF
                  have hz0 := (bcell hB _ _ (World.block_lt_of_cell? _ _ z0)).trans z0
                  have hz1 := (bcell hB _ _ (World.block_lt_of_cell? _ _ z1)).trans z1
                  have hz2 := (bcell hB _ _ (World.block_lt_of_cell? _ _ z2)).trans z2
                  have hz3 := (bcell hB _ _ (World.block_lt_of_cell? _ _ z3)).trans z3
                  go_simp
                  exact hK _ _ (Below.refl _ _) rfl
                refine BOk.cons rfl [4, 5] [] rfl rfl (by kernel_rfl) (by kernel_rfl) (fun qK qa wr hB qO qF hK => ?_) ?_
                · have e52 : qa.tmps[52]? = some (.agg #[.int .i64 y.op, .int .i64 y.kind, .int .i64 y.pos, .int .i64 y.attr]) := fis qF.1 rfl rfl
                  have e53 : qa.tmps[53]? = some (.agg #[.int .i64 x.op, .int .i64 x.kind, .int .i64 x.pos, .int .i64 x.attr]) := fis qF.2.1 rfl rfl
                  clear qO qF
                  go_simp
                  refine hK _ _ (Below.refl _ _) ?_
                  show (_ : Value) = _
                  first | rfl | (simp; done) | (simp; omega)
                refine BOk.cons rfl [6] [] rfl rfl (by kernel_rfl) (by kernel_rfl) (fun qK qa wr hB qO qF hK => ?_) ?_
                · have e54 : qa.tmps[54]? = some (.bool false) := fis qF.1 rfl rfl
                  clear qO qF
                  go_simp
                  exact hK _ _ (Below.refl _ _) (by first | rfl | (show (_ : Value) = _; simp_all; done))
                refine BOk.no rfl rfl 7 true rfl rfl rfl (by kernel_rfl) (fun _ => rfl) ?_
                refine BOk.no rfl rfl 7 true rfl rfl rfl (by kernel_rfl) (fun _ => rfl) ?_
                refine BOk.no rfl rfl 7 true rfl rfl rfl (by kernel_rfl) (fun _ => rfl) ?_
                refine BOk.no rfl rfl 7 true rfl rfl rfl (by kernel_rfl) (fun _ => rfl) ?_
                refine BOk.cons rfl [7] [] rfl rfl (by kernel_rfl) (by kernel_rfl) (fun qK qa wr hB qO qF hK => ?_) ?_
                · have e55 : qa.tmps[55]? = some (.bool false) := fis qF.1 rfl rfl
                  clear qO qF
                  go_simp
                  refine hK _ _ (Below.refl _ _) ?_
                  show (_ : Value) = _
                  first | rfl | (simp; done) | (simp; omega)
                exact BOk.nil
              intro vals wr hl hB hR
              match vals, hl with
              | [z48, z49, z50, z51, z52, z53, z54, z55, z56, z57, z58, z59, z60], _ =>
              have r12 : z60 = .bool false := hR 12 _ rfl
              subst r12
              clear hR
              simp only [List.cons_append, List.nil_append, putAll, Act.put, List.setIfInBounds_toArray, List.set_cons_zero, List.set_cons_succ]
              rename World => w12
              replace hbe := hbe.trans (hB.mono hbe.size)
              replace hb3 := hb3.trans (hB.mono hb3.size)
              replace kc := kc.old hB
              replace kd := kd.old hB
              replace kx := kx.old hB
              replace kv := kv.old hB
              replace hown := own_old hown hB
              clear hB c2 y0 y1 y2 y3 z0 z1 z2 z3 heq
              go_wp2_with fail
              go_roundw
              case rel => exact ⟨q, v, by omega, by go_num, hbe, hb3, kc, kd, kx, hown, kv, hv2⟩
              case measure => first | (simp [intOf]; done) | (simp [intOf]; omega)
            | true =>
              by_cases hqv : q < nv
              · as_aux_lemma =>
                have hqv1 : q < l1.length := by rw [HNV.out]; exact hqv
                obtain ⟨b7, o7, rfl, hb7, hc7⟩ := (HR1.out.below hbe).elem (f := V.cells) (n := 2) (fun _ => rfl) (by omega) hqv1
                have hd1 : l1.drop q = l1[q] :: l1.drop (q + 1) := List.drop_eq_getElem_cons hqv1
                generalize l1[q] = u at *
                have hv2 : Hid (u = lookV (li.drop q) (l1.drop q) x) := Lib.hid (by
                  rw [HDL.out, hd1]
                  unfold lookV
                  rw [HE.out]; rfl)
                have u0 : wb.cell? ⟨b7, o7 + q * 2, none⟩ = some (.int .i64 u.k) := hc7 0 _ rfl
                have u1 : wb.cell? ⟨b7, o7 + q * 2 + 1, none⟩ = some (.int .u64 u.b) := hc7 1 _ rfl
                clear hc7 hd1
                go_upto_region 12 with fail
                refine wp_region_b (by kernel_rfl) (fun qk => (dpR12t x y bb oo bx n1 ci q nv c1 (some ⟨b7, o7, none⟩) W0).getD qk .any) (by kernel_rfl) ?_ ?_
                · refine BOk.cons rfl [] [2] rfl rfl (by kernel_rfl) (by kernel_rfl) (fun qK qa wr hB qO qF hK => ?_) ?_
                  · have e2 : qa.tmps[2]? = some (.pointer (some ⟨W0.heap.size, 0, none⟩)) := qO.1.trans rfl
                    clear qO qF
                    go_simp
                    exact hK _ _ (Below.refl _ _) rfl
                  refine BOk.cons rfl [0] [] rfl rfl (by kernel_rfl) (by kernel_rfl) (fun qK qa wr hB qO qF hK => ?_) ?_
                  · have e48 : qa.tmps[48]? = some (.pointer (some ⟨W0.heap.size, 2, none⟩)) := fis qF.1 rfl rfl
                    clear qO qF
                    have hc2 := (bcell hB _ _ (World.block_lt_of_cell? _ _ c2)).trans c2
                    go_simp
                    exact hK _ _ (Below.refl _ _) rfl
                  refine BOk.cons rfl [] [10] rfl rfl (by kernel_rfl) (by kernel_rfl) (fun qK qa wr hB qO qF hK => ?_) ?_
                  · have e10 : qa.tmps[10]? = some (.int .i64 (q : Nat)) := qO.1.trans rfl
                    clear qO qF
                    go_simp
                    exact hK _ _ (Below.refl _ _) rfl
                  refine BOk.cons rfl [1, 2] [] rfl rfl (by kernel_rfl) (by kernel_rfl) (fun qK qa wr hB qO qF hK => ?_) ?_
                  · have e49 : qa.tmps[49]? = some (.slice (some ⟨bb, oo, none⟩) n1 ci) := fis qF.1 rfl rfl
                    have e50 : qa.tmps[50]? = some (.int .i64 (q : Nat)) := fis qF.2.1 rfl rfl
                    clear qO qF
                    go_simp
                    refine hK _ _ (Below.refl _ _) ?_
                    show (_ : Value) = _
                    first | rfl | (simp; done) | (simp; omega)
                  refine BOk.cons rfl [3] [] rfl rfl (by kernel_rfl) (by kernel_rfl) (fun qK qa wr hB qO qF hK => ?_) ?_
                  · have e51 : qa.tmps[51]? = some (.pointer (some ⟨bb, oo + q * 4, none⟩)) := fis qF.1 rfl rfl
                    clear qO qF
                    have hy0 := (bcell hB _ _ (World.block_lt_of_cell? _ _ y0)).trans y0
                    have hy1 := (bcell hB _ _ (World.block_lt_of_cell? _ _ y1)).trans y1
                    have hy2 := (bcell hB _ _ (World.block_lt_of_cell? _ _ y2)).trans y2
                    have hy3 := (bcell hB _ _ (World.block_lt_of_cell? _ _ y3)).trans y3
                    go_simp
                    exact hK _ _ (Below.refl _ _) rfl
                  refine BOk.cons rfl [] [8] rfl rfl (by kernel_rfl) (by kernel_rfl) (fun qK qa wr hB qO qF hK => ?_) ?_
                  · have e8 : qa.tmps[8]? = some (.pointer (some ⟨bx, 0, none⟩)) := qO.1.trans rfl
                    clear qO qF
                    have hz0 := (bcell hB _ _ (World.block_lt_of_cell? _ _ z0)).trans z0
                    have hz1 := (bcell hB _ _ (World.block_lt_of_cell? _ _ z1)).trans z1
                    have hz2 := (bcell hB _ _ (World.block_lt_of_cell? _ _ z2)).trans z2
                    have hz3 := (bcell hB _ _ (World.block_lt_of_cell? _ _ z3)).trans z3
                    go_simp
                    exact hK _ _ (Below.refl _ _) rfl
                  refine BOk.cons rfl [4, 5] [] rfl rfl (by kernel_rfl) (by kernel_rfl) (fun qK qa wr hB qO qF hK => ?_) ?_
                  · have e52 : qa.tmps[52]? = some (.agg #[.int .i64 y.op, .int .i64 y.kind, .int .i64 y.pos, .int .i64 y.attr]) := fis qF.1 rfl rfl
                    have e53 : qa.tmps[53]? = some (.agg #[.int .i64 x.op, .int .i64 x.kind, .int .i64 x.pos, .int .i64 x.attr]) := fis qF.2.1 rfl rfl
                    clear qO qF
                    go_simp
                    refine hK _ _ (Below.refl _ _) ?_
                    show (_ : Value) = _
                    first | rfl | (simp; done) | (simp; omega)
                  refine BOk.cons rfl [6] [] rfl rfl (by kernel_rfl) (by kernel_rfl) (fun qK qa wr hB qO qF hK => ?_) ?_
                  · have e54 : qa.tmps[54]? = some (.bool true) := fis qF.1 rfl rfl
                    clear qO qF
                    go_simp
                    exact hK _ _ (Below.refl _ _) (by first | rfl | (show (_ : Value) = _; simp_all; done))
                  refine BOk.yes rfl [] [10] rfl 7 true rfl rfl rfl (by kernel_rfl) (by kernel_rfl) (by kernel_rfl) (fun qK qa wr hB qO qF hK => ?_) ?_
                  · have e10 : qa.tmps[10]? = some (.int .i64 (q : Nat)) := qO.1.trans rfl
                    clear qO qF
                    go_simp
                    exact hK _ _ (Below.refl _ _) rfl
                  refine BOk.yes rfl [] [1] rfl 7 true rfl rfl rfl (by kernel_rfl) (by kernel_rfl) (by kernel_rfl) (fun qK qa wr hB qO qF hK => ?_) ?_
                  · have e1 : qa.tmps[1]? = some (.slice (some ⟨b7, o7, none⟩) nv c1) := qO.1.trans rfl
                    clear qO qF
                    go_simp
                    exact hK _ _ (Below.refl _ _) rfl
                  refine BOk.yes rfl [9] [] rfl 7 true rfl rfl rfl (by kernel_rfl) (by kernel_rfl) (by kernel_rfl) (fun qK qa wr hB qO qF hK => ?_) ?_
                  · have e57 : qa.tmps[57]? = some (.slice (some ⟨b7, o7, none⟩) nv c1) := fis qF.1 rfl rfl
                    clear qO qF
                    go_simp
                    exact hK _ _ (Below.refl _ _) rfl
                  refine BOk.yes rfl [8, 10] [] rfl 7 true rfl rfl rfl (by kernel_rfl) (by kernel_rfl) (by kernel_rfl) (fun qK qa wr hB qO qF hK => ?_) ?_
                  · have e56 : qa.tmps[56]? = some (.int .i64 (q : Nat)) := fis qF.1 rfl rfl
                    have e58 : qa.tmps[58]? = some (.int .i64 (nv : Nat)) := fis qF.2.1 rfl rfl
                    clear qO qF
                    go_simp
                    refine hK _ _ (Below.refl _ _) ?_
                    show (_ : Value) = _
                    first | rfl | (simp; done) | (simp; omega) | (congr 1; simp; done) | (congr 1; rw [decide_eq_decide]; omega) | exact congrArg Value.bool (nat_bne _ _) | exact congrArg Value.bool (nat_beq _ _)
                  refine BOk.cons rfl [7, 11] [] rfl rfl (by kernel_rfl) (by kernel_rfl) (fun qK qa wr hB qO qF hK => ?_) ?_
                  · have e55 : qa.tmps[55]? = some (.bool true) := fis qF.1 rfl rfl
                    have e59 : qa.tmps[59]? = some (.bool (decide ((q : Nat) < (nv : Nat)))) := fis qF.2.1 rfl rfl
                    clear qO qF
                    go_simp
                    refine hK _ _ (Below.refl _ _) ?_
                    show (_ : Value) = _
                    first | rfl | (simp; done) | (simp; omega)
                  exact BOk.nil
                intro vals wr hl hB hR
                match vals, hl with
                | [z48, z49, z50, z51, z52, z53, z54, z55, z56, z57, z58, z59, z60], _ =>
                have r12 : z60 = .bool (decide ((q : Nat) < (nv : Nat))) := hR 12 _ rfl
                subst r12
                clear hR
                simp only [List.cons_append, List.nil_append, putAll, Act.put, List.setIfInBounds_toArray, List.set_cons_zero, List.set_cons_succ]
                have u0 := (bcell hB _ _ (World.block_lt_of_cell? _ _ u0)).trans u0
                have u1 := (bcell hB _ _ (World.block_lt_of_cell? _ _ u1)).trans u1
                rename World => w12
                replace hbe := hbe.trans (hB.mono hbe.size)
                replace hb3 := hb3.trans (hB.mono hb3.size)
                replace kc := kc.old hB
                replace kd := kd.old hB
                replace kx := kx.old hB
                replace kv := kv.old hB
                replace hown := own_old hown hB
                clear hB c2 y0 y1 y2 y3 z0 z1 z2 z3 heq
                have hdv : decide ((q : Nat) < (nv : Nat)) = true := decide_eq_true hqv
                have v0 := kv.cell 0
                have v1 := kv.cell 1
                have fv0 := kv.frozen 0
                have fv1 := kv.frozen 1
                have kvZ : Bk ((w12.setCell ⟨bx + 1, 0, none⟩ (.int .i64 u.k)).setCell ⟨bx + 1, 1, none⟩ (.int .u64 u.b)) (bx + 1) 31 #[.int .i64 u.k, .int .u64 u.b] := by simpa using (kv.put 0 (.int .i64 u.k)).put 1 (.int .u64 u.b)
                have kcZ := (kc.far (p := ⟨bx + 1, 0, none⟩) (show W0.heap.size ≠ bx + 1 by omega) (.int .i64 u.k)).far (p := ⟨bx + 1, 1, none⟩) (show W0.heap.size ≠ bx + 1 by omega) (.int .u64 u.b)
                have kdZ := (kd.far (p := ⟨bx + 1, 0, none⟩) (show w3.heap.size ≠ bx + 1 by omega) (.int .i64 u.k)).far (p := ⟨bx + 1, 1, none⟩) (show w3.heap.size ≠ bx + 1 by omega) (.int .u64 u.b)
                have kxZ := (kx.far (p := ⟨bx + 1, 0, none⟩) (show bx ≠ bx + 1 by omega) (.int .i64 u.k)).far (p := ⟨bx + 1, 1, none⟩) (show bx ≠ bx + 1 by omega) (.int .u64 u.b)
                have hbeZ := (hbe.setCell (show W0.heap.size ≤ bx + 1 by omega) (p := ⟨bx + 1, 0, none⟩) (.int .i64 u.k)).setCell (show W0.heap.size ≤ bx + 1 by omega) (p := ⟨bx + 1, 1, none⟩) (.int .u64 u.b)
                have hb3Z := (hb3.setCell (show w3.heap.size ≤ bx + 1 by omega) (p := ⟨bx + 1, 0, none⟩) (.int .i64 u.k)).setCell (show w3.heap.size ≤ bx + 1 by omega) (p := ⟨bx + 1, 1, none⟩) (.int .u64 u.b)
                have howZ : ((w12.setCell ⟨bx + 1, 0, none⟩ (.int .i64 u.k)).setCell ⟨bx + 1, 1, none⟩ (.int .u64 u.b)).ownsRow (w3.heap.size + 1) 31 2 (.slice Av k cv) k (((dl1.take k).map (lookV li l1)).flatMap V.cells) := ownsRow_setCell_other (ownsRow_setCell_other hown (fun e => HOB.out (bx + 1) e (by omega)) _) (fun e => HOB.out (bx + 1) e (by omega)) _
                simp at v0 v1
                clear kc kd kx kv hbe hb3 hown
                rw [hdv]
                go_wp2_with fail
                go_roundw
                case rel => exact ⟨q, u, by omega, by go_num, hbeZ, hb3Z, kcZ, kdZ, kxZ, howZ, kvZ, hv2⟩
                case measure => first | (simp [intOf]; done) | (simp [intOf]; omega)
              · as_aux_lemma =>
                have hv2 : Hid (v = lookV (li.drop q) (l1.drop q) x) := Lib.hid (by
                  rw [hvv.out, show l1.drop q = [] from List.drop_eq_nil_of_le (by rw [HNV.out]; omega), show l1.drop (q + 1) = [] from List.drop_eq_nil_of_le (by rw [HNV.out]; omega)]
                  cases li.drop q <;> cases li.drop (q + 1) <;> rfl)
                go_upto_region 12 with fail
                refine wp_region_b (by kernel_rfl) (fun qk => (dpR12t x y bb oo bx n1 ci q nv c1 A1 W0).getD qk .any) (by kernel_rfl) ?_ ?_
                · refine BOk.cons rfl [] [2] rfl rfl (by kernel_rfl) (by kernel_rfl) (fun qK qa wr hB qO qF hK => ?_) ?_
                  · have e2 : qa.tmps[2]? = some (.pointer (some ⟨W0.heap.size, 0, none⟩)) := qO.1.trans rfl
                    clear qO qF
                    go_simp
                    exact hK _ _ (Below.refl _ _) rfl
                  refine BOk.cons rfl [0] [] rfl rfl (by kernel_rfl) (by kernel_rfl) (fun qK qa wr hB qO qF hK => ?_) ?_
                  · have e48 : qa.tmps[48]? = some (.pointer (some ⟨W0.heap.size, 2, none⟩)) := fis qF.1 rfl rfl
                    clear qO qF
                    have hc2 := (bcell hB _ _ (World.block_lt_of_cell? _ _ c2)).trans c2
                    go_simp
                    exact hK _ _ (Below.refl _ _) rfl
                  refine BOk.cons rfl [] [10] rfl rfl (by kernel_rfl) (by kernel_rfl) (fun qK qa wr hB qO qF hK => ?_) ?_
                  · have e10 : qa.tmps[10]? = some (.int .i64 (q : Nat)) := qO.1.trans rfl
                    clear qO qF
                    go_simp
                    exact hK _ _ (Below.refl _ _) rfl
                  refine BOk.cons rfl [1, 2] [] rfl rfl (by kernel_rfl) (by kernel_rfl) (fun qK qa wr hB qO qF hK => ?_) ?_
                  · have e49 : qa.tmps[49]? = some (.slice (some ⟨bb, oo, none⟩) n1 ci) := fis qF.1 rfl rfl
                    have e50 : qa.tmps[50]? = some (.int .i64 (q : Nat)) := fis qF.2.1 rfl rfl
                    clear qO qF
                    go_simp
                    refine hK _ _ (Below.refl _ _) ?_
                    show (_ : Value) = _
                    first | rfl | (simp; done) | (simp; omega)
                  refine BOk.cons rfl [3] [] rfl rfl (by kernel_rfl) (by kernel_rfl) (fun qK qa wr hB qO qF hK => ?_) ?_
                  · have e51 : qa.tmps[51]? = some (.pointer (some ⟨bb, oo + q * 4, none⟩)) := fis qF.1 rfl rfl
                    clear qO qF
                    have hy0 := (bcell hB _ _ (World.block_lt_of_cell? _ _ y0)).trans y0
                    have hy1 := (bcell hB _ _ (World.block_lt_of_cell? _ _ y1)).trans y1
                    have hy2 := (bcell hB _ _ (World.block_lt_of_cell? _ _ y2)).trans y2
                    have hy3 := (bcell hB _ _ (World.block_lt_of_cell? _ _ y3)).trans y3
                    go_simp
                    exact hK _ _ (Below.refl _ _) rfl
                  refine BOk.cons rfl [] [8] rfl rfl (by kernel_rfl) (by kernel_rfl) (fun qK qa wr hB qO qF hK => ?_) ?_
                  · have e8 : qa.tmps[8]? = some (.pointer (some ⟨bx, 0, none⟩)) := qO.1.trans rfl
                    clear qO qF
                    have hz0 := (bcell hB _ _ (World.block_lt_of_cell? _ _ z0)).trans z0
                    have hz1 := (bcell hB _ _ (World.block_lt_of_cell? _ _ z1)).trans z1
                    have hz2 := (bcell hB _ _ (World.block_lt_of_cell? _ _ z2)).trans z2
                    have hz3 := (bcell hB _ _ (World.block_lt_of_cell? _ _ z3)).trans z3
                    go_simp
                    exact hK _ _ (Below.refl _ _) rfl
                  refine BOk.cons rfl [4, 5] [] rfl rfl (by kernel_rfl) (by kernel_rfl) (fun qK qa wr hB qO qF hK => ?_) ?_
                  · have e52 : qa.tmps[52]? = some (.agg #[.int .i64 y.op, .int .i64 y.kind, .int .i64 y.pos, .int .i64 y.attr]) := fis qF.1 rfl rfl
                    have e53 : qa.tmps[53]? = some (.agg #[.int .i64 x.op, .int .i64 x.kind, .int .i64 x.pos, .int .i64 x.attr]) := fis qF.2.1 rfl rfl
                    clear qO qF
                    go_simp
                    refine hK _ _ (Below.refl _ _) ?_
                    show (_ : Value) = _
                    first | rfl | (simp; done) | (simp; omega)
                  refine BOk.cons rfl [6] [] rfl rfl (by kernel_rfl) (by kernel_rfl) (fun qK qa wr hB qO qF hK => ?_) ?_
                  · have e54 : qa.tmps[54]? = some (.bool true) := fis qF.1 rfl rfl
                    clear qO qF
                    go_simp
                    exact hK _ _ (Below.refl _ _) (by first | rfl | (show (_ : Value) = _; simp_all; done))
                  refine BOk.yes rfl [] [10] rfl 7 true rfl rfl rfl (by kernel_rfl) (by kernel_rfl) (by kernel_rfl) (fun qK qa wr hB qO qF hK => ?_) ?_
                  · have e10 : qa.tmps[10]? = some (.int .i64 (q : Nat)) := qO.1.trans rfl
                    clear qO qF
                    go_simp
                    exact hK _ _ (Below.refl _ _) rfl
                  refine BOk.yes rfl [] [1] rfl 7 true rfl rfl rfl (by kernel_rfl) (by kernel_rfl) (by kernel_rfl) (fun qK qa wr hB qO qF hK => ?_) ?_
                  · have e1 : qa.tmps[1]? = some (.slice A1 nv c1) := qO.1.trans rfl
                    clear qO qF
                    go_simp
                    exact hK _ _ (Below.refl _ _) rfl
                  refine BOk.yes rfl [9] [] rfl 7 true rfl rfl rfl (by kernel_rfl) (by kernel_rfl) (by kernel_rfl) (fun qK qa wr hB qO qF hK => ?_) ?_
                  · have e57 : qa.tmps[57]? = some (.slice A1 nv c1) := fis qF.1 rfl rfl
                    clear qO qF
                    go_simp
                    exact hK _ _ (Below.refl _ _) rfl
                  refine BOk.yes rfl [8, 10] [] rfl 7 true rfl rfl rfl (by kernel_rfl) (by kernel_rfl) (by kernel_rfl) (fun qK qa wr hB qO qF hK => ?_) ?_
                  · have e56 : qa.tmps[56]? = some (.int .i64 (q : Nat)) := fis qF.1 rfl rfl
                    have e58 : qa.tmps[58]? = some (.int .i64 (nv : Nat)) := fis qF.2.1 rfl rfl
                    clear qO qF
                    go_simp
                    refine hK _ _ (Below.refl _ _) ?_
                    show (_ : Value) = _
                    first | rfl | (simp; done) | (simp; omega) | (congr 1; simp; done) | (congr 1; rw [decide_eq_decide]; omega) | exact congrArg Value.bool (nat_bne _ _) | exact congrArg Value.bool (nat_beq _ _)
                  refine BOk.cons rfl [7, 11] [] rfl rfl (by kernel_rfl) (by kernel_rfl) (fun qK qa wr hB qO qF hK => ?_) ?_
                  · have e55 : qa.tmps[55]? = some (.bool true) := fis qF.1 rfl rfl
                    have e59 : qa.tmps[59]? = some (.bool (decide ((q : Nat) < (nv : Nat)))) := fis qF.2.1 rfl rfl
                    clear qO qF
                    go_simp
                    refine hK _ _ (Below.refl _ _) ?_
                    show (_ : Value) = _
                    first | rfl | (simp; done) | (simp; omega)
                  exact BOk.nil
                intro vals wr hl hB hR
                match vals, hl with
                | [z48, z49, z50, z51, z52, z53, z54, z55, z56, z57, z58, z59, z60], _ =>
                have r12 : z60 = .bool (decide ((q : Nat) < (nv : Nat))) := hR 12 _ rfl
                subst r12
                clear hR
                simp only [List.cons_append, List.nil_append, putAll, Act.put, List.setIfInBounds_toArray, List.set_cons_zero, List.set_cons_succ]
                rename World => w12
                replace hbe := hbe.trans (hB.mono hbe.size)
                replace hb3 := hb3.trans (hB.mono hb3.size)
                replace kc := kc.old hB
                replace kd := kd.old hB
                replace kx := kx.old hB
                replace kv := kv.old hB
                replace hown := own_old hown hB
                clear hB c2 y0 y1 y2 y3 z0 z1 z2 z3 heq
                have hdv : decide ((q : Nat) < (nv : Nat)) = false := decide_eq_false hqv
                rw [hdv]
                go_wp2_with fail
                go_roundw
                case rel => exact ⟨q, v, by omega, by go_num, hbe, hb3, kc, kd, kx, hown, kv, hv2⟩
                case measure => first | (simp [intOf]; done) | (simp [intOf]; omega)
          | zero =>
            as_aux_lemma =>
            rw [show (((0 : Nat) : Int) - 1) = -1 from rfl]
            have hvx : v = lookV li l1 x := by simpa using hvv.out
            have v0 : wb.cell? ⟨bx + 1, 0, none⟩ = some (.int .i64 v.k) := kv.cell 0
            have v1 : wb.cell? ⟨bx + 1, 1, none⟩ = some (.int .u64 v.b) := kv.cell 1
            have hzb := kd.lt
            have HVX := Lib.hid hvx
            clear hvx hvv kv kx
            go_wp2_with (at_builtin; refine wpList_append_rd rfl _ _ 23 rfl (w3.heap.size + 1) 31 iV _ 2 16 Try.underlying23 hV hV0 hV1 hV2 rfl (by decide) (.slice Av k cv) k _ rfl (hown.alloc _) (wb.heap.size + 1) (some ⟨wb.heap.size, 0, none⟩) 1 1 [.int .i64 v.k, .int .u64 v.b] rfl (Rd.lit rfl _ _) rfl ?c2 ?c3 ?c4 ?c5 ?_)
            case c2 => intro u hu; simp at hu; rcases hu with rfl | rfl <;> rfl
            case c3 => unfold maxLen; omega
            case c4 => omega
            case c5 => simp; omega
            intro A9 c9 w9 hown9 hg9 _
            have kc9 := (kc.alloc (.cells #[.int .i64 v.k, .int .u64 v.b] 31)).grown hg9 (own_ne_bk hown kc (by decide))
            have kd9 := (kd.alloc (.cells #[.int .i64 v.k, .int .u64 v.b] 31)).grown hg9 (own_ne_bk hown kd (by decide))
            have hbe9 : Below W0.heap.size W0 w9 := below_own (hbe.alloc hbe.size _) (hown.alloc _) (by omega) hg9 (by simp; omega)
            have hb39 : Below w3.heap.size w3 w9 := below_own (hb3.alloc hb3.size _) (hown.alloc _) (by omega) hg9 (by simp; omega)
            have hown10 : w9.ownsRow (w3.heap.size + 1) 31 2 (.slice A9 (k + 1) c9) (k + 1) (((dl1.take (k + 1)).map (lookV li l1)).flatMap V.cells) := by rw [HNX.out, ← HVX.out, List.map_take]; exact hown9
            clear hown9 hg9 hown kc kd hbe hb3 v0 v1
            go_wp2
            go_roundw
            case rel => exact ⟨k + 1, A9, c9, by omega, by go_num, rfl, hbe9, hb39, kc9, kd9, hown10⟩
            case measure => simp [intOf]; omega
      · as_aux_lemma =>
        obtain rfl : m1 = k := by omega
        have hlv : wa.ownsRow (w3.heap.size + 1) 31 2 (.slice Av m1 cv) m1 ((leftL li l1 dl1).flatMap V.cells) := by
          rw [show dl1.take m1 = dl1 from List.take_of_length_le (by rw [HM1.out]; exact Nat.le_refl _)] at hown
          exact hown
        have HLV := Lib.hid (own_rd hlv)
        have c2 : wa.cell? ⟨W0.heap.size, 2, none⟩ = some (.slice Ai n1 ci) := kc.cell 2
        have hA : Below wa.heap.size wa wa := Below.refl _ _
        have KCA := Lib.hid kc
        have KDA := Lib.hid kd
        have HBA := Lib.hid hbe
        have HB3 := Lib.hid hb3
        clear hown hlv kc kd hbe hb3
        go_wp2_with fail
        clear c2
        go_loopw [11, 73] (fun fv i wr => ∃ (q : Nat) (fb : Bool), q ≤ n1 ∧ i = .int .i64 q ∧ fv = .bool fb ∧ Below wa.heap.size wa wr ∧ Hid (fb = (li.take q).all inB)) (fun _ i _ => n1 - (intOf i).toNat)
        case atStart => exact ⟨0, true, Nat.zero_le _, rfl, rfl, hA, Lib.hid (by simp)⟩
        case round =>
          rename World => wb
          clear hA
          obtain ⟨q, fb, hq, rfl, rfl, hA, hfb⟩ := hrel
          by_cases hqn : q < n1
          · as_aux_lemma =>
            have hql : q < li.length := by rw [HN1.out]; exact hqn
            obtain ⟨bb, oo, rfl, hb, hc⟩ := (HQ.out.ri.below (HBA.out.trans (hA.mono HBA.out.size))).elem (f := InputV.cells) (n := 4) (fun _ => rfl) (by omega) hql
            have hnx : (li.take (q + 1)).all inB = ((li.take q).all inB && inB li[q]) := by
              rw [List.take_succ_eq_append_getElem hql, List.all_append]; simp
            generalize li[q] = x at *
            have y0 : wb.cell? ⟨bb, oo + q * 4, none⟩ = some (.int .i64 x.op) := hc 0 _ rfl
            have y1 : wb.cell? ⟨bb, oo + q * 4 + 1, none⟩ = some (.int .i64 x.kind) := hc 1 _ rfl
            have y2 : wb.cell? ⟨bb, oo + q * 4 + 2, none⟩ = some (.int .i64 x.pos) := hc 2 _ rfl
            have y3 : wb.cell? ⟨bb, oo + q * 4 + 3, none⟩ = some (.int .i64 x.attr) := hc 3 _ rfl
            have hAx := hA.alloc hA.size (.cells #[.int .i64 x.op, .int .i64 x.kind, .int .i64 x.pos, .int .i64 x.attr] 39)
            rw [← hfb.out] at hnx
            have HNX := Lib.hid hnx
            clear hc hnx hfb hA
            cases fb with
            | true =>
              go_wp2_with fail
              refine (rin_any x _).mono ?_
              rintro e w9 ⟨rfl, hb9⟩
              have hA9 := hAx.trans (hb9.mono hAx.size)
              clear hb9 hAx y0 y1 y2 y3
              go_wp2_with fail
              go_roundw
              case rel => exact ⟨q + 1, inB x, by omega, by go_num, rfl, hA9, Lib.hid (by rw [HNX.out, Bool.true_and])⟩
              case measure => simp [intOf]; omega
            | false =>
              go_wp2_with fail
              go_roundw
              case rel => exact ⟨q + 1, false, by omega, by go_num, rfl, hAx, Lib.hid (by rw [HNX.out, Bool.false_and])⟩
              case measure => simp [intOf]; omega
          · as_aux_lemma =>
            obtain rfl : n1 = q := by omega
            have hfa : Hid (fb = li.all inB) := Lib.hid (by rw [hfb.out, show li.take n1 = li from List.take_of_length_le (by rw [HN1.out]; exact Nat.le_refl _)])
            have c3 : wb.cell? ⟨W0.heap.size, 3, none⟩ = some (.slice Ak n2 ck) := (KCA.out.old hA).cell 3
            clear hfb
            go_wp2_with fail
            clear c3
            go_loopw [11, 86] (fun fv i wr => ∃ (q2 : Nat) (fc : Bool), q2 ≤ n2 ∧ i = .int .i64 q2 ∧ fv = .bool fc ∧ Below wa.heap.size wa wr ∧ Hid (fc = (fb && (lk.take q2).all cleanB))) (fun _ i _ => n2 - (intOf i).toNat)
            case atStart => exact ⟨0, fb, Nat.zero_le _, rfl, rfl, hA, Lib.hid (by simp)⟩
            case round =>
              rename World => wc
              clear hA
              obtain ⟨q2, fc, hq2, rfl, rfl, hA, hfc⟩ := hrel
              by_cases hqn2 : q2 < n2
              · as_aux_lemma =>
                have hql : q2 < lk.length := by rw [HN2.out]; exact hqn2
                obtain ⟨bb, oo, rfl, hb, hc⟩ := (HQ.out.rk.below (HBA.out.trans (hA.mono HBA.out.size))).elem (f := V.cells) (n := 2) (fun _ => rfl) (by omega) hql
                have hnx : (fb && (lk.take (q2 + 1)).all cleanB) = ((fb && (lk.take q2).all cleanB) && cleanB lk[q2]) := by
                  rw [List.take_succ_eq_append_getElem hql, List.all_append, Bool.and_assoc]; simp
                have hxf := HQ.out.fk lk[q2] (List.getElem_mem hql)
                generalize lk[q2] = x at *
                have y0 : wc.cell? ⟨bb, oo + q2 * 2, none⟩ = some (.int .i64 x.k) := hc 0 _ rfl
                have y1 : wc.cell? ⟨bb, oo + q2 * 2 + 1, none⟩ = some (.int .u64 x.b) := hc 1 _ rfl
                have hAx := hA.alloc hA.size (.cells #[.int .i64 x.k, .int .u64 x.b] 31)
                have kz := Bk.new wc 31 #[.int .i64 x.k, .int .u64 x.b]
                have z0 : (wc.alloc (.cells #[.int .i64 x.k, .int .u64 x.b] 31)).cell? ⟨wc.heap.size, 0, none⟩ = some (.int .i64 x.k) := kz.cell 0
                have z1 : (wc.alloc (.cells #[.int .i64 x.k, .int .u64 x.b] 31)).cell? ⟨wc.heap.size, 1, none⟩ = some (.int .u64 x.b) := kz.cell 1
                rw [← hfc.out] at hnx
                have HNX := Lib.hid hnx
                obtain ⟨e, he⟩ : ∃ e, cleanB x = e := ⟨_, rfl⟩
                have heq : ∀ w : World, (binOp .eql 33 (.agg #[.int .i64 (clean x).k, .int .u64 (clean x).b]) (.agg #[.int .i64 x.k, .int .u64 x.b])).run Try.prog w = .ok (.bool e) w := fun w => by rw [eql_RR, ← he]; rfl
                have hcl : ∀ w', Calls Try.prog 17 #[.agg #[.int .i64 x.k, .int .u64 x.b]] w' fun e w2 => e = .returned (.agg #[.int .i64 (clean x).k, .int .u64 (clean x).b]) ∧ Below w'.heap.size w' w2 := fun w' => rclean_any x hxf w'
                have HCL := Lib.hid hcl
                have HE := Lib.hid he
                clear hc hnx hfc hA hcl he hxf kz
                cases fc with
                | true =>
                  go_upto_region 25 with fail
                  refine wp_region_t 7 (fun k => false) (by kernel_rfl) (fun qk => (dpR25t x wc.heap.size e).getD qk .any) (by kernel_rfl) ?_ ?_
                  · refine BOk.consN rfl [] [11] rfl rfl (by kernel_rfl) (by kernel_rfl) (fun qK qa wr hB qO qF hK => ?_) ?_
                    · have e11 : qa.tmps[11]? = some (.bool true) := qO.1.trans rfl
                      clear qO qF
                      go_simp
                      exact hK _ _ (Below.refl _ _) (by first | rfl | (show (_ : Value) = _; simp_all; done))
                    refine BOk.cons rfl [0] [] rfl rfl (by kernel_rfl) (by kernel_rfl) (fun qK qa wr hB qO qF hK => ?_) ?_
                    · have e90 : qa.tmps[90]? = some (.bool true) := fis qF.1 rfl rfl
                      clear qO qF
                      go_simp
                      exact hK _ _ (Below.refl _ _) (by first | rfl | (show (_ : Value) = _; simp_all; done))
                    refine BOk.yes rfl [] [15] rfl 1 true rfl rfl rfl (by kernel_rfl) (by kernel_rfl) (by kernel_rfl) (fun qK qa wr hB qO qF hK => ?_) ?_
                    · have e15 : qa.tmps[15]? = some (.pointer (some ⟨wc.heap.size, 0, none⟩)) := qO.1.trans rfl
                      clear qO qF
                      have hz0 := (bcell hB _ _ (World.block_lt_of_cell? _ _ z0)).trans z0
                      have hz1 := (bcell hB _ _ (World.block_lt_of_cell? _ _ z1)).trans z1
                      go_simp
                      exact hK _ _ (Below.refl _ _) rfl
                    refine BOk.yes rfl [2] [] rfl 1 true rfl rfl rfl (by kernel_rfl) (by kernel_rfl) (by kernel_rfl) (fun qK qa wr hB qO qF hK => ?_) ?_
                    · have e92 : qa.tmps[92]? = some (.agg #[.int .i64 x.k, .int .u64 x.b]) := fis qF.1 rfl rfl
                      clear qO qF
                      go_simp
                      go_at_call 17
                      refine (HCL.out _).mono ?_
                      rintro e2 w2 ⟨rfl, hb2⟩
                      exact hK _ _ hb2 rfl
                    refine BOk.yes rfl [] [15] rfl 1 true rfl rfl rfl (by kernel_rfl) (by kernel_rfl) (by kernel_rfl) (fun qK qa wr hB qO qF hK => ?_) ?_
                    · have e15 : qa.tmps[15]? = some (.pointer (some ⟨wc.heap.size, 0, none⟩)) := qO.1.trans rfl
                      clear qO qF
                      have hz0 := (bcell hB _ _ (World.block_lt_of_cell? _ _ z0)).trans z0
                      have hz1 := (bcell hB _ _ (World.block_lt_of_cell? _ _ z1)).trans z1
                      go_simp
                      exact hK _ _ (Below.refl _ _) rfl
                    refine BOk.yes rfl [3, 4] [] rfl 1 true rfl rfl rfl (by kernel_rfl) (by kernel_rfl) (by kernel_rfl) (fun qK qa wr hB qO qF hK => ?_) ?_
                    · have e93 : qa.tmps[93]? = some (.agg #[.int .i64 (clean x).k, .int .u64 (clean x).b]) := fis qF.1 rfl rfl
                      have e94 : qa.tmps[94]? = some (.agg #[.int .i64 x.k, .int .u64 x.b]) := fis qF.2.1 rfl rfl
                      clear qO qF
                      go_simp
                      refine hK _ _ (Below.refl _ _) ?_
                      show (_ : Value) = _
                      first | rfl | (simp; done) | (simp; omega)
                    refine BOk.cons rfl [1, 5] [] rfl rfl (by kernel_rfl) (by kernel_rfl) (fun qK qa wr hB qO qF hK => ?_) ?_
                    · have e91 : qa.tmps[91]? = some (.bool true) := fis qF.1 rfl rfl
                      have e95 : qa.tmps[95]? = some (.bool e) := fis qF.2.1 rfl rfl
                      clear qO qF
                      go_simp
                      refine hK _ _ (Below.refl _ _) ?_
                      show (_ : Value) = _
                      first | rfl | (simp; done) | (simp; omega)
                    exact BOk.nil
                  intro vals wr hl hB hR hS
                  match vals, hl with
                  | [z90, z91, z92, z93, z94, z95, z96], _ =>
                  have r6 : z96 = .bool e := hR 6 _ rfl
                  subst r6
                  clear hS
                  clear hR
                  simp only [List.take_succ_cons, List.take_zero, List.drop_succ_cons, List.drop_zero, List.toList_toArray, List.cons_append, List.nil_append, putAll, Act.put, List.setIfInBounds_toArray, List.set_cons_zero, List.set_cons_succ]
                  have hA9 := hAx.trans (hB.mono hAx.size)
                  clear hB hAx y0 y1 z0 z1 HCL heq
                  go_wp2_with fail
                  go_roundw
                  case rel => exact ⟨q2 + 1, e, by omega, by go_num, rfl, hA9, Lib.hid (by rw [HNX.out, Bool.true_and, HE.out])⟩
                  case measure => simp [intOf]; omega
                | false =>
                  go_upto_region 25 with fail
                  refine wp_region_t 7 (fun k => false) (by kernel_rfl) (fun qk => (dpR25f x wc.heap.size e).getD qk .any) (by kernel_rfl) ?_ ?_
                  · refine BOk.consN rfl [] [11] rfl rfl (by kernel_rfl) (by kernel_rfl) (fun qK qa wr hB qO qF hK => ?_) ?_
                    · have e11 : qa.tmps[11]? = some (.bool false) := qO.1.trans rfl
                      clear qO qF
                      go_simp
                      exact hK _ _ (Below.refl _ _) (by first | rfl | (show (_ : Value) = _; simp_all; done))
                    refine BOk.cons rfl [0] [] rfl rfl (by kernel_rfl) (by kernel_rfl) (fun qK qa wr hB qO qF hK => ?_) ?_
                    · have e90 : qa.tmps[90]? = some (.bool false) := fis qF.1 rfl rfl
                      clear qO qF
                      go_simp
                      exact hK _ _ (Below.refl _ _) (by first | rfl | (show (_ : Value) = _; simp_all; done))
                    refine BOk.no rfl rfl 1 true rfl rfl rfl (by kernel_rfl) (fun _ => rfl) ?_
                    refine BOk.no rfl rfl 1 true rfl rfl rfl (by kernel_rfl) (fun _ => rfl) ?_
                    refine BOk.no rfl rfl 1 true rfl rfl rfl (by kernel_rfl) (fun _ => rfl) ?_
                    refine BOk.no rfl rfl 1 true rfl rfl rfl (by kernel_rfl) (fun _ => rfl) ?_
                    refine BOk.cons rfl [1] [] rfl rfl (by kernel_rfl) (by kernel_rfl) (fun qK qa wr hB qO qF hK => ?_) ?_
                    · have e91 : qa.tmps[91]? = some (.bool false) := fis qF.1 rfl rfl
                      clear qO qF
                      go_simp
                      refine hK _ _ (Below.refl _ _) ?_
                      show (_ : Value) = _
                      first | rfl | (simp; done) | (simp; omega)
                    exact BOk.nil
                  intro vals wr hl hB hR hS
                  match vals, hl with
                  | [z90, z91, z92, z93, z94, z95, z96], _ =>
                  have r6 : z96 = .bool false := hR 6 _ rfl
                  subst r6
                  clear hS
                  clear hR
                  simp only [List.take_succ_cons, List.take_zero, List.drop_succ_cons, List.drop_zero, List.toList_toArray, List.cons_append, List.nil_append, putAll, Act.put, List.setIfInBounds_toArray, List.set_cons_zero, List.set_cons_succ]
                  have hA9 := hAx.trans (hB.mono hAx.size)
                  clear hB hAx y0 y1 z0 z1 HCL heq
                  go_wp2_with fail
                  go_roundw
                  case rel => exact ⟨q2 + 1, false, by omega, by go_num, rfl, hA9, Lib.hid (by rw [HNX.out, Bool.false_and])⟩
                  case measure => simp [intOf]; omega
              · as_aux_lemma =>
                obtain rfl : n2 = q2 := by omega
                have hfin : fc = (li.all inB && lk.all cleanB) := by
                  rw [hfc.out, hfa.out, show lk.take n2 = lk from List.take_of_length_le (by rw [HN2.out]; exact Nat.le_refl _)]
                have hwb := HBA.out.trans (hA.mono HBA.out.size)
                have hw3 := HB3.out.trans (hA.mono HB3.out.size)
                have hgo2 : ∀ w', Below W0.heap.size W0 w' → Calls Try.prog 12 #[.agg #[.int .i64 nr, .int .i64 ns, .slice Ai n1 ci, .slice Ak n2 ck, .slice Al n cl]] w' fun e w2 => e = .returned (.bool fc) ∧ Below w'.heap.size w' w2 := fun w' hw => by
                  have := HGO.out w' hw (by have : ll.length ≤ 1024 := hsm; omega)
                  rw [HGD.out, ← hfin] at this
                  exact this
                obtain ⟨p0, hp0⟩ : ∃ p0 : Bool, (p0 = false ↔ Once li) := by
                  by_cases h : Once li
                  · exact ⟨false, fun _ => h, fun _ => rfl⟩
                  · exact ⟨true, fun h2 => (by cases h2), fun h2 => absurd h2 h⟩
                have htw2 : ∀ w', Below W0.heap.size W0 w' → Calls Try.prog 18 #[.agg #[.int .i64 nr, .int .i64 ns, .slice Ai n1 ci, .slice Ak n2 ck, .slice Al n cl]] w' fun e w2 => e = .returned (.bool p0) ∧ Below w'.heap.size w' w2 := fun w' hw => by
                  refine (HTW.out w' hw).mono ?_
                  rintro e w2 ⟨p, rfl, hp, hb⟩
                  refine ⟨?_, hb⟩
                  have hp : p = false ↔ Once li := hp
                  have : p = p0 := by
                    cases p <;> cases p0 <;> first | rfl | (exfalso; have h1 := hp0.2 (hp.1 rfl); cases h1) | (exfalso; have h1 := hp.2 (hp0.1 rfl); cases h1)
                  rw [this]
                have HGO2 := Lib.hid hgo2
                have HTW2 := Lib.hid htw2
                have HWB := Lib.hid hwb
                have kcx := KCA.out.old hA
                have kdx := KDA.out.old hA
                have k0 : wc.cell? ⟨W0.heap.size, 0, none⟩ = some (.int .i64 nr) := kcx.cell 0
                have k1 : wc.cell? ⟨W0.heap.size, 1, none⟩ = some (.int .i64 ns) := kcx.cell 1
                have k2 : wc.cell? ⟨W0.heap.size, 2, none⟩ = some (.slice Ai n1 ci) := kcx.cell 2
                have k3 : wc.cell? ⟨W0.heap.size, 3, none⟩ = some (.slice Ak n2 ck) := kcx.cell 3
                have k4 : wc.cell? ⟨W0.heap.size, 4, none⟩ = some (.slice Al n cl) := kcx.cell 4
                have h0 : wc.cell? ⟨w3.heap.size, 0, none⟩ = some (.int .i64 dn) := kdx.cell 0
                have h1 : wc.cell? ⟨w3.heap.size, 1, none⟩ = some (.int .i64 ds) := kdx.cell 1
                have h2 : wc.cell? ⟨w3.heap.size, 2, none⟩ = some (.slice Di m1 di) := kdx.cell 2
                have h3 : wc.cell? ⟨w3.heap.size, 3, none⟩ = some (.slice Dk m2 dk) := kdx.cell 3
                have h4 : wc.cell? ⟨w3.heap.size, 4, none⟩ = some (.slice Dl m3 dl) := kdx.cell 4
                cases p0 with
                | true =>
                  clear hgo2 htw2 hwb kcx kdx hfin hp0 HDO HTL
                  go_upto_region 27 with fail
                  refine wp_region_b (by kernel_rfl) (fun qk => (dpR27t nr ns dn ds Ai Ak Al Di Dk Dl A1 Av n1 n2 n ci ck cl m1 m2 m3 di dk dl nv c1 cv none0 fc W0 w3).getD qk .any) (by kernel_rfl) ?_ ?_
                  · refine BOk.cons rfl [] [2] rfl rfl (by kernel_rfl) (by kernel_rfl) (fun qK qa wr hB qO qF hK => ?_) ?_
                    · have e2 : qa.tmps[2]? = some (.pointer (some ⟨W0.heap.size, 0, none⟩)) := qO.1.trans rfl
                      clear qO qF
                      have hk0 := (bcell hB _ _ (World.block_lt_of_cell? _ _ k0)).trans k0
                      have hk1 := (bcell hB _ _ (World.block_lt_of_cell? _ _ k1)).trans k1
                      have hk2 := (bcell hB _ _ (World.block_lt_of_cell? _ _ k2)).trans k2
                      have hk3 := (bcell hB _ _ (World.block_lt_of_cell? _ _ k3)).trans k3
                      have hk4 := (bcell hB _ _ (World.block_lt_of_cell? _ _ k4)).trans k4
                      go_simp
                      exact hK _ _ (Below.refl _ _) rfl
                    refine BOk.cons rfl [0] [] rfl rfl (by kernel_rfl) (by kernel_rfl) (fun qK qa wr hB qO qF hK => ?_) ?_
                    · have e98 : qa.tmps[98]? = some (.agg #[.int .i64 nr, .int .i64 ns, .slice Ai n1 ci, .slice Ak n2 ck, .slice Al n cl]) := fis qF.1 rfl rfl
                      clear qO qF
                      go_simp
                      go_at_call 18
                      refine (HTW2.out _ (HWB.out.trans (hB.mono HWB.out.size))).mono ?_
                      rintro e w2 ⟨rfl, hb2⟩
                      exact hK _ _ hb2 rfl
                    refine BOk.cons rfl [1] [] rfl rfl (by kernel_rfl) (by kernel_rfl) (fun qK qa wr hB qO qF hK => ?_) ?_
                    · have e99 : qa.tmps[99]? = some (.bool true) := fis qF.1 rfl rfl
                      clear qO qF
                      go_simp
                      exact hK _ _ (Below.refl _ _) (by first | rfl | (show (_ : Value) = _; simp_all; done))
                    refine BOk.no rfl rfl 2 false rfl rfl rfl (by kernel_rfl) (fun _ => rfl) ?_
                    refine BOk.no rfl rfl 2 false rfl rfl rfl (by kernel_rfl) (fun _ => rfl) ?_
                    refine BOk.no rfl rfl 2 false rfl rfl rfl (by kernel_rfl) (fun _ => rfl) ?_
                    refine BOk.no rfl rfl 2 false rfl rfl rfl (by kernel_rfl) (fun _ => rfl) ?_
                    refine BOk.no rfl rfl 2 false rfl rfl rfl (by kernel_rfl) (fun _ => rfl) ?_
                    refine BOk.no rfl rfl 2 false rfl rfl rfl (by kernel_rfl) (fun _ => rfl) ?_
                    refine BOk.no rfl rfl 2 false rfl rfl rfl (by kernel_rfl) (fun _ => rfl) ?_
                    refine BOk.cons rfl [2] [] rfl rfl (by kernel_rfl) (by kernel_rfl) (fun qK qa wr hB qO qF hK => ?_) ?_
                    · have e100 : qa.tmps[100]? = some (.bool true) := fis qF.1 rfl rfl
                      clear qO qF
                      go_simp
                      refine hK _ _ (Below.refl _ _) ?_
                      show (_ : Value) = _
                      first | rfl | (simp; done) | (simp; omega)
                    refine BOk.cons rfl [10] [] rfl rfl (by kernel_rfl) (by kernel_rfl) (fun qK qa wr hB qO qF hK => ?_) ?_
                    · have e108 : qa.tmps[108]? = some (.bool true) := fis qF.1 rfl rfl
                      clear qO qF
                      go_simp
                      exact hK _ _ (Below.refl _ _) (by first | rfl | (show (_ : Value) = _; simp_all; done))
                    refine BOk.yes rfl [] [2] rfl 11 true rfl rfl rfl (by kernel_rfl) (by kernel_rfl) (by kernel_rfl) (fun qK qa wr hB qO qF hK => ?_) ?_
                    · have e2 : qa.tmps[2]? = some (.pointer (some ⟨W0.heap.size, 0, none⟩)) := qO.1.trans rfl
                      clear qO qF
                      have hk0 := (bcell hB _ _ (World.block_lt_of_cell? _ _ k0)).trans k0
                      have hk1 := (bcell hB _ _ (World.block_lt_of_cell? _ _ k1)).trans k1
                      have hk2 := (bcell hB _ _ (World.block_lt_of_cell? _ _ k2)).trans k2
                      have hk3 := (bcell hB _ _ (World.block_lt_of_cell? _ _ k3)).trans k3
                      have hk4 := (bcell hB _ _ (World.block_lt_of_cell? _ _ k4)).trans k4
                      go_simp
                      exact hK _ _ (Below.refl _ _) rfl
                    refine BOk.yes rfl [12] [] rfl 11 true rfl rfl rfl (by kernel_rfl) (by kernel_rfl) (by kernel_rfl) (fun qK qa wr hB qO qF hK => ?_) ?_
                    · have e110 : qa.tmps[110]? = some (.agg #[.int .i64 nr, .int .i64 ns, .slice Ai n1 ci, .slice Ak n2 ck, .slice Al n cl]) := fis qF.1 rfl rfl
                      clear qO qF
                      go_simp
                      go_at_call 12
                      refine (HGO2.out _ (HWB.out.trans (hB.mono HWB.out.size))).mono ?_
                      rintro e w2 ⟨rfl, hb2⟩
                      exact hK _ _ hb2 rfl
                    refine BOk.yes rfl [] [11] rfl 11 true rfl rfl rfl (by kernel_rfl) (by kernel_rfl) (by kernel_rfl) (fun qK qa wr hB qO qF hK => ?_) ?_
                    · have e11 : qa.tmps[11]? = some (.bool fc) := qO.1.trans rfl
                      clear qO qF
                      go_simp
                      exact hK _ _ (Below.refl _ _) (by first | rfl | (show (_ : Value) = _; simp_all; done))
                    refine BOk.yes rfl [13, 14] [] rfl 11 true rfl rfl rfl (by kernel_rfl) (by kernel_rfl) (by kernel_rfl) (fun qK qa wr hB qO qF hK => ?_) ?_
                    · have e111 : qa.tmps[111]? = some (.bool fc) := fis qF.1 rfl rfl
                      have e112 : qa.tmps[112]? = some (.bool fc) := fis qF.2.1 rfl rfl
                      clear qO qF
                      go_simp
                      refine hK _ _ (Below.refl _ _) ?_
                      show (_ : Value) = _
                      first | rfl | (simp; done) | (simp; omega)
                    refine BOk.cons rfl [11, 15] [] rfl rfl (by kernel_rfl) (by kernel_rfl) (fun qK qa wr hB qO qF hK => ?_) ?_
                    · have e109 : qa.tmps[109]? = some (.bool true) := fis qF.1 rfl rfl
                      have e113 : qa.tmps[113]? = some (.bool true) := fis qF.2.1 rfl rfl
                      clear qO qF
                      go_simp
                      refine hK _ _ (Below.refl _ _) ?_
                      show (_ : Value) = _
                      first | rfl | (simp; done) | (simp; omega)
                    refine BOk.cons rfl [16] [] rfl rfl (by kernel_rfl) (by kernel_rfl) (fun qK qa wr hB qO qF hK => ?_) ?_
                    · have e114 : qa.tmps[114]? = some (.bool true) := fis qF.1 rfl rfl
                      clear qO qF
                      go_simp
                      exact hK _ _ (Below.refl _ _) (by first | rfl | (show (_ : Value) = _; simp_all; done))
                    exact BOk.nil
                  intro vals wr hl hB hR
                  match vals, hl with
                  | [z98, z99, z100, z101, z102, z103, z104, z105, z106, z107, z108, z109, z110, z111, z112, z113, z114, z4], _ =>
                  have r17 : z4 = .bool true := hR 17 _ rfl
                  subst r17
                  clear hR
                  simp only [List.cons_append, List.nil_append, putAll, Act.put, List.setIfInBounds_toArray, List.set_cons_zero, List.set_cons_succ]
                  have hbe9 := HWB.out.trans (hB.mono HWB.out.size)
                  clear hB HWB HGO2 HTW2 k0 k1 k2 k3 k4 h0 h1 h2 h3 h4
                  go_wp2_with fail
                  go_ret
                  exact ⟨rfl, hbe9⟩
                | false =>
                  have hon := hp0.1 rfl
                  obtain ⟨Y, hY⟩ : ∃ Y, runV ⟨nr, ns, Ai, ci, li, Ak, ck, lk, Al, cl, ll⟩ l1 = Y := ⟨_, rfl⟩
                  have hY2 := (HTL.out hon).symm.trans hY
                  have hrc : ∀ w', Below wc.heap.size wc w' → Calls Try.prog 9 #[.agg #[.int .i64 nr, .int .i64 ns, .slice Ai n1 ci, .slice Ak n2 ck, .slice Al n cl], .slice A1 nv c1] w' fun e w2 => e = .returned (.agg #[.int .i64 Y.k, .int .u64 Y.b]) ∧ Below w'.heap.size w' w2 := fun w' hw => by
                    have hb := HWB.out.trans (hw.mono HWB.out.size)
                    have := run_any ⟨nr, ns, Ai, ci, li, Ak, ck, lk, Al, cl, ll⟩ A1 c1 l1 w' (HQ.out.old hb) ((HR1.out.below hb).more hb.size) HQ1.out (by rw [HNV.out]; exact hl1)
                    rw [hY] at this
                    simp only [CodeV.val] at this
                    rw [HN1.out, HN2.out, HN.out, HNV.out] at this
                    exact this
                  have hrd2 : ∀ w', Below wc.heap.size wc w' → Calls Try.prog 9 #[.agg #[.int .i64 dn, .int .i64 ds, .slice Di m1 di, .slice Dk m2 dk, .slice Dl m3 dl], .slice Av m1 cv] w' fun e w2 => e = .returned (.agg #[.int .i64 Y.k, .int .u64 Y.b]) ∧ Below w'.heap.size w' w2 := fun w' hw => by
                    have hb := hw3.trans (hw.mono hw3.size)
                    have hbA := hA.trans (hw.mono hA.size)
                    have hll : (leftL li l1 dl1).length = m1 := by unfold leftL; rw [List.length_map, HM1.out]
                    have := run_any ⟨dn, ds, Di, di, dl1, Dk, dk, dl2, Dl, dl, dl3⟩ Av cv (leftL li l1 dl1) w' (HDO.out.old hb) ((HLV.out.below hbA).more hbA.size) (fun x hx => by
                      obtain ⟨y, _, rfl⟩ := List.mem_map.1 hx
                      exact lookV_fits HQ1.out) (by rw [hll]; omega)
                    rw [hY2] at this
                    simp only [CodeV.val] at this
                    rw [HM1.out, HM2.out, HM3.out, hll] at this
                    exact this
                  have HRC := Lib.hid hrc
                  have HRD2 := Lib.hid hrd2
                  have heq : ∀ w : World, (binOp .eql 31 (.agg #[.int .i64 Y.k, .int .u64 Y.b]) (.agg #[.int .i64 Y.k, .int .u64 Y.b])).run Try.prog w = .ok (.bool true) w := fun w => by rw [eql_VV]; exact congrArg (fun b => Result.ok (Value.bool b) w) (sameV_eq.2 rfl)
                  clear hgo2 htw2 hwb kcx kdx hfin hp0 HDO HTL hrc hrd2 hY hY2 hon hw3
                  go_upto_region 27 with fail
                  refine wp_region_b (by kernel_rfl) (fun qk => (dpR27f nr ns dn ds Ai Ak Al Di Dk Dl A1 Av n1 n2 n ci ck cl m1 m2 m3 di dk dl nv c1 cv Y fc W0 w3).getD qk .any) (by kernel_rfl) ?_ ?_
                  · refine BOk.cons rfl [] [2] rfl rfl (by kernel_rfl) (by kernel_rfl) (fun qK qa wr hB qO qF hK => ?_) ?_
                    · have e2 : qa.tmps[2]? = some (.pointer (some ⟨W0.heap.size, 0, none⟩)) := qO.1.trans rfl
                      clear qO qF
                      have hk0 := (bcell hB _ _ (World.block_lt_of_cell? _ _ k0)).trans k0
                      have hk1 := (bcell hB _ _ (World.block_lt_of_cell? _ _ k1)).trans k1
                      have hk2 := (bcell hB _ _ (World.block_lt_of_cell? _ _ k2)).trans k2
                      have hk3 := (bcell hB _ _ (World.block_lt_of_cell? _ _ k3)).trans k3
                      have hk4 := (bcell hB _ _ (World.block_lt_of_cell? _ _ k4)).trans k4
                      go_simp
                      exact hK _ _ (Below.refl _ _) rfl
                    refine BOk.cons rfl [0] [] rfl rfl (by kernel_rfl) (by kernel_rfl) (fun qK qa wr hB qO qF hK => ?_) ?_
                    · have e98 : qa.tmps[98]? = some (.agg #[.int .i64 nr, .int .i64 ns, .slice Ai n1 ci, .slice Ak n2 ck, .slice Al n cl]) := fis qF.1 rfl rfl
                      clear qO qF
                      go_simp
                      go_at_call 18
                      refine (HTW2.out _ (HWB.out.trans (hB.mono HWB.out.size))).mono ?_
                      rintro e w2 ⟨rfl, hb2⟩
                      exact hK _ _ hb2 rfl
                    refine BOk.cons rfl [1] [] rfl rfl (by kernel_rfl) (by kernel_rfl) (fun qK qa wr hB qO qF hK => ?_) ?_
                    · have e99 : qa.tmps[99]? = some (.bool false) := fis qF.1 rfl rfl
                      clear qO qF
                      go_simp
                      exact hK _ _ (Below.refl _ _) (by first | rfl | (show (_ : Value) = _; simp_all; done))
                    refine BOk.yes rfl [] [2] rfl 2 false rfl rfl rfl (by kernel_rfl) (by kernel_rfl) (by kernel_rfl) (fun qK qa wr hB qO qF hK => ?_) ?_
                    · have e2 : qa.tmps[2]? = some (.pointer (some ⟨W0.heap.size, 0, none⟩)) := qO.1.trans rfl
                      clear qO qF
                      have hk0 := (bcell hB _ _ (World.block_lt_of_cell? _ _ k0)).trans k0
                      have hk1 := (bcell hB _ _ (World.block_lt_of_cell? _ _ k1)).trans k1
                      have hk2 := (bcell hB _ _ (World.block_lt_of_cell? _ _ k2)).trans k2
                      have hk3 := (bcell hB _ _ (World.block_lt_of_cell? _ _ k3)).trans k3
                      have hk4 := (bcell hB _ _ (World.block_lt_of_cell? _ _ k4)).trans k4
                      go_simp
                      exact hK _ _ (Below.refl _ _) rfl
                    refine BOk.yes rfl [] [1] rfl 2 false rfl rfl rfl (by kernel_rfl) (by kernel_rfl) (by kernel_rfl) (fun qK qa wr hB qO qF hK => ?_) ?_
                    · have e1 : qa.tmps[1]? = some (.slice A1 nv c1) := qO.1.trans rfl
                      clear qO qF
                      go_simp
                      exact hK _ _ (Below.refl _ _) rfl
                    refine BOk.yes rfl [3, 4] [] rfl 2 false rfl rfl rfl (by kernel_rfl) (by kernel_rfl) (by kernel_rfl) (fun qK qa wr hB qO qF hK => ?_) ?_
                    · have e101 : qa.tmps[101]? = some (.agg #[.int .i64 nr, .int .i64 ns, .slice Ai n1 ci, .slice Ak n2 ck, .slice Al n cl]) := fis qF.1 rfl rfl
                      have e102 : qa.tmps[102]? = some (.slice A1 nv c1) := fis qF.2.1 rfl rfl
                      clear qO qF
                      go_simp
                      go_at_call 9
                      refine (HRC.out _ hB).mono ?_
                      rintro e w2 ⟨rfl, hb2⟩
                      exact hK _ _ hb2 rfl
                    refine BOk.yes rfl [] [5] rfl 2 false rfl rfl rfl (by kernel_rfl) (by kernel_rfl) (by kernel_rfl) (fun qK qa wr hB qO qF hK => ?_) ?_
                    · have e5 : qa.tmps[5]? = some (.pointer (some ⟨w3.heap.size, 0, none⟩)) := qO.1.trans rfl
                      clear qO qF
                      have hh0 := (bcell hB _ _ (World.block_lt_of_cell? _ _ h0)).trans h0
                      have hh1 := (bcell hB _ _ (World.block_lt_of_cell? _ _ h1)).trans h1
                      have hh2 := (bcell hB _ _ (World.block_lt_of_cell? _ _ h2)).trans h2
                      have hh3 := (bcell hB _ _ (World.block_lt_of_cell? _ _ h3)).trans h3
                      have hh4 := (bcell hB _ _ (World.block_lt_of_cell? _ _ h4)).trans h4
                      go_simp
                      exact hK _ _ (Below.refl _ _) rfl
                    refine BOk.yes rfl [] [6] rfl 2 false rfl rfl rfl (by kernel_rfl) (by kernel_rfl) (by kernel_rfl) (fun qK qa wr hB qO qF hK => ?_) ?_
                    · have e6 : qa.tmps[6]? = some (.slice Av m1 cv) := qO.1.trans rfl
                      clear qO qF
                      go_simp
                      exact hK _ _ (Below.refl _ _) rfl
                    refine BOk.yes rfl [6, 7] [] rfl 2 false rfl rfl rfl (by kernel_rfl) (by kernel_rfl) (by kernel_rfl) (fun qK qa wr hB qO qF hK => ?_) ?_
                    · have e104 : qa.tmps[104]? = some (.agg #[.int .i64 dn, .int .i64 ds, .slice Di m1 di, .slice Dk m2 dk, .slice Dl m3 dl]) := fis qF.1 rfl rfl
                      have e105 : qa.tmps[105]? = some (.slice Av m1 cv) := fis qF.2.1 rfl rfl
                      clear qO qF
                      go_simp
                      go_at_call 9
                      refine (HRD2.out _ hB).mono ?_
                      rintro e w2 ⟨rfl, hb2⟩
                      exact hK _ _ hb2 rfl
                    refine BOk.yes rfl [5, 8] [] rfl 2 false rfl rfl rfl (by kernel_rfl) (by kernel_rfl) (by kernel_rfl) (fun qK qa wr hB qO qF hK => ?_) ?_
                    · have e103 : qa.tmps[103]? = some (.agg #[.int .i64 Y.k, .int .u64 Y.b]) := fis qF.1 rfl rfl
                      have e106 : qa.tmps[106]? = some (.agg #[.int .i64 Y.k, .int .u64 Y.b]) := fis qF.2.1 rfl rfl
                      clear qO qF
                      go_simp
                      refine hK _ _ (Below.refl _ _) ?_
                      show (_ : Value) = _
                      first | rfl | (simp; done) | (simp; omega)
                    refine BOk.cons rfl [2, 9] [] rfl rfl (by kernel_rfl) (by kernel_rfl) (fun qK qa wr hB qO qF hK => ?_) ?_
                    · have e100 : qa.tmps[100]? = some (.bool false) := fis qF.1 rfl rfl
                      have e107 : qa.tmps[107]? = some (.bool true) := fis qF.2.1 rfl rfl
                      clear qO qF
                      go_simp
                      refine hK _ _ (Below.refl _ _) ?_
                      show (_ : Value) = _
                      first | rfl | (simp; done) | (simp; omega)
                    refine BOk.cons rfl [10] [] rfl rfl (by kernel_rfl) (by kernel_rfl) (fun qK qa wr hB qO qF hK => ?_) ?_
                    · have e108 : qa.tmps[108]? = some (.bool true) := fis qF.1 rfl rfl
                      clear qO qF
                      go_simp
                      exact hK _ _ (Below.refl _ _) (by first | rfl | (show (_ : Value) = _; simp_all; done))
                    refine BOk.yes rfl [] [2] rfl 11 true rfl rfl rfl (by kernel_rfl) (by kernel_rfl) (by kernel_rfl) (fun qK qa wr hB qO qF hK => ?_) ?_
                    · have e2 : qa.tmps[2]? = some (.pointer (some ⟨W0.heap.size, 0, none⟩)) := qO.1.trans rfl
                      clear qO qF
                      have hk0 := (bcell hB _ _ (World.block_lt_of_cell? _ _ k0)).trans k0
                      have hk1 := (bcell hB _ _ (World.block_lt_of_cell? _ _ k1)).trans k1
                      have hk2 := (bcell hB _ _ (World.block_lt_of_cell? _ _ k2)).trans k2
                      have hk3 := (bcell hB _ _ (World.block_lt_of_cell? _ _ k3)).trans k3
                      have hk4 := (bcell hB _ _ (World.block_lt_of_cell? _ _ k4)).trans k4
                      go_simp
                      exact hK _ _ (Below.refl _ _) rfl
                    refine BOk.yes rfl [12] [] rfl 11 true rfl rfl rfl (by kernel_rfl) (by kernel_rfl) (by kernel_rfl) (fun qK qa wr hB qO qF hK => ?_) ?_
                    · have e110 : qa.tmps[110]? = some (.agg #[.int .i64 nr, .int .i64 ns, .slice Ai n1 ci, .slice Ak n2 ck, .slice Al n cl]) := fis qF.1 rfl rfl
                      clear qO qF
                      go_simp
                      go_at_call 12
                      refine (HGO2.out _ (HWB.out.trans (hB.mono HWB.out.size))).mono ?_
                      rintro e w2 ⟨rfl, hb2⟩
                      exact hK _ _ hb2 rfl
                    refine BOk.yes rfl [] [11] rfl 11 true rfl rfl rfl (by kernel_rfl) (by kernel_rfl) (by kernel_rfl) (fun qK qa wr hB qO qF hK => ?_) ?_
                    · have e11 : qa.tmps[11]? = some (.bool fc) := qO.1.trans rfl
                      clear qO qF
                      go_simp
                      exact hK _ _ (Below.refl _ _) (by first | rfl | (show (_ : Value) = _; simp_all; done))
                    refine BOk.yes rfl [13, 14] [] rfl 11 true rfl rfl rfl (by kernel_rfl) (by kernel_rfl) (by kernel_rfl) (fun qK qa wr hB qO qF hK => ?_) ?_
                    · have e111 : qa.tmps[111]? = some (.bool fc) := fis qF.1 rfl rfl
                      have e112 : qa.tmps[112]? = some (.bool fc) := fis qF.2.1 rfl rfl
                      clear qO qF
                      go_simp
                      refine hK _ _ (Below.refl _ _) ?_
                      show (_ : Value) = _
                      first | rfl | (simp; done) | (simp; omega)
                    refine BOk.cons rfl [11, 15] [] rfl rfl (by kernel_rfl) (by kernel_rfl) (fun qK qa wr hB qO qF hK => ?_) ?_
                    · have e109 : qa.tmps[109]? = some (.bool true) := fis qF.1 rfl rfl
                      have e113 : qa.tmps[113]? = some (.bool true) := fis qF.2.1 rfl rfl
                      clear qO qF
                      go_simp
                      refine hK _ _ (Below.refl _ _) ?_
                      show (_ : Value) = _
                      first | rfl | (simp; done) | (simp; omega)
                    refine BOk.cons rfl [16] [] rfl rfl (by kernel_rfl) (by kernel_rfl) (fun qK qa wr hB qO qF hK => ?_) ?_
                    · have e114 : qa.tmps[114]? = some (.bool true) := fis qF.1 rfl rfl
                      clear qO qF
                      go_simp
                      exact hK _ _ (Below.refl _ _) (by first | rfl | (show (_ : Value) = _; simp_all; done))
                    exact BOk.nil
                  intro vals wr hl hB hR
                  match vals, hl with
                  | [z98, z99, z100, z101, z102, z103, z104, z105, z106, z107, z108, z109, z110, z111, z112, z113, z114, z4], _ =>
                  have r17 : z4 = .bool true := hR 17 _ rfl
                  subst r17
                  clear hR
                  simp only [List.cons_append, List.nil_append, putAll, Act.put, List.setIfInBounds_toArray, List.set_cons_zero, List.set_cons_succ]
                  have hbe9 := HWB.out.trans (hB.mono HWB.out.size)
                  clear hB HWB HGO2 HTW2 HRC HRD2 k0 k1 k2 k3 k4 h0 h1 h2 h3 h4 heq
                  go_wp2_with fail
                  go_ret
                  exact ⟨rfl, hbe9⟩

theorem own : ownKnob Try.prog.godebug = none := by kernel_rfl
theorem laidOut : laidOutB Try.prog = true := by kernel_rfl
theorem rec0 : (Try.f5.params.toList.all fun t => Try.prog.readableRec t && decide (t < Try.prog.types.size)) = true := by kernel_rfl
set_option maxRecDepth 100000 in
theorem lifted (os : Os) (started : os.Started) (H : Type) (enc : TypeId × Value → H) (F : Stop.Interp) :
    ReturnsInHanded {} Try.checked os 5 .any ((Rows.OpenSpec.upto Rows.vmDropsSpec).pre6 enc Try.prog Try.f5 Rows.vmDropsUptoRow.domain false) (((Rows.OpenSpec.upto Rows.vmDropsSpec).at F).post enc Try.prog Try.f5 false true false false) := by
  refine law_stepB (C := Try.checked) (s := Rows.vmDropsSpec) (tb := 4) own started (by kernel_rfl) Try.func5
    (OpenSpec.witness (enc := enc) (C := Try.checked) (s := Rows.OpenSpec.upto Rows.vmDropsSpec) (k := Rows.uptoSmall) rfl false ⟨#[], #[.agg #[.int .i64 0, .int .i64 0, .slice none 0 0, .slice none 0 0, .slice none 0 0], .slice none 0 0], []⟩ 8 (by kernel_rfl) (by kernel_rfl) (by kernel_rfl)
      (x := ([.agg [.lit (.int .i64 0), .lit (.int .i64 0), .nil, .nil, .nil], .nil], [], [])) (by kernel_rfl) rfl (by kernel_rfl)) laidOut ?_ rfl Try.underlying4 rfl ?_ ?_
  · intro t ht
    have := List.all_eq_true.1 rec0 t ht
    simp only [Bool.and_eq_true, decide_eq_true_eq] at this
    exact this
  · intro ds hd
    match ds, hd with
    | [d0, d1], _ => exact ⟨rfl, rfl, rfl⟩
  intro W base args ds p hval hA hsz hbk
  rw [Try.params5] at hA hval hsz
  obtain ⟨v0, vs0, d0, ds0, p0, q0, hargs, rfl, rfl, h0, r0⟩ := trodAll_cons hA
  obtain ⟨v1, vs1, d1, ds1, p1, q1, rfl, rfl, rfl, h1, r1⟩ := trodAll_cons r0
  obtain ⟨rfl, rfl, rfl⟩ := trodAll_nil r1
  obtain rfl : args = #[v0, v1] := by cases args; simp_all
  obtain ⟨x0, rfl, hc0, hq0⟩ := openB_code (hval 0 26 v0 rfl rfl) h0 (weights_each (i := 0) hsz rfl rfl) (Nat.le_trans (bulk_part (by simp)) hbk)
  obtain ⟨A1, c1, l1, rfl, hc1, hl1, hr1, hq1⟩ := openB_vals (hval 1 23 v1 rfl rfl) h1 (weights_each (i := 1) hsz rfl rfl) (Nat.le_trans (bulk_part (by simp)) hbk)
  exact walk W x0 hc0 hq0 A1 c1 l1 hc1 hl1 hr1 hq1

theorem vmDrops_holds : Rows.VmDropsUptoSaid :=
  OpenClaim.holds_of_cond 5 Try.f5 rfl rfl rfl rfl rfl rfl rfl ⟨rfl, rfl, rfl, rfl, rfl⟩ rfl rfl rfl rfl rfl (by kernel_rfl) Try.func5 (by kernel_rfl)
    (of_decide_eq_true (by kernel_rfl)) (by unfold Func.isWrapper; first | (rw [if_pos (by decide +kernel)]; kernel_rfl) | (rw [if_neg (by decide +kernel)]; exact ⟨rfl, rfl⟩))
    (fun os started H enc _ F => lifted os started H enc F)
#print axioms vmDrops_holds
end Go.Proofs.Ytadblgfppnpamaa.vmDrops
