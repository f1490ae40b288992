/- Layer 4: events of the program's as the document's; whether two are the same. No conditions. -/
import Derived.Test.YtpakcicbojbonaaGreatDoorEvtP
import Derived.Test.YtpakcicbojbonaaGreatDoorEvtI
namespace Go.Proofs.YtpakcicbojbonaaGreatDoor
open Go.RowKit
set_option maxRecDepth 10000
set_option linter.unusedVariables false
set_option linter.unusedSimpArgs false

theorem of2_any (x : V) (w : World) : Calls Tryz.prog 24 #[x.v] w fun e w' => e = .returned x.v ∧ Below w.heap.size w w' := by
  obtain ⟨k, b⟩ := x
  unfold V.v
  go_enter Tryz.func24, Tryz.ntmps24
  go_wp2
  exact bodyPost_ret (v := .agg #[.int .i64 k, .int .u64 b]) (by simp [results, Tryz.results24, go_sem]) rfl ⟨rfl, by repeat (first | exact Below.refl _ _ | refine Below.alloc ?_ (by simp) _)⟩

theorem infoRV : (Tryz.prog.info? 68).map (fun i => (i.zero, i.size, i.bytes)) = some (some (.agg #[.int .i64 0, .int .u64 0]), 2, 16) := by kernel_rfl
def evOfR (A : Option Addr) (k c : Nat) (x : V) (w wl : World) : List Spec := [.is (.pointer (some ⟨w.heap.size + 1 + 1, 2, none⟩)),
  .is (.slice A k c),
  .is (.agg #[.int .i64 x.k, .int .u64 x.b]),
  .is (.agg #[.int .i64 x.k, .int .u64 x.b]),
  .st (fun v w => ∃ g, v = .slice (some ⟨g, 0, none⟩) 1 1 ∧ Bk w g 68 #[.int .i64 x.k, .int .u64 x.b]) (fun _ _ _ hb ⟨g, h1, h2⟩ => ⟨g, h1, h2.old hb⟩)]
/-- What an event of the program's is, made by the call. -/
def OfOk (e : EventV) (w : World) (r : Ending) (w' : World) : Prop :=
  ∃ (A : Option Addr) (c : Nat), r = .returned (.agg #[.int .i64 e.type, .int .i64 e.time, .slice A e.attrs.length c]) ∧
    w'.ownsRow w.heap.size 68 2 (.slice A e.attrs.length c) e.attrs.length (e.attrs.flatMap V.cells) ∧ Below w.heap.size w w'

set_option maxHeartbeats 2000000 in
theorem evOf_any (e : EventV) (w : World) (h : e.ok w w.heap.size) :
    Calls Tryz.prog 9 #[e.val] w (OfOk e w) := by
  obtain ⟨rd, len, fits, htm⟩ := h
  obtain ⟨iV, hV, hV0, hV1, hV2⟩ := info_parts infoRV
  have RD := Lib.hid rd
  clear rd
  unfold EventV.val
  go_enter Tryz.func9, Tryz.ntmps9
  go_wp2
  go_loopw [14] (fun i wr => ∃ (k : Nat) (A : Option Addr) (c : Nat), k ≤ e.attrs.length ∧ i = .int .i64 k ∧ Below w.heap.size w wr ∧
      Bk wr w.heap.size 28 #[.int .i64 e.type, .int .i64 e.time, .slice e.A e.attrs.length e.c] ∧
      Bk wr (w.heap.size + 1) 37 #[.int .i64 0, .int .i64 0, .slice none 0 0] ∧
      Bk wr (w.heap.size + 1 + 1) 37 #[.int .i64 e.type, .int .i64 e.time, .slice A k c] ∧
      wr.ownsRow (w.heap.size + 3) 68 2 (.slice A k c) k ((e.attrs.take k).flatMap V.cells)) (fun i _ => e.attrs.length - (intOf i).toNat)
  case atStart =>
    refine ⟨0, none, 0, Nat.zero_le _, rfl, (((Below.refl _ _).alloc (Nat.le_refl _) _).alloc (by simp) _).alloc (by simp; omega) _, ?_, ?_, ?_, World.ownsRow_nil _ _ _ _⟩
    · exact ((Bk.new w _ _).alloc _).alloc _
    · exact (Bk.newAt (by simp) _ _).alloc _
    · exact Bk.newAt (by simp) _ _
  case round =>
    obtain ⟨k, A, c, hk, rfl, hbel, hb0, hb1, hb2, hown⟩ := hrel
    obtain ⟨wl, rfl⟩ : ∃ wl : World, wl = wr := ⟨_, rfl⟩
    by_cases hlt : k < e.attrs.length
    · obtain ⟨b, o, hfa, hb, hc⟩ := (RD.out.below hbel).elem (n := 2) (fun _ => rfl) (by omega) hlt
      have hc0 : wl.cell? ⟨b, o + k * 2, none⟩ = some (.int .i64 e.attrs[k].k) := hc 0 _ rfl
      have hc1 : wl.cell? ⟨b, o + k * 2 + 1, none⟩ = some (.int .u64 e.attrs[k].b) := hc 1 _ rfl
      rw [hfa]
      clear hc
      have hsz := hb2.lt
      have hnx : (e.attrs.take (k + 1)).flatMap V.cells = (e.attrs.take k).flatMap V.cells ++ e.attrs[k].cells := (flat_snoc _ _ _ hlt).symm
      have HNX := Lib.hid hnx
      clear hnx
      generalize e.attrs[k] = x at *
      go_wp2_with fail
      have k0 : Bk (wl.alloc (.cells #[.int .i64 x.k, .int .u64 x.b] 57)) w.heap.size 28 #[.int .i64 e.type, .int .i64 e.time, .slice e.A e.attrs.length e.c] := hb0.alloc _
      have k1 : Bk (wl.alloc (.cells #[.int .i64 x.k, .int .u64 x.b] 57)) (w.heap.size + 1) 37 #[.int .i64 0, .int .i64 0, .slice none 0 0] := hb1.alloc _
      have k2 : Bk (wl.alloc (.cells #[.int .i64 x.k, .int .u64 x.b] 57)) (w.heap.size + 1 + 1) 37 #[.int .i64 e.type, .int .i64 e.time, .slice A k c] := hb2.alloc _
      have kv := Bk.new wl 57 #[.int .i64 x.k, .int .u64 x.b]
      have hbW : Below wl.heap.size wl (wl.alloc (.cells #[.int .i64 x.k, .int .u64 x.b] 57)) := (Below.refl _ _).alloc (Nat.le_refl _) _
      have hownW := own_old hown hbW
      have hs0 : (wl.alloc (.cells #[.int .i64 x.k, .int .u64 x.b] 57)).heap.size = wl.heap.size + 1 := by simp
      have hbeW : Below w.heap.size w (wl.alloc (.cells #[.int .i64 x.k, .int .u64 x.b] 57)) := hbel.alloc hbel.size _
      generalize hW : wl.alloc (.cells #[.int .i64 x.k, .int .u64 x.b] 57) = W at *
      clear hW hc0 hc1
      have y2 := k2.cell 2
      have v0 := kv.cell 0
      have v1 := kv.cell 1
      rw [hfa] at k0
      refine wp_region_t 5 (fun k => false) (by kernel_rfl) (fun qk => (evOfR A k c x w wl).getD qk .any) (by kernel_rfl) ?_ ?_
      · refine BOk.cons rfl [] [3] rfl rfl (by kernel_rfl) (by kernel_rfl) (fun qK qa wr hB qO qF hK => ?_) ?_
        · have e3 : qa.tmps[3]? = some (.pointer (some ⟨w.heap.size + 1 + 1, 0, none⟩)) := qO.1.trans rfl
          clear qO qF
          go_simp
          exact hK _ _ (Below.refl _ _) rfl
        refine BOk.cons rfl [0] [] rfl rfl (by kernel_rfl) (by kernel_rfl) (fun qK qa wr hB qO qF hK => ?_) ?_
        · have e18 : qa.tmps[18]? = some (.pointer (some ⟨w.heap.size + 1 + 1, 2, none⟩)) := fis qF.1 rfl rfl
          clear qO qF
          have hy2 := (bcell hB _ _ (World.block_lt_of_cell? _ _ y2)).trans y2
          go_simp
          exact hK _ _ (Below.refl _ _) rfl
        refine BOk.cons rfl [] [5] rfl rfl (by kernel_rfl) (by kernel_rfl) (fun qK qa wr hB qO qF hK => ?_) ?_
        · have e5 : qa.tmps[5]? = some (.pointer (some ⟨wl.heap.size, 0, none⟩)) := qO.1.trans rfl
          clear qO qF
          have hv0 := (bcell hB _ _ (World.block_lt_of_cell? _ _ v0)).trans v0
          have hv1 := (bcell hB _ _ (World.block_lt_of_cell? _ _ v1)).trans v1
          go_simp
          exact hK _ _ (Below.refl _ _) rfl
        refine BOk.cons rfl [2] [] rfl rfl (by kernel_rfl) (by kernel_rfl) (fun qK qa wr hB qO qF hK => ?_) ?_
        · have e20 : qa.tmps[20]? = some (.agg #[.int .i64 x.k, .int .u64 x.b]) := fis qF.1 rfl rfl
          clear qO qF
          go_simp
          go_at_call 24
          refine (of2_any x _).mono ?_
          rintro e9 w3 ⟨rfl, hb3⟩
          simp only [V.v]
          exact hK _ _ hb3 rfl
        refine BOk.cons rfl [3] [] rfl rfl (by kernel_rfl) (by kernel_rfl) (fun qK qa wr hB qO qF hK => ?_) ?_
        · have e21 : qa.tmps[21]? = some (.agg #[.int .i64 x.k, .int .u64 x.b]) := fis qF.1 rfl rfl
          clear qO qF
          go_simp
          exact hK _ _ ((Below.refl _ _).alloc (Nat.le_refl _) _) ⟨_, rfl, Bk.new _ _ _⟩
        exact BOk.nil
      intro vals wr hl hB hR hS
      match vals, hl with
      | [z18, z19, z20, z21, z22], _ =>
      have r1 : z19 = .slice A k c := hR 1 _ rfl
      subst r1
      obtain ⟨g22, r4, k22⟩ := (show ∃ g, z22 = .slice (some ⟨g, 0, none⟩) 1 1 ∧ Bk wr g 68 #[.int .i64 x.k, .int .u64 x.b] from hR 4 _ rfl)
      subst r4
      clear hS
      clear hR
      simp only [List.take_succ_cons, List.take_zero, List.drop_succ_cons, List.drop_zero, List.toList_toArray, List.cons_append, List.nil_append, putAll, Act.put, List.setIfInBounds_toArray, List.set_cons_zero, List.set_cons_succ]
      have hown2 := own_old hownW hB
      have q0 := k0.old hB
      have q1 := k1.old hB
      have q2 := k2.old hB
      have hbe2 := hbeW.trans (hB.mono hbeW.size)
      have hsz2 := hB.size
      clear hB k0 k1 k2 kv v0 v1 y2 hownW hbeW hbW hown hb0 hb1 hb2 hbel
      refine wpList_append_rd (by rfl) _ _ 35 (by rfl) (w.heap.size + 3) 68 iV _ 2 16 Tryz.underlying35 hV hV0 hV1 hV2 rfl (by decide) (.slice A k c) k _ (by rfl) hown2 wr.heap.size (some ⟨g22, 0, none⟩) 1 1 x.cells (by rfl) (bk_rd k22) (by rfl) ?_ ?_ ?_ ?_ ?_
      · intro u hu; simp [V.cells] at hu; rcases hu with rfl | rfl <;> rfl
      · unfold maxLen; omega
      · omega
      · omega
      intro A2 c2 w1 hown3 hg hat
      have p0 := q0.grown hg (own_ne_bk hown2 q0 (by decide))
      have p1 := q1.grown hg (own_ne_bk hown2 q1 (by decide))
      have p2 := q2.grown hg (own_ne_bk hown2 q2 (by decide))
      have hbe3 : Below w.heap.size w w1 := below_own hbe2 hown2 (by omega) hg (by omega)
      have hf2 := p2.frozen 2
      have hc2 := p2.cell 2
      clear hg hown2 q0 q1 q2 hat
      go_wp2
      go_roundw
      case rel =>
        refine ⟨k + 1, A2, c2, by omega, by go_num, hbe3.setCell (by simp; omega) _, p0.far (by simp; omega) _, p1.far (by simp) _, p2.put 2 _, ?_⟩
        rw [HNX.out]
        exact own_set hown3 p2 (by decide) 2 _
      case measure => simp [intOf]; omega
    · obtain rfl : k = e.attrs.length := by omega
      have d0 := hb2.cell 0
      have d1 := hb2.cell 1
      have d2 := hb2.cell 2
      have g0 := hb1.cell 0
      have g1 := hb1.cell 1
      have g2 := hb1.cell 2
      have f0 := hb1.frozen 0
      have f1 := hb1.frozen 1
      have f2 := hb1.frozen 2
      have hz := hb2.lt
      rw [List.take_length] at hown
      go_wp2
      refine bodyPost_ret (v := .agg #[.int .i64 e.type, .int .i64 e.time, .slice A e.attrs.length c]) (by simp [results, Tryz.results9, go_sem, g0, g1, g2]) rfl ?_
      have r0 := hb1.put 0 (.int .i64 e.type)
      have r1 := r0.put 1 (.int .i64 e.time)
      refine ⟨A, c, rfl, ?_, ((hbel.setCell (by simp) _).setCell (by simp) _).setCell (by simp) _⟩
      exact own_mono (own_set (own_set (own_set hown hb1 (by decide) 0 _) r0 (by decide) 1 _) r1 (by decide) 2 _) (by omega)
theorem eOf_any (e : EventV) (w : World) (h : e.ok w w.heap.size) : Calls Tryz.prog 9 #[e.val] w fun r w' => ∃ v, r = .returned v ∧ EvAt e.sig v w' ∧ Below w.heap.size w w' :=
  (evOf_any e w h).mono fun r w' ⟨A, c, h1, h2, h3⟩ => ⟨_, h1, ⟨⟨e.type, e.time, A, c, e.attrs⟩, rfl, ⟨own_rd h2, h.len, h.fits, h.time⟩, rfl⟩, h3⟩
/-! The same events. -/
theorem neq_V4 (a b c d : Int) (w : World) : (binOp .neq 68 (.agg #[.int .i64 a, .int .u64 b]) (.agg #[.int .i64 c, .int .u64 d])).run Tryz.prog w = .ok (.bool (!(a == c && b == d))) w := neq_V2 a b c d w
set_option maxRecDepth 100000 in
set_option maxHeartbeats 1000000 in
theorem same_any (x y : EventV) (w : World) (hx : x.ok w w.heap.size) (hy : y.ok w w.heap.size) (h : x.sig = y.sig) :
    Calls Tryz.prog 8 #[x.val, y.val] w fun r w' => r = .returned (.bool true) ∧ Below w.heap.size w w' := by
  obtain ⟨ety, etm, A1, c1, l⟩ := x
  obtain ⟨ty2, tm2, A2, c2, l2⟩ := y
  simp only [EventV.sig, Prod.mk.injEq] at h
  obtain ⟨rfl, rfl, rfl⟩ := h
  have hW : Below w.heap.size w ((w.alloc (.cells #[.int .i64 ety, .int .i64 etm, .slice A1 l.length c1] 37)).alloc (.cells #[.int .i64 ety, .int .i64 etm, .slice A2 l.length c2] 37)) := ((Below.refl _ _).alloc (Nat.le_refl _) _).alloc (by simp) _
  have x0 := (Bk.new w 37 #[.int .i64 ety, .int .i64 etm, .slice A1 l.length c1]).alloc (.cells #[.int .i64 ety, .int .i64 etm, .slice A2 l.length c2] 37)
  have x1 := Bk.newAt (w := w.alloc (.cells #[.int .i64 ety, .int .i64 etm, .slice A1 l.length c1] 37)) (g := w.heap.size + 1) (by simp) 37 #[.int .i64 ety, .int .i64 etm, .slice A2 l.length c2]
  have H1 : Hid (Rd w w.heap.size A1 (l.flatMap V.cells)) := Lib.hid hx.rd
  have H2 : Hid (Rd w w.heap.size A2 (l.flatMap V.cells)) := Lib.hid hy.rd
  have hl : l.length ≤ 8796093021952 := hx.len
  clear hx hy
  unfold EventV.val
  show Calls _ _ #[.agg #[.int .i64 ety, .int .i64 etm, .slice A1 l.length c1], .agg #[.int .i64 ety, .int .i64 etm, .slice A2 l.length c2]] _ _
  have s0 := x0.cell 0
  have s1 := x0.cell 1
  have s2 := x0.cell 2
  have t0 := x1.cell 0
  have t1 := x1.cell 1
  have t2 := x1.cell 2
  go_enter Tryz.func8, Tryz.ntmps8
  go_wp2
  generalize (w.alloc (.cells #[.int .i64 ety, .int .i64 etm, .slice A1 l.length c1] 37)).alloc (.cells #[.int .i64 ety, .int .i64 etm, .slice A2 l.length c2] 37) = W at *
  clear s0 s1 s2 t0 t1 t2
  go_loopw [30] (fun i wr => ∃ k : Nat, k ≤ l.length ∧ i = .int .i64 k ∧ Below W.heap.size W wr) (fun i _ => l.length - (intOf i).toNat)
  case atStart => exact ⟨0, Nat.zero_le _, rfl, Below.refl _ _⟩
  case round =>
    obtain ⟨k, hk, rfl, hbel⟩ := hrel
    by_cases hlt : k < l.length
    · as_aux_lemma =>
      have hbe := hW.trans (hbel.mono hW.size)
      obtain ⟨b1, o1, hA1, hb1, hc1⟩ := (H1.out.below hbe).elem (n := 2) (fun _ => rfl) (by omega) hlt
      obtain ⟨b2, o2, hA2, hb2, hc2⟩ := (H2.out.below hbe).elem (n := 2) (fun _ => rfl) (by omega) hlt
      have p0 : wr.cell? ⟨b1, o1 + k * 2, none⟩ = some (.int .i64 l[k].k) := hc1 0 _ rfl
      have p1 : wr.cell? ⟨b1, o1 + k * 2 + 1, none⟩ = some (.int .u64 l[k].b) := hc1 1 _ rfl
      have q0 : wr.cell? ⟨b2, o2 + k * 2, none⟩ = some (.int .i64 l[k].k) := hc2 0 _ rfl
      have q1 : wr.cell? ⟨b2, o2 + k * 2 + 1, none⟩ = some (.int .u64 l[k].b) := hc2 1 _ rfl
      subst hA1
      subst hA2
      have s2 := (x0.old hbel).cell 2
      have t2 := (x1.old hbel).cell 2
      clear hc1 hc2
      generalize l[k] = v at *
      have hne : (binOp .neq 68 (.agg #[.int .i64 v.k, .int .u64 v.b]) (.agg #[.int .i64 v.k, .int .u64 v.b])).run Tryz.prog wr = .ok (.bool false) wr := by
        rw [neq_V2]; simp
      have hkI : (k : Int) < (l.length : Int) := by omega
      go_wp2
      go_quiet (fail)
      go_wp2
      go_roundw
      case rel => exact ⟨k + 1, by omega, by go_num, by first | exact hbel | exact hbel.trans ⟨rfl, rfl, rfl, Nat.le_refl _, fun _ _ => rfl⟩⟩
      case measure => simp [intOf]; omega
    · as_aux_lemma =>
      obtain rfl : k = l.length := by omega
      go_wp2
      go_ret
      exact ⟨rfl, hW.trans (hbel.mono hW.size)⟩
end Go.Proofs.YtpakcicbojbonaaGreatDoor
