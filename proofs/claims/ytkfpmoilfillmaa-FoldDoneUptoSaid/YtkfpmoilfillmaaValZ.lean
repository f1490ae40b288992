/- The document's Apply. No conditions. -/
import Derived.Test.YtkfpmoilfillmaaValY
import Derived.Deep.DeepCutAuto
import Derived.Deep.RegionHeld3
namespace Go.Proofs.Ytkfpmoilfillmaa
open Go.RowKit
set_option linter.unusedSimpArgs false
set_option linter.unusedVariables false

theorem infoRV : (Try.prog.info? 33).map (fun i => (i.zero, i.size, i.bytes)) = some (some (.agg #[.int .i64 0, .int .u64 0]), 2, 16) := by kernel_rfl
theorem infoRI : (Try.prog.info? 3).map (fun i => (i.zero, i.size, i.bytes)) = some (some (.int .i64 0), 1, 8) := by kernel_rfl
/-- What the loop has made, and what is behind it. -/
def applyR11_13 (x y R : V) (b o cv : Nat) : List Spec := [.is (.slice (some ⟨b, o, none⟩) 2 cv),
  .is (.pointer (some ⟨b, o, none⟩)),
  .is (.agg #[.int .i64 (clean x).k, .int .u64 (clean x).b]),
  .is (.slice (some ⟨b, o, none⟩) 2 cv),
  .is (.pointer (some ⟨b, o + 2, none⟩)),
  .is (.agg #[.int .i64 (clean y).k, .int .u64 (clean y).b]),
  .is (.int .i64 13),
  .is (.bool false),
  .is (.agg #[.int .i64 R.k, .int .u64 R.b])]
set_option maxRecDepth 100000 in
set_option maxHeartbeats 4000000 in
theorem rapply_logic13 (l : List V) (A : Option Addr) (c : Nat) (w : World) (hr : Rd w w.heap.size A (l.flatMap V.cells)) (hf : ∀ x ∈ l, x.fits) (hl : l.length * 16 ≤ 140737488351232) (x y : V) (hl2 : l = [x, y]) :
    Calls Try.prog 18 #[.int .i64 13, .slice A l.length c] w fun e w' => e = .returned (applyV 13 l).v ∧ Below w.heap.size w w' := by
  obtain ⟨iV, hV, hV0, hV1, hV2⟩ := info_parts infoRV
  obtain ⟨iI, hI, hI0, hI1, hI2⟩ := info_parts infoRI
  have HF := Lib.hid hf
  clear hf
  generalize hR : applyV 13 l = R
  have HR := Lib.hid hR
  clear hR
  have HL2 := Lib.hid hl2
  clear hl2
  go_enter Try.func18, Try.ntmps18
  go_wp2_with fail
  go_loopw [5, 6, 15] (fun vs ks i wr => ∃ (k : Nat) (Ak Av : Option Addr) (ck cv : Nat), k ≤ l.length ∧ i = .int .i64 k ∧ ks = .slice Ak k ck ∧ vs = .slice Av k cv ∧ Below w.heap.size w wr ∧
      Bk wr w.heap.size 33 #[.int .i64 0, .int .u64 0] ∧
      wr.ownsRow (w.heap.size + 1) 3 1 ks k (kcells ((l.map fun x => (clean x).k).take k)) ∧
      wr.ownsRow (w.heap.size + 1) 33 2 vs k ((l.take k).flatMap fun x => (clean x).cells)) (fun _ _ i _ => l.length - (intOf i).toNat)
  case atStart => exact ⟨0, none, none, 0, 0, Nat.zero_le _, rfl, rfl, rfl, (Below.refl _ _).alloc (Nat.le_refl _) _, Bk.new _ _ _, World.ownsRow_nil _ _ _ _, World.ownsRow_nil _ _ _ _⟩
  case round =>
    obtain ⟨k, Ak, Av, ck, cv, hk, rfl, rfl, rfl, hbel, hb0, hK, hVr⟩ := hrel
    by_cases hlt : k < l.length
    · obtain ⟨b, o, rfl, hb, hc⟩ := (hr.below hbel).elem (f := V.cells) (n := 2) (fun _ => rfl) (by omega) hlt
      have hc0 : wr.cell? ⟨b, o + k * 2, none⟩ = some (.int .i64 l[k].k) := hc 0 _ rfl
      have hc1 : wr.cell? ⟨b, o + k * 2 + 1, none⟩ = some (.int .u64 l[k].b) := hc 1 _ rfl
      have hfit : l[k].fits := HF.out _ (List.getElem_mem hlt)
      clear hc
      go_wp2_with fail
      refine (rclean_any l[k] hfit _).mono ?_
      rintro e w1 ⟨rfl, hb1⟩
      have hb0 := (hb0.alloc _).old hb1
      have hK := own_old (hK.alloc _) hb1
      have hVr := own_old (hVr.alloc _) hb1
      have hB : Below w.heap.size w w1 := (hbel.alloc hbel.size _).trans (hb1.mono (by have := hbel.size; simp; omega))
      have hz0 := hb0.lt
      simp only [V.v]
      clear hc0 hc1 hb1 hbel hfit
      have hl9 : l.length ≤ 8796093021952 := by omega
      have ne0 : some w.heap.size ≠ (Value.slice Av k cv).ownBlock := fun e => by have := (hVr.lt _ e.symm).1; omega
      have nk0 : some w.heap.size ≠ (Value.slice Ak k ck).ownBlock := fun e => by have := (hK.lt _ e.symm).1; omega
      have ne9 : some w1.heap.size ≠ (Value.slice Av k cv).ownBlock := fun e => by have := (hVr.lt _ e.symm).2; omega
      go_wp2_with (at_builtin; refine wpList_append_rd rfl _ _ 44 rfl (w.heap.size + 1) 33 iV _ 2 16 Try.underlying44 hV hV0 hV1 hV2 rfl (by decide) (.slice Av k cv) k ((l.take k).flatMap fun x => (clean x).cells) rfl ((hVr.alloc _).alloc _) (w1.heap.size + 1 + 1) (some ⟨w1.heap.size + 1, 0, none⟩) 1 1 (clean l[k]).cells rfl (Rd.lit (by simp) _ _) rfl ?c2 ?c3 ?c4 ?c5 ?_)
      case c2 => intro u hu; simp [V.cells] at hu; rcases hu with rfl | rfl <;> rfl
      case c3 => unfold maxLen; omega
      case c4 => omega
      case c5 => simp; omega
      intro A2 c2 w2 hV2' hg hat
      have hB2 : Below w.heap.size w w2 := below_own ((hB.alloc (by omega) _).alloc (by simp; omega) _) ((hVr.alloc _).alloc _) (by omega) hg (by simp; omega)
      have hb02 := ((hb0.alloc _).alloc _).grown hg ne0
      have h92 := ((Bk.new w1 33 #[.int .i64 (clean l[k]).k, .int .u64 (clean l[k]).b]).alloc _).grown hg ne9
      have hK2 := own_keep ((hK.alloc _).alloc _) ((hVr.alloc _).alloc _) (by decide) hg
      clear hg hVr hK hb0 hB ne0 ne9 nk0 hat
      have hz1 := h92.lt
      have hz2 := hb02.lt
      rw [flat_snoc _ l k hlt] at hV2'
      obtain ⟨d0, d1, _, _⟩ := vcells h92
      have nk0 : some w.heap.size ≠ (Value.slice Ak k ck).ownBlock := fun e => by have := (hK2.lt _ e.symm).1; omega
      go_wp2_with (at_builtin; refine wpList_append_rd rfl _ _ 52 rfl (w.heap.size + 1) 3 iI _ 1 8 Try.underlying52 hI hI0 hI1 hI2 rfl (by decide) (.slice Ak k ck) k (kcells ((l.map fun x => (clean x).k).take k)) rfl (hK2.alloc _) (w2.heap.size + 1) (some ⟨w2.heap.size, 0, none⟩) 1 1 [.int .i64 (clean l[k]).k] rfl (Rd.lit rfl _ _) rfl ?d2 ?d3 ?d4 ?d5 ?_)
      case d2 => intro u hu; simp at hu; subst hu; rfl
      case d3 => unfold maxLen; omega
      case d4 => omega
      case d5 => simp; omega
      intro A3 c3 w3 hK3 hg _
      have hB3 : Below w.heap.size w w3 := below_own (hB2.alloc (by omega) _) (hK2.alloc _) (by omega) hg (by simp; omega)
      have hb03 := (hb02.alloc _).grown hg nk0
      have hV3 := own_keep (hV2'.alloc _) (hK2.alloc _) (by decide) hg
      clear hg
      have e2 : kcells ((l.map fun x => (clean x).k).take k) ++ [.int .i64 (clean l[k]).k] = kcells ((l.map fun x => (clean x).k).take (k + 1)) := by
        rw [List.take_succ_eq_append_getElem (by simpa using hlt), List.getElem_map]; unfold kcells; rw [List.map_append]; rfl
      rw [e2] at hK3
      clear e2 d0 d1
      go_wp2
      go_roundw
      case rel => exact ⟨k + 1, A3, A2, c3, c2, by omega, by go_num, rfl, rfl, hB3, hb03, hK3, hV3⟩
      case measure => simp [intOf]; omega
    · obtain rfl : k = l.length := by omega
      clear hlt hk
      rw [List.take_of_length_le (by simp)] at hK
      rw [List.take_length] at hVr
      have hkr : Rd wr wr.heap.size Ak (kcells (l.map fun x => (clean x).k)) := own_rd hK
      have hvr : Rd wr wr.heap.size Av (l.flatMap fun x => (clean x).cells) := own_rd hVr
      clear hK hVr hr
      have hl2 := HL2.out
      subst hl2
      clear HL2
      simp only [List.length_cons, List.length_nil, Nat.zero_add, Nat.reduceAdd] at *
      obtain ⟨b, o, rfl, hb, hc⟩ := hvr.at_ (j := 0) (by simp [V.cells])
      have cx0 : wr.cell? ⟨b, o, none⟩ = some (.int .i64 (clean x).k) := hc 0 _ rfl
      have cx1 : wr.cell? ⟨b, o + 1, none⟩ = some (.int .u64 (clean x).b) := hc 1 _ rfl
      have cy0 : wr.cell? ⟨b, o + 2, none⟩ = some (.int .i64 (clean y).k) := hc 2 _ rfl
      have cy1 : wr.cell? ⟨b, o + 2 + 1, none⟩ = some (.int .u64 (clean y).b) := hc 3 _ rfl
      have hz := hb0.lt
      clear hc hkr hvr
      have fx := HF.out x (by simp)
      have fy := HF.out y (by simp)
      have hL0 : Hid (∀ w : World, Calls Try.prog 28 #[.agg #[.int .i64 (clean x).k, .int .u64 (clean x).b], .agg #[.int .i64 (clean y).k, .int .u64 (clean y).b], .bool false] w fun e w' => e = .returned (.agg #[.int .i64 R.k, .int .u64 R.b]) ∧ Below w.heap.size w w') := Lib.hid fun w => by
        have h := rlogic_any false (clean x) (clean y) (clean_clean x) (clean_clean y) w
        have e : (toldV (if false = true then max (truthI (clean x)) (truthI (clean y)) else min (truthI (clean x)) (truthI (clean y)))).getD none0 = R := by
          rw [← HR.out]
          have t1 : truthI (clean x) = truthI x := by unfold truthI; rw [clean_clean]
          have t2 : truthI (clean y) = truthI y := by unfold truthI; rw [clean_clean]
          rw [t1, t2]; rfl
        rw [e] at h
        exact h
      have HL := hL0
      clear hL0
      go_wp2_with fail
      refine wp_region_t 9 (fun k => false) (by kernel_rfl) (fun k => (applyR11_13 x y R b o cv).getD k .any) (by kernel_rfl) ?_ ?_
      · refine BOk.cons rfl [] [5] rfl rfl (by kernel_rfl) (by kernel_rfl) (fun qK qa wr hB qO qF hK => ?_) ?_
        · have e5 : qa.tmps[5]? = some (.slice (some ⟨b, o, none⟩) 2 cv) := qO.1.trans rfl
          clear qO qF
          go_simp
          exact hK _ _ (Below.refl _ _) rfl
        refine BOk.cons rfl [0] [] rfl rfl (by kernel_rfl) (by kernel_rfl) (fun qK qa wr hB qO qF hK => ?_) ?_
        · obtain ⟨u42, e42, r0⟩ := qF.1
          have e42 : qa.tmps[42]? = some (.slice (some ⟨b, o, none⟩) 2 cv) := (show u42 = .slice (some ⟨b, o, none⟩) 2 cv from r0) ▸ e42
          clear r0
          clear qO qF
          go_simp
          exact hK _ _ (Below.refl _ _) rfl
        refine BOk.cons rfl [1] [] rfl rfl (by kernel_rfl) (by kernel_rfl) (fun qK qa wr hB qO qF hK => ?_) ?_
        · obtain ⟨u43, e43, r1⟩ := qF.1
          have e43 : qa.tmps[43]? = some (.pointer (some ⟨b, o, none⟩)) := (show u43 = .pointer (some ⟨b, o, none⟩) from r1) ▸ e43
          clear r1
          clear qO qF
          have hcx0 := (bcell hB _ _ (World.block_lt_of_cell? _ _ cx0)).trans cx0
          have hcx1 := (bcell hB _ _ (World.block_lt_of_cell? _ _ cx1)).trans cx1
          go_simp
          exact hK _ _ (Below.refl _ _) rfl
        refine BOk.cons rfl [] [5] rfl rfl (by kernel_rfl) (by kernel_rfl) (fun qK qa wr hB qO qF hK => ?_) ?_
        · have e5 : qa.tmps[5]? = some (.slice (some ⟨b, o, none⟩) 2 cv) := qO.1.trans rfl
          clear qO qF
          go_simp
          exact hK _ _ (Below.refl _ _) rfl
        refine BOk.cons rfl [3] [] rfl rfl (by kernel_rfl) (by kernel_rfl) (fun qK qa wr hB qO qF hK => ?_) ?_
        · obtain ⟨u45, e45, r3⟩ := qF.1
          have e45 : qa.tmps[45]? = some (.slice (some ⟨b, o, none⟩) 2 cv) := (show u45 = .slice (some ⟨b, o, none⟩) 2 cv from r3) ▸ e45
          clear r3
          clear qO qF
          go_simp
          exact hK _ _ (Below.refl _ _) rfl
        refine BOk.cons rfl [4] [] rfl rfl (by kernel_rfl) (by kernel_rfl) (fun qK qa wr hB qO qF hK => ?_) ?_
        · obtain ⟨u46, e46, r4⟩ := qF.1
          have e46 : qa.tmps[46]? = some (.pointer (some ⟨b, o + 2, none⟩)) := (show u46 = .pointer (some ⟨b, o + 2, none⟩) from r4) ▸ e46
          clear r4
          clear qO qF
          have hcy0 := (bcell hB _ _ (World.block_lt_of_cell? _ _ cy0)).trans cy0
          have hcy1 := (bcell hB _ _ (World.block_lt_of_cell? _ _ cy1)).trans cy1
          go_simp
          exact hK _ _ (Below.refl _ _) rfl
        refine BOk.cons rfl [] [0] rfl rfl (by kernel_rfl) (by kernel_rfl) (fun qK qa wr hB qO qF hK => ?_) ?_
        · have e0 : qa.tmps[0]? = some (.int .i64 13) := qO.1.trans rfl
          clear qO qF
          go_simp
          exact hK _ _ (Below.refl _ _) rfl
        refine BOk.cons rfl [6] [] rfl rfl (by kernel_rfl) (by kernel_rfl) (fun qK qa wr hB qO qF hK => ?_) ?_
        · obtain ⟨u48, e48, r6⟩ := qF.1
          have e48 : qa.tmps[48]? = some (.int .i64 13) := (show u48 = .int .i64 13 from r6) ▸ e48
          clear r6
          clear qO qF
          go_simp
          refine hK _ _ (Below.refl _ _) ?_
          show (_ : Value) = _
          first | rfl | (simp; done) | (simp; omega)
        refine BOk.cons rfl [2, 5, 7] [] rfl rfl (by kernel_rfl) (by kernel_rfl) (fun qK qa wr hB qO qF hK => ?_) ?_
        · obtain ⟨u44, e44, r2⟩ := qF.1
          have e44 : qa.tmps[44]? = some (.agg #[.int .i64 (clean x).k, .int .u64 (clean x).b]) := (show u44 = .agg #[.int .i64 (clean x).k, .int .u64 (clean x).b] from r2) ▸ e44
          clear r2
          obtain ⟨u47, e47, r5⟩ := qF.2.1
          have e47 : qa.tmps[47]? = some (.agg #[.int .i64 (clean y).k, .int .u64 (clean y).b]) := (show u47 = .agg #[.int .i64 (clean y).k, .int .u64 (clean y).b] from r5) ▸ e47
          clear r5
          obtain ⟨u49, e49, r7⟩ := qF.2.2.1
          have e49 : qa.tmps[49]? = some (.bool false) := (show u49 = .bool false from r7) ▸ e49
          clear r7
          clear qO qF
          go_simp
          go_at_call 28
          refine (HL.out _).mono ?_
          rintro e w2 ⟨rfl, hb2⟩
          exact hK _ _ hb2 rfl
        exact BOk.nil
      intro vals wr hl hB hR hS
      match vals, hl with
      | [z42, z43, z44, z45, z46, z47, z48, z49, z50], _ =>
      have r8 : z50 = .agg #[.int .i64 R.k, .int .u64 R.b] := hR 8 _ rfl
      subst r8
      clear hS
      clear hR
      simp only [List.take_succ_cons, List.take_zero, List.drop_succ_cons, List.drop_zero, List.toList_toArray, List.cons_append, List.nil_append, putAll, Act.put, List.setIfInBounds_toArray, List.set_cons_zero, List.set_cons_succ]
      have kk := hb0.old hB
      have hbel := hbel.trans (hB.mono (by omega))
      clear hB cx0 cx1 cy0 cy1 hb0
      obtain ⟨rk, rb⟩ := R
      have ⟨c0, c1, f0, f1⟩ := vcells kk
      have ⟨d0, d1, _, _⟩ := vcells (vput kk (.int .i64 rk) (.int .u64 rb))
      go_wp2_with fail
      exact bodyPost_ret (v := .agg #[.int .i64 rk, .int .u64 rb]) (by simp [results, Try.results18, go_sem, d0, d1]) rfl ⟨rfl, (hbel.setCell (by simp) _).setCell (by simp) _⟩

def applyR11_14 (x y R : V) (b o cv : Nat) : List Spec := [.is (.slice (some ⟨b, o, none⟩) 2 cv),
  .is (.pointer (some ⟨b, o, none⟩)),
  .is (.agg #[.int .i64 (clean x).k, .int .u64 (clean x).b]),
  .is (.slice (some ⟨b, o, none⟩) 2 cv),
  .is (.pointer (some ⟨b, o + 2, none⟩)),
  .is (.agg #[.int .i64 (clean y).k, .int .u64 (clean y).b]),
  .is (.int .i64 14),
  .is (.bool true),
  .is (.agg #[.int .i64 R.k, .int .u64 R.b])]
set_option maxRecDepth 100000 in
set_option maxHeartbeats 4000000 in
theorem rapply_logic14 (l : List V) (A : Option Addr) (c : Nat) (w : World) (hr : Rd w w.heap.size A (l.flatMap V.cells)) (hf : ∀ x ∈ l, x.fits) (hl : l.length * 16 ≤ 140737488351232) (x y : V) (hl2 : l = [x, y]) :
    Calls Try.prog 18 #[.int .i64 14, .slice A l.length c] w fun e w' => e = .returned (applyV 14 l).v ∧ Below w.heap.size w w' := by
  obtain ⟨iV, hV, hV0, hV1, hV2⟩ := info_parts infoRV
  obtain ⟨iI, hI, hI0, hI1, hI2⟩ := info_parts infoRI
  have HF := Lib.hid hf
  clear hf
  generalize hR : applyV 14 l = R
  have HR := Lib.hid hR
  clear hR
  have HL2 := Lib.hid hl2
  clear hl2
  go_enter Try.func18, Try.ntmps18
  go_wp2_with fail
  go_loopw [5, 6, 15] (fun vs ks i wr => ∃ (k : Nat) (Ak Av : Option Addr) (ck cv : Nat), k ≤ l.length ∧ i = .int .i64 k ∧ ks = .slice Ak k ck ∧ vs = .slice Av k cv ∧ Below w.heap.size w wr ∧
      Bk wr w.heap.size 33 #[.int .i64 0, .int .u64 0] ∧
      wr.ownsRow (w.heap.size + 1) 3 1 ks k (kcells ((l.map fun x => (clean x).k).take k)) ∧
      wr.ownsRow (w.heap.size + 1) 33 2 vs k ((l.take k).flatMap fun x => (clean x).cells)) (fun _ _ i _ => l.length - (intOf i).toNat)
  case atStart => exact ⟨0, none, none, 0, 0, Nat.zero_le _, rfl, rfl, rfl, (Below.refl _ _).alloc (Nat.le_refl _) _, Bk.new _ _ _, World.ownsRow_nil _ _ _ _, World.ownsRow_nil _ _ _ _⟩
  case round =>
    obtain ⟨k, Ak, Av, ck, cv, hk, rfl, rfl, rfl, hbel, hb0, hK, hVr⟩ := hrel
    by_cases hlt : k < l.length
    · obtain ⟨b, o, rfl, hb, hc⟩ := (hr.below hbel).elem (f := V.cells) (n := 2) (fun _ => rfl) (by omega) hlt
      have hc0 : wr.cell? ⟨b, o + k * 2, none⟩ = some (.int .i64 l[k].k) := hc 0 _ rfl
      have hc1 : wr.cell? ⟨b, o + k * 2 + 1, none⟩ = some (.int .u64 l[k].b) := hc 1 _ rfl
      have hfit : l[k].fits := HF.out _ (List.getElem_mem hlt)
      clear hc
      go_wp2_with fail
      refine (rclean_any l[k] hfit _).mono ?_
      rintro e w1 ⟨rfl, hb1⟩
      have hb0 := (hb0.alloc _).old hb1
      have hK := own_old (hK.alloc _) hb1
      have hVr := own_old (hVr.alloc _) hb1
      have hB : Below w.heap.size w w1 := (hbel.alloc hbel.size _).trans (hb1.mono (by have := hbel.size; simp; omega))
      have hz0 := hb0.lt
      simp only [V.v]
      clear hc0 hc1 hb1 hbel hfit
      have hl9 : l.length ≤ 8796093021952 := by omega
      have ne0 : some w.heap.size ≠ (Value.slice Av k cv).ownBlock := fun e => by have := (hVr.lt _ e.symm).1; omega
      have nk0 : some w.heap.size ≠ (Value.slice Ak k ck).ownBlock := fun e => by have := (hK.lt _ e.symm).1; omega
      have ne9 : some w1.heap.size ≠ (Value.slice Av k cv).ownBlock := fun e => by have := (hVr.lt _ e.symm).2; omega
      go_wp2_with (at_builtin; refine wpList_append_rd rfl _ _ 44 rfl (w.heap.size + 1) 33 iV _ 2 16 Try.underlying44 hV hV0 hV1 hV2 rfl (by decide) (.slice Av k cv) k ((l.take k).flatMap fun x => (clean x).cells) rfl ((hVr.alloc _).alloc _) (w1.heap.size + 1 + 1) (some ⟨w1.heap.size + 1, 0, none⟩) 1 1 (clean l[k]).cells rfl (Rd.lit (by simp) _ _) rfl ?c2 ?c3 ?c4 ?c5 ?_)
      case c2 => intro u hu; simp [V.cells] at hu; rcases hu with rfl | rfl <;> rfl
      case c3 => unfold maxLen; omega
      case c4 => omega
      case c5 => simp; omega
      intro A2 c2 w2 hV2' hg hat
      have hB2 : Below w.heap.size w w2 := below_own ((hB.alloc (by omega) _).alloc (by simp; omega) _) ((hVr.alloc _).alloc _) (by omega) hg (by simp; omega)
      have hb02 := ((hb0.alloc _).alloc _).grown hg ne0
      have h92 := ((Bk.new w1 33 #[.int .i64 (clean l[k]).k, .int .u64 (clean l[k]).b]).alloc _).grown hg ne9
      have hK2 := own_keep ((hK.alloc _).alloc _) ((hVr.alloc _).alloc _) (by decide) hg
      clear hg hVr hK hb0 hB ne0 ne9 nk0 hat
      have hz1 := h92.lt
      have hz2 := hb02.lt
      rw [flat_snoc _ l k hlt] at hV2'
      obtain ⟨d0, d1, _, _⟩ := vcells h92
      have nk0 : some w.heap.size ≠ (Value.slice Ak k ck).ownBlock := fun e => by have := (hK2.lt _ e.symm).1; omega
      go_wp2_with (at_builtin; refine wpList_append_rd rfl _ _ 52 rfl (w.heap.size + 1) 3 iI _ 1 8 Try.underlying52 hI hI0 hI1 hI2 rfl (by decide) (.slice Ak k ck) k (kcells ((l.map fun x => (clean x).k).take k)) rfl (hK2.alloc _) (w2.heap.size + 1) (some ⟨w2.heap.size, 0, none⟩) 1 1 [.int .i64 (clean l[k]).k] rfl (Rd.lit rfl _ _) rfl ?d2 ?d3 ?d4 ?d5 ?_)
      case d2 => intro u hu; simp at hu; subst hu; rfl
      case d3 => unfold maxLen; omega
      case d4 => omega
      case d5 => simp; omega
      intro A3 c3 w3 hK3 hg _
      have hB3 : Below w.heap.size w w3 := below_own (hB2.alloc (by omega) _) (hK2.alloc _) (by omega) hg (by simp; omega)
      have hb03 := (hb02.alloc _).grown hg nk0
      have hV3 := own_keep (hV2'.alloc _) (hK2.alloc _) (by decide) hg
      clear hg
      have e2 : kcells ((l.map fun x => (clean x).k).take k) ++ [.int .i64 (clean l[k]).k] = kcells ((l.map fun x => (clean x).k).take (k + 1)) := by
        rw [List.take_succ_eq_append_getElem (by simpa using hlt), List.getElem_map]; unfold kcells; rw [List.map_append]; rfl
      rw [e2] at hK3
      clear e2 d0 d1
      go_wp2
      go_roundw
      case rel => exact ⟨k + 1, A3, A2, c3, c2, by omega, by go_num, rfl, rfl, hB3, hb03, hK3, hV3⟩
      case measure => simp [intOf]; omega
    · obtain rfl : k = l.length := by omega
      clear hlt hk
      rw [List.take_of_length_le (by simp)] at hK
      rw [List.take_length] at hVr
      have hkr : Rd wr wr.heap.size Ak (kcells (l.map fun x => (clean x).k)) := own_rd hK
      have hvr : Rd wr wr.heap.size Av (l.flatMap fun x => (clean x).cells) := own_rd hVr
      clear hK hVr hr
      have hl2 := HL2.out
      subst hl2
      clear HL2
      simp only [List.length_cons, List.length_nil, Nat.zero_add, Nat.reduceAdd] at *
      obtain ⟨b, o, rfl, hb, hc⟩ := hvr.at_ (j := 0) (by simp [V.cells])
      have cx0 : wr.cell? ⟨b, o, none⟩ = some (.int .i64 (clean x).k) := hc 0 _ rfl
      have cx1 : wr.cell? ⟨b, o + 1, none⟩ = some (.int .u64 (clean x).b) := hc 1 _ rfl
      have cy0 : wr.cell? ⟨b, o + 2, none⟩ = some (.int .i64 (clean y).k) := hc 2 _ rfl
      have cy1 : wr.cell? ⟨b, o + 2 + 1, none⟩ = some (.int .u64 (clean y).b) := hc 3 _ rfl
      have hz := hb0.lt
      clear hc hkr hvr
      have fx := HF.out x (by simp)
      have fy := HF.out y (by simp)
      have hL0 : Hid (∀ w : World, Calls Try.prog 28 #[.agg #[.int .i64 (clean x).k, .int .u64 (clean x).b], .agg #[.int .i64 (clean y).k, .int .u64 (clean y).b], .bool true] w fun e w' => e = .returned (.agg #[.int .i64 R.k, .int .u64 R.b]) ∧ Below w.heap.size w w') := Lib.hid fun w => by
        have h := rlogic_any true (clean x) (clean y) (clean_clean x) (clean_clean y) w
        have e : (toldV (if true = true then max (truthI (clean x)) (truthI (clean y)) else min (truthI (clean x)) (truthI (clean y)))).getD none0 = R := by
          rw [← HR.out]
          have t1 : truthI (clean x) = truthI x := by unfold truthI; rw [clean_clean]
          have t2 : truthI (clean y) = truthI y := by unfold truthI; rw [clean_clean]
          rw [t1, t2]; rfl
        rw [e] at h
        exact h
      have HL := hL0
      clear hL0
      go_wp2_with fail
      refine wp_region_t 9 (fun k => false) (by kernel_rfl) (fun k => (applyR11_14 x y R b o cv).getD k .any) (by kernel_rfl) ?_ ?_
      · refine BOk.cons rfl [] [5] rfl rfl (by kernel_rfl) (by kernel_rfl) (fun qK qa wr hB qO qF hK => ?_) ?_
        · have e5 : qa.tmps[5]? = some (.slice (some ⟨b, o, none⟩) 2 cv) := qO.1.trans rfl
          clear qO qF
          go_simp
          exact hK _ _ (Below.refl _ _) rfl
        refine BOk.cons rfl [0] [] rfl rfl (by kernel_rfl) (by kernel_rfl) (fun qK qa wr hB qO qF hK => ?_) ?_
        · obtain ⟨u42, e42, r0⟩ := qF.1
          have e42 : qa.tmps[42]? = some (.slice (some ⟨b, o, none⟩) 2 cv) := (show u42 = .slice (some ⟨b, o, none⟩) 2 cv from r0) ▸ e42
          clear r0
          clear qO qF
          go_simp
          exact hK _ _ (Below.refl _ _) rfl
        refine BOk.cons rfl [1] [] rfl rfl (by kernel_rfl) (by kernel_rfl) (fun qK qa wr hB qO qF hK => ?_) ?_
        · obtain ⟨u43, e43, r1⟩ := qF.1
          have e43 : qa.tmps[43]? = some (.pointer (some ⟨b, o, none⟩)) := (show u43 = .pointer (some ⟨b, o, none⟩) from r1) ▸ e43
          clear r1
          clear qO qF
          have hcx0 := (bcell hB _ _ (World.block_lt_of_cell? _ _ cx0)).trans cx0
          have hcx1 := (bcell hB _ _ (World.block_lt_of_cell? _ _ cx1)).trans cx1
          go_simp
          exact hK _ _ (Below.refl _ _) rfl
        refine BOk.cons rfl [] [5] rfl rfl (by kernel_rfl) (by kernel_rfl) (fun qK qa wr hB qO qF hK => ?_) ?_
        · have e5 : qa.tmps[5]? = some (.slice (some ⟨b, o, none⟩) 2 cv) := qO.1.trans rfl
          clear qO qF
          go_simp
          exact hK _ _ (Below.refl _ _) rfl
        refine BOk.cons rfl [3] [] rfl rfl (by kernel_rfl) (by kernel_rfl) (fun qK qa wr hB qO qF hK => ?_) ?_
        · obtain ⟨u45, e45, r3⟩ := qF.1
          have e45 : qa.tmps[45]? = some (.slice (some ⟨b, o, none⟩) 2 cv) := (show u45 = .slice (some ⟨b, o, none⟩) 2 cv from r3) ▸ e45
          clear r3
          clear qO qF
          go_simp
          exact hK _ _ (Below.refl _ _) rfl
        refine BOk.cons rfl [4] [] rfl rfl (by kernel_rfl) (by kernel_rfl) (fun qK qa wr hB qO qF hK => ?_) ?_
        · obtain ⟨u46, e46, r4⟩ := qF.1
          have e46 : qa.tmps[46]? = some (.pointer (some ⟨b, o + 2, none⟩)) := (show u46 = .pointer (some ⟨b, o + 2, none⟩) from r4) ▸ e46
          clear r4
          clear qO qF
          have hcy0 := (bcell hB _ _ (World.block_lt_of_cell? _ _ cy0)).trans cy0
          have hcy1 := (bcell hB _ _ (World.block_lt_of_cell? _ _ cy1)).trans cy1
          go_simp
          exact hK _ _ (Below.refl _ _) rfl
        refine BOk.cons rfl [] [0] rfl rfl (by kernel_rfl) (by kernel_rfl) (fun qK qa wr hB qO qF hK => ?_) ?_
        · have e0 : qa.tmps[0]? = some (.int .i64 14) := qO.1.trans rfl
          clear qO qF
          go_simp
          exact hK _ _ (Below.refl _ _) rfl
        refine BOk.cons rfl [6] [] rfl rfl (by kernel_rfl) (by kernel_rfl) (fun qK qa wr hB qO qF hK => ?_) ?_
        · obtain ⟨u48, e48, r6⟩ := qF.1
          have e48 : qa.tmps[48]? = some (.int .i64 14) := (show u48 = .int .i64 14 from r6) ▸ e48
          clear r6
          clear qO qF
          go_simp
          refine hK _ _ (Below.refl _ _) ?_
          show (_ : Value) = _
          first | rfl | (simp; done) | (simp; omega)
        refine BOk.cons rfl [2, 5, 7] [] rfl rfl (by kernel_rfl) (by kernel_rfl) (fun qK qa wr hB qO qF hK => ?_) ?_
        · obtain ⟨u44, e44, r2⟩ := qF.1
          have e44 : qa.tmps[44]? = some (.agg #[.int .i64 (clean x).k, .int .u64 (clean x).b]) := (show u44 = .agg #[.int .i64 (clean x).k, .int .u64 (clean x).b] from r2) ▸ e44
          clear r2
          obtain ⟨u47, e47, r5⟩ := qF.2.1
          have e47 : qa.tmps[47]? = some (.agg #[.int .i64 (clean y).k, .int .u64 (clean y).b]) := (show u47 = .agg #[.int .i64 (clean y).k, .int .u64 (clean y).b] from r5) ▸ e47
          clear r5
          obtain ⟨u49, e49, r7⟩ := qF.2.2.1
          have e49 : qa.tmps[49]? = some (.bool true) := (show u49 = .bool true from r7) ▸ e49
          clear r7
          clear qO qF
          go_simp
          go_at_call 28
          refine (HL.out _).mono ?_
          rintro e w2 ⟨rfl, hb2⟩
          exact hK _ _ hb2 rfl
        exact BOk.nil
      intro vals wr hl hB hR hS
      match vals, hl with
      | [z42, z43, z44, z45, z46, z47, z48, z49, z50], _ =>
      have r8 : z50 = .agg #[.int .i64 R.k, .int .u64 R.b] := hR 8 _ rfl
      subst r8
      clear hS
      clear hR
      simp only [List.take_succ_cons, List.take_zero, List.drop_succ_cons, List.drop_zero, List.toList_toArray, List.cons_append, List.nil_append, putAll, Act.put, List.setIfInBounds_toArray, List.set_cons_zero, List.set_cons_succ]
      have kk := hb0.old hB
      have hbel := hbel.trans (hB.mono (by omega))
      clear hB cx0 cx1 cy0 cy1 hb0
      obtain ⟨rk, rb⟩ := R
      have ⟨c0, c1, f0, f1⟩ := vcells kk
      have ⟨d0, d1, _, _⟩ := vcells (vput kk (.int .i64 rk) (.int .u64 rb))
      go_wp2_with fail
      exact bodyPost_ret (v := .agg #[.int .i64 rk, .int .u64 rb]) (by simp [results, Try.results18, go_sem, d0, d1]) rfl ⟨rfl, (hbel.setCell (by simp) _).setCell (by simp) _⟩

set_option maxRecDepth 100000 in
set_option maxHeartbeats 4000000 in
theorem rapply_none1 (op : Int) (l : List V) (A : Option Addr) (c : Nat) (w : World) (hr : Rd w w.heap.size A (l.flatMap V.cells)) (hf : ∀ x ∈ l, x.fits) (hl : l.length * 16 ≤ 140737488351232) (h2 : ((l.length : Int) == 2) = false) (k0 : resK op (l.map fun x => (clean x).k) = 0) (rn : applyV op l = none0) :
    Calls Try.prog 18 #[.int .i64 op, .slice A l.length c] w fun e w' => e = .returned (applyV op l).v ∧ Below w.heap.size w w' := by
  obtain ⟨iV, hV, hV0, hV1, hV2⟩ := info_parts infoRV
  obtain ⟨iI, hI, hI0, hI1, hI2⟩ := info_parts infoRI
  have HF := Lib.hid hf
  clear hf
  generalize hR : applyV op l = R
  have HR := Lib.hid hR
  clear hR
  have HK0 := Lib.hid k0
  have HRN : Hid (none0 = R) := Lib.hid (rn.symm.trans HR.out)
  clear k0 rn
  go_enter Try.func18, Try.ntmps18
  go_wp2_with fail
  go_loopw [5, 6, 15] (fun vs ks i wr => ∃ (k : Nat) (Ak Av : Option Addr) (ck cv : Nat), k ≤ l.length ∧ i = .int .i64 k ∧ ks = .slice Ak k ck ∧ vs = .slice Av k cv ∧ Below w.heap.size w wr ∧
      Bk wr w.heap.size 33 #[.int .i64 0, .int .u64 0] ∧
      wr.ownsRow (w.heap.size + 1) 3 1 ks k (kcells ((l.map fun x => (clean x).k).take k)) ∧
      wr.ownsRow (w.heap.size + 1) 33 2 vs k ((l.take k).flatMap fun x => (clean x).cells)) (fun _ _ i _ => l.length - (intOf i).toNat)
  case atStart => exact ⟨0, none, none, 0, 0, Nat.zero_le _, rfl, rfl, rfl, (Below.refl _ _).alloc (Nat.le_refl _) _, Bk.new _ _ _, World.ownsRow_nil _ _ _ _, World.ownsRow_nil _ _ _ _⟩
  case round =>
    obtain ⟨k, Ak, Av, ck, cv, hk, rfl, rfl, rfl, hbel, hb0, hK, hVr⟩ := hrel
    by_cases hlt : k < l.length
    · obtain ⟨b, o, rfl, hb, hc⟩ := (hr.below hbel).elem (f := V.cells) (n := 2) (fun _ => rfl) (by omega) hlt
      have hc0 : wr.cell? ⟨b, o + k * 2, none⟩ = some (.int .i64 l[k].k) := hc 0 _ rfl
      have hc1 : wr.cell? ⟨b, o + k * 2 + 1, none⟩ = some (.int .u64 l[k].b) := hc 1 _ rfl
      have hfit : l[k].fits := HF.out _ (List.getElem_mem hlt)
      clear hc
      go_wp2_with fail
      refine (rclean_any l[k] hfit _).mono ?_
      rintro e w1 ⟨rfl, hb1⟩
      have hb0 := (hb0.alloc _).old hb1
      have hK := own_old (hK.alloc _) hb1
      have hVr := own_old (hVr.alloc _) hb1
      have hB : Below w.heap.size w w1 := (hbel.alloc hbel.size _).trans (hb1.mono (by have := hbel.size; simp; omega))
      have hz0 := hb0.lt
      simp only [V.v]
      clear hc0 hc1 hb1 hbel hfit
      have hl9 : l.length ≤ 8796093021952 := by omega
      have ne0 : some w.heap.size ≠ (Value.slice Av k cv).ownBlock := fun e => by have := (hVr.lt _ e.symm).1; omega
      have nk0 : some w.heap.size ≠ (Value.slice Ak k ck).ownBlock := fun e => by have := (hK.lt _ e.symm).1; omega
      have ne9 : some w1.heap.size ≠ (Value.slice Av k cv).ownBlock := fun e => by have := (hVr.lt _ e.symm).2; omega
      go_wp2_with (at_builtin; refine wpList_append_rd rfl _ _ 44 rfl (w.heap.size + 1) 33 iV _ 2 16 Try.underlying44 hV hV0 hV1 hV2 rfl (by decide) (.slice Av k cv) k ((l.take k).flatMap fun x => (clean x).cells) rfl ((hVr.alloc _).alloc _) (w1.heap.size + 1 + 1) (some ⟨w1.heap.size + 1, 0, none⟩) 1 1 (clean l[k]).cells rfl (Rd.lit (by simp) _ _) rfl ?c2 ?c3 ?c4 ?c5 ?_)
      case c2 => intro u hu; simp [V.cells] at hu; rcases hu with rfl | rfl <;> rfl
      case c3 => unfold maxLen; omega
      case c4 => omega
      case c5 => simp; omega
      intro A2 c2 w2 hV2' hg hat
      have hB2 : Below w.heap.size w w2 := below_own ((hB.alloc (by omega) _).alloc (by simp; omega) _) ((hVr.alloc _).alloc _) (by omega) hg (by simp; omega)
      have hb02 := ((hb0.alloc _).alloc _).grown hg ne0
      have h92 := ((Bk.new w1 33 #[.int .i64 (clean l[k]).k, .int .u64 (clean l[k]).b]).alloc _).grown hg ne9
      have hK2 := own_keep ((hK.alloc _).alloc _) ((hVr.alloc _).alloc _) (by decide) hg
      clear hg hVr hK hb0 hB ne0 ne9 nk0 hat
      have hz1 := h92.lt
      have hz2 := hb02.lt
      rw [flat_snoc _ l k hlt] at hV2'
      obtain ⟨d0, d1, _, _⟩ := vcells h92
      have nk0 : some w.heap.size ≠ (Value.slice Ak k ck).ownBlock := fun e => by have := (hK2.lt _ e.symm).1; omega
      go_wp2_with (at_builtin; refine wpList_append_rd rfl _ _ 52 rfl (w.heap.size + 1) 3 iI _ 1 8 Try.underlying52 hI hI0 hI1 hI2 rfl (by decide) (.slice Ak k ck) k (kcells ((l.map fun x => (clean x).k).take k)) rfl (hK2.alloc _) (w2.heap.size + 1) (some ⟨w2.heap.size, 0, none⟩) 1 1 [.int .i64 (clean l[k]).k] rfl (Rd.lit rfl _ _) rfl ?d2 ?d3 ?d4 ?d5 ?_)
      case d2 => intro u hu; simp at hu; subst hu; rfl
      case d3 => unfold maxLen; omega
      case d4 => omega
      case d5 => simp; omega
      intro A3 c3 w3 hK3 hg _
      have hB3 : Below w.heap.size w w3 := below_own (hB2.alloc (by omega) _) (hK2.alloc _) (by omega) hg (by simp; omega)
      have hb03 := (hb02.alloc _).grown hg nk0
      have hV3 := own_keep (hV2'.alloc _) (hK2.alloc _) (by decide) hg
      clear hg
      have e2 : kcells ((l.map fun x => (clean x).k).take k) ++ [.int .i64 (clean l[k]).k] = kcells ((l.map fun x => (clean x).k).take (k + 1)) := by
        rw [List.take_succ_eq_append_getElem (by simpa using hlt), List.getElem_map]; unfold kcells; rw [List.map_append]; rfl
      rw [e2] at hK3
      clear e2 d0 d1
      go_wp2
      go_roundw
      case rel => exact ⟨k + 1, A3, A2, c3, c2, by omega, by go_num, rfl, rfl, hB3, hb03, hK3, hV3⟩
      case measure => simp [intOf]; omega
    · obtain rfl : k = l.length := by omega
      clear hlt hk
      rw [List.take_of_length_le (by simp)] at hK
      rw [List.take_length] at hVr
      have hkr : Rd wr wr.heap.size Ak (kcells (l.map fun x => (clean x).k)) := own_rd hK
      have hvr : Rd wr wr.heap.size Av (l.flatMap fun x => (clean x).cells) := own_rd hVr
      clear hK hVr hr
      have hz := hb0.lt
      have hrr := rresult_any op (l.map fun x => (clean x).k) Ak ck wr (by rw [List.length_map]; omega) hkr
      rw [List.length_map, HK0.out] at hrr
      clear hkr hvr
      go_wp2_with fail
      refine hrr.mono ?_
      rintro e w1 ⟨rfl, hb1⟩
      have kk := hb0.old hb1
      have hbel := hbel.trans (hb1.mono hbel.size)
      clear hrr hb1 hb0
      have ⟨c0, c1, f0, f1⟩ := vcells kk
      have ⟨d0, d1, _, _⟩ := vcells (vput kk (.int .i64 0) (.int .u64 0))
      go_wp2_with fail
      exact bodyPost_ret (v := .agg #[.int .i64 0, .int .u64 0]) (by simp [results, Try.results18, go_sem, d0, d1]) rfl ⟨by rw [← HRN.out]; rfl, (hbel.setCell (by simp) _).setCell (by simp) _⟩

set_option maxRecDepth 100000 in
set_option maxHeartbeats 4000000 in
theorem rapply_none2 (op : Int) (l : List V) (A : Option Addr) (c : Nat) (w : World) (hr : Rd w w.heap.size A (l.flatMap V.cells)) (hf : ∀ x ∈ l, x.fits) (hl : l.length * 16 ≤ 140737488351232) (h2 : ((l.length : Int) == 2) = true) (h13 : (op == 13) = false) (h14 : (op == 14) = false) (k0 : resK op (l.map fun x => (clean x).k) = 0) (rn : applyV op l = none0) :
    Calls Try.prog 18 #[.int .i64 op, .slice A l.length c] w fun e w' => e = .returned (applyV op l).v ∧ Below w.heap.size w w' := by
  obtain ⟨iV, hV, hV0, hV1, hV2⟩ := info_parts infoRV
  obtain ⟨iI, hI, hI0, hI1, hI2⟩ := info_parts infoRI
  have HF := Lib.hid hf
  clear hf
  generalize hR : applyV op l = R
  have HR := Lib.hid hR
  clear hR
  have HK0 := Lib.hid k0
  have HRN : Hid (none0 = R) := Lib.hid (rn.symm.trans HR.out)
  clear k0 rn
  go_enter Try.func18, Try.ntmps18
  go_wp2_with fail
  go_loopw [5, 6, 15] (fun vs ks i wr => ∃ (k : Nat) (Ak Av : Option Addr) (ck cv : Nat), k ≤ l.length ∧ i = .int .i64 k ∧ ks = .slice Ak k ck ∧ vs = .slice Av k cv ∧ Below w.heap.size w wr ∧
      Bk wr w.heap.size 33 #[.int .i64 0, .int .u64 0] ∧
      wr.ownsRow (w.heap.size + 1) 3 1 ks k (kcells ((l.map fun x => (clean x).k).take k)) ∧
      wr.ownsRow (w.heap.size + 1) 33 2 vs k ((l.take k).flatMap fun x => (clean x).cells)) (fun _ _ i _ => l.length - (intOf i).toNat)
  case atStart => exact ⟨0, none, none, 0, 0, Nat.zero_le _, rfl, rfl, rfl, (Below.refl _ _).alloc (Nat.le_refl _) _, Bk.new _ _ _, World.ownsRow_nil _ _ _ _, World.ownsRow_nil _ _ _ _⟩
  case round =>
    obtain ⟨k, Ak, Av, ck, cv, hk, rfl, rfl, rfl, hbel, hb0, hK, hVr⟩ := hrel
    by_cases hlt : k < l.length
    · obtain ⟨b, o, rfl, hb, hc⟩ := (hr.below hbel).elem (f := V.cells) (n := 2) (fun _ => rfl) (by omega) hlt
      have hc0 : wr.cell? ⟨b, o + k * 2, none⟩ = some (.int .i64 l[k].k) := hc 0 _ rfl
      have hc1 : wr.cell? ⟨b, o + k * 2 + 1, none⟩ = some (.int .u64 l[k].b) := hc 1 _ rfl
      have hfit : l[k].fits := HF.out _ (List.getElem_mem hlt)
      clear hc
      go_wp2_with fail
      refine (rclean_any l[k] hfit _).mono ?_
      rintro e w1 ⟨rfl, hb1⟩
      have hb0 := (hb0.alloc _).old hb1
      have hK := own_old (hK.alloc _) hb1
      have hVr := own_old (hVr.alloc _) hb1
      have hB : Below w.heap.size w w1 := (hbel.alloc hbel.size _).trans (hb1.mono (by have := hbel.size; simp; omega))
      have hz0 := hb0.lt
      simp only [V.v]
      clear hc0 hc1 hb1 hbel hfit
      have hl9 : l.length ≤ 8796093021952 := by omega
      have ne0 : some w.heap.size ≠ (Value.slice Av k cv).ownBlock := fun e => by have := (hVr.lt _ e.symm).1; omega
      have nk0 : some w.heap.size ≠ (Value.slice Ak k ck).ownBlock := fun e => by have := (hK.lt _ e.symm).1; omega
      have ne9 : some w1.heap.size ≠ (Value.slice Av k cv).ownBlock := fun e => by have := (hVr.lt _ e.symm).2; omega
      go_wp2_with (at_builtin; refine wpList_append_rd rfl _ _ 44 rfl (w.heap.size + 1) 33 iV _ 2 16 Try.underlying44 hV hV0 hV1 hV2 rfl (by decide) (.slice Av k cv) k ((l.take k).flatMap fun x => (clean x).cells) rfl ((hVr.alloc _).alloc _) (w1.heap.size + 1 + 1) (some ⟨w1.heap.size + 1, 0, none⟩) 1 1 (clean l[k]).cells rfl (Rd.lit (by simp) _ _) rfl ?c2 ?c3 ?c4 ?c5 ?_)
      case c2 => intro u hu; simp [V.cells] at hu; rcases hu with rfl | rfl <;> rfl
      case c3 => unfold maxLen; omega
      case c4 => omega
      case c5 => simp; omega
      intro A2 c2 w2 hV2' hg hat
      have hB2 : Below w.heap.size w w2 := below_own ((hB.alloc (by omega) _).alloc (by simp; omega) _) ((hVr.alloc _).alloc _) (by omega) hg (by simp; omega)
      have hb02 := ((hb0.alloc _).alloc _).grown hg ne0
      have h92 := ((Bk.new w1 33 #[.int .i64 (clean l[k]).k, .int .u64 (clean l[k]).b]).alloc _).grown hg ne9
      have hK2 := own_keep ((hK.alloc _).alloc _) ((hVr.alloc _).alloc _) (by decide) hg
      clear hg hVr hK hb0 hB ne0 ne9 nk0 hat
      have hz1 := h92.lt
      have hz2 := hb02.lt
      rw [flat_snoc _ l k hlt] at hV2'
      obtain ⟨d0, d1, _, _⟩ := vcells h92
      have nk0 : some w.heap.size ≠ (Value.slice Ak k ck).ownBlock := fun e => by have := (hK2.lt _ e.symm).1; omega
      go_wp2_with (at_builtin; refine wpList_append_rd rfl _ _ 52 rfl (w.heap.size + 1) 3 iI _ 1 8 Try.underlying52 hI hI0 hI1 hI2 rfl (by decide) (.slice Ak k ck) k (kcells ((l.map fun x => (clean x).k).take k)) rfl (hK2.alloc _) (w2.heap.size + 1) (some ⟨w2.heap.size, 0, none⟩) 1 1 [.int .i64 (clean l[k]).k] rfl (Rd.lit rfl _ _) rfl ?d2 ?d3 ?d4 ?d5 ?_)
      case d2 => intro u hu; simp at hu; subst hu; rfl
      case d3 => unfold maxLen; omega
      case d4 => omega
      case d5 => simp; omega
      intro A3 c3 w3 hK3 hg _
      have hB3 : Below w.heap.size w w3 := below_own (hB2.alloc (by omega) _) (hK2.alloc _) (by omega) hg (by simp; omega)
      have hb03 := (hb02.alloc _).grown hg nk0
      have hV3 := own_keep (hV2'.alloc _) (hK2.alloc _) (by decide) hg
      clear hg
      have e2 : kcells ((l.map fun x => (clean x).k).take k) ++ [.int .i64 (clean l[k]).k] = kcells ((l.map fun x => (clean x).k).take (k + 1)) := by
        rw [List.take_succ_eq_append_getElem (by simpa using hlt), List.getElem_map]; unfold kcells; rw [List.map_append]; rfl
      rw [e2] at hK3
      clear e2 d0 d1
      go_wp2
      go_roundw
      case rel => exact ⟨k + 1, A3, A2, c3, c2, by omega, by go_num, rfl, rfl, hB3, hb03, hK3, hV3⟩
      case measure => simp [intOf]; omega
    · obtain rfl : k = l.length := by omega
      clear hlt hk
      rw [List.take_of_length_le (by simp)] at hK
      rw [List.take_length] at hVr
      have hkr : Rd wr wr.heap.size Ak (kcells (l.map fun x => (clean x).k)) := own_rd hK
      have hvr : Rd wr wr.heap.size Av (l.flatMap fun x => (clean x).cells) := own_rd hVr
      clear hK hVr hr
      have hz := hb0.lt
      have hrr := rresult_any op (l.map fun x => (clean x).k) Ak ck wr (by rw [List.length_map]; omega) hkr
      rw [List.length_map, HK0.out] at hrr
      clear hkr hvr
      go_wp2_with fail
      refine hrr.mono ?_
      rintro e w1 ⟨rfl, hb1⟩
      have kk := hb0.old hb1
      have hbel := hbel.trans (hb1.mono hbel.size)
      clear hrr hb1 hb0
      have ⟨c0, c1, f0, f1⟩ := vcells kk
      have ⟨d0, d1, _, _⟩ := vcells (vput kk (.int .i64 0) (.int .u64 0))
      go_wp2_with fail
      exact bodyPost_ret (v := .agg #[.int .i64 0, .int .u64 0]) (by simp [results, Try.results18, go_sem, d0, d1]) rfl ⟨by rw [← HRN.out]; rfl, (hbel.setCell (by simp) _).setCell (by simp) _⟩

set_option maxRecDepth 100000 in
set_option maxHeartbeats 4000000 in
theorem rapply_cmp2 (op : Int) (l : List V) (A : Option Addr) (c : Nat) (w : World) (hr : Rd w w.heap.size A (l.flatMap V.cells)) (hf : ∀ x ∈ l, x.fits) (hl : l.length * 16 ≤ 140737488351232) (x y : V) (hl2 : l = [x, y]) (k1 : resK op (l.map fun x => (clean x).k) ≠ 0) (h13 : (op == 13) = false) (h14 : (op == 14) = false) (h7 : 7 ≤ op) (h12 : op ≤ 12) (HC : Hid (∀ w : World, Calls Try.prog 30 #[.int .i64 op, .agg #[.int .i64 (clean x).k, .int .u64 (clean x).b], .agg #[.int .i64 (clean y).k, .int .u64 (clean y).b]] w fun e w' => e = .returned (applyV op l).v ∧ Below w.heap.size w w')) :
    Calls Try.prog 18 #[.int .i64 op, .slice A l.length c] w fun e w' => e = .returned (applyV op l).v ∧ Below w.heap.size w w' := by
  obtain ⟨iV, hV, hV0, hV1, hV2⟩ := info_parts infoRV
  obtain ⟨iI, hI, hI0, hI1, hI2⟩ := info_parts infoRI
  have HF := Lib.hid hf
  clear hf
  generalize hR : applyV op l = R at *
  have HR := Lib.hid hR
  clear hR
  have HL2 := Lib.hid hl2
  clear hl2
  have HK1 := Lib.hid k1
  clear k1
  go_enter Try.func18, Try.ntmps18
  go_wp2_with fail
  go_loopw [5, 6, 15] (fun vs ks i wr => ∃ (k : Nat) (Ak Av : Option Addr) (ck cv : Nat), k ≤ l.length ∧ i = .int .i64 k ∧ ks = .slice Ak k ck ∧ vs = .slice Av k cv ∧ Below w.heap.size w wr ∧
      Bk wr w.heap.size 33 #[.int .i64 0, .int .u64 0] ∧
      wr.ownsRow (w.heap.size + 1) 3 1 ks k (kcells ((l.map fun x => (clean x).k).take k)) ∧
      wr.ownsRow (w.heap.size + 1) 33 2 vs k ((l.take k).flatMap fun x => (clean x).cells)) (fun _ _ i _ => l.length - (intOf i).toNat)
  case atStart => exact ⟨0, none, none, 0, 0, Nat.zero_le _, rfl, rfl, rfl, (Below.refl _ _).alloc (Nat.le_refl _) _, Bk.new _ _ _, World.ownsRow_nil _ _ _ _, World.ownsRow_nil _ _ _ _⟩
  case round =>
    obtain ⟨k, Ak, Av, ck, cv, hk, rfl, rfl, rfl, hbel, hb0, hK, hVr⟩ := hrel
    by_cases hlt : k < l.length
    · obtain ⟨b, o, rfl, hb, hc⟩ := (hr.below hbel).elem (f := V.cells) (n := 2) (fun _ => rfl) (by omega) hlt
      have hc0 : wr.cell? ⟨b, o + k * 2, none⟩ = some (.int .i64 l[k].k) := hc 0 _ rfl
      have hc1 : wr.cell? ⟨b, o + k * 2 + 1, none⟩ = some (.int .u64 l[k].b) := hc 1 _ rfl
      have hfit : l[k].fits := HF.out _ (List.getElem_mem hlt)
      clear hc
      go_wp2_with fail
      refine (rclean_any l[k] hfit _).mono ?_
      rintro e w1 ⟨rfl, hb1⟩
      have hb0 := (hb0.alloc _).old hb1
      have hK := own_old (hK.alloc _) hb1
      have hVr := own_old (hVr.alloc _) hb1
      have hB : Below w.heap.size w w1 := (hbel.alloc hbel.size _).trans (hb1.mono (by have := hbel.size; simp; omega))
      have hz0 := hb0.lt
      simp only [V.v]
      clear hc0 hc1 hb1 hbel hfit
      have hl9 : l.length ≤ 8796093021952 := by omega
      have ne0 : some w.heap.size ≠ (Value.slice Av k cv).ownBlock := fun e => by have := (hVr.lt _ e.symm).1; omega
      have nk0 : some w.heap.size ≠ (Value.slice Ak k ck).ownBlock := fun e => by have := (hK.lt _ e.symm).1; omega
      have ne9 : some w1.heap.size ≠ (Value.slice Av k cv).ownBlock := fun e => by have := (hVr.lt _ e.symm).2; omega
      go_wp2_with (at_builtin; refine wpList_append_rd rfl _ _ 44 rfl (w.heap.size + 1) 33 iV _ 2 16 Try.underlying44 hV hV0 hV1 hV2 rfl (by decide) (.slice Av k cv) k ((l.take k).flatMap fun x => (clean x).cells) rfl ((hVr.alloc _).alloc _) (w1.heap.size + 1 + 1) (some ⟨w1.heap.size + 1, 0, none⟩) 1 1 (clean l[k]).cells rfl (Rd.lit (by simp) _ _) rfl ?c2 ?c3 ?c4 ?c5 ?_)
      case c2 => intro u hu; simp [V.cells] at hu; rcases hu with rfl | rfl <;> rfl
      case c3 => unfold maxLen; omega
      case c4 => omega
      case c5 => simp; omega
      intro A2 c2 w2 hV2' hg hat
      have hB2 : Below w.heap.size w w2 := below_own ((hB.alloc (by omega) _).alloc (by simp; omega) _) ((hVr.alloc _).alloc _) (by omega) hg (by simp; omega)
      have hb02 := ((hb0.alloc _).alloc _).grown hg ne0
      have h92 := ((Bk.new w1 33 #[.int .i64 (clean l[k]).k, .int .u64 (clean l[k]).b]).alloc _).grown hg ne9
      have hK2 := own_keep ((hK.alloc _).alloc _) ((hVr.alloc _).alloc _) (by decide) hg
      clear hg hVr hK hb0 hB ne0 ne9 nk0 hat
      have hz1 := h92.lt
      have hz2 := hb02.lt
      rw [flat_snoc _ l k hlt] at hV2'
      obtain ⟨d0, d1, _, _⟩ := vcells h92
      have nk0 : some w.heap.size ≠ (Value.slice Ak k ck).ownBlock := fun e => by have := (hK2.lt _ e.symm).1; omega
      go_wp2_with (at_builtin; refine wpList_append_rd rfl _ _ 52 rfl (w.heap.size + 1) 3 iI _ 1 8 Try.underlying52 hI hI0 hI1 hI2 rfl (by decide) (.slice Ak k ck) k (kcells ((l.map fun x => (clean x).k).take k)) rfl (hK2.alloc _) (w2.heap.size + 1) (some ⟨w2.heap.size, 0, none⟩) 1 1 [.int .i64 (clean l[k]).k] rfl (Rd.lit rfl _ _) rfl ?d2 ?d3 ?d4 ?d5 ?_)
      case d2 => intro u hu; simp at hu; subst hu; rfl
      case d3 => unfold maxLen; omega
      case d4 => omega
      case d5 => simp; omega
      intro A3 c3 w3 hK3 hg _
      have hB3 : Below w.heap.size w w3 := below_own (hB2.alloc (by omega) _) (hK2.alloc _) (by omega) hg (by simp; omega)
      have hb03 := (hb02.alloc _).grown hg nk0
      have hV3 := own_keep (hV2'.alloc _) (hK2.alloc _) (by decide) hg
      clear hg
      have e2 : kcells ((l.map fun x => (clean x).k).take k) ++ [.int .i64 (clean l[k]).k] = kcells ((l.map fun x => (clean x).k).take (k + 1)) := by
        rw [List.take_succ_eq_append_getElem (by simpa using hlt), List.getElem_map]; unfold kcells; rw [List.map_append]; rfl
      rw [e2] at hK3
      clear e2 d0 d1
      go_wp2
      go_roundw
      case rel => exact ⟨k + 1, A3, A2, c3, c2, by omega, by go_num, rfl, rfl, hB3, hb03, hK3, hV3⟩
      case measure => simp [intOf]; omega
    · obtain rfl : k = l.length := by omega
      clear hlt hk
      rw [List.take_of_length_le (by simp)] at hK
      rw [List.take_length] at hVr
      have hkr : Rd wr wr.heap.size Ak (kcells (l.map fun x => (clean x).k)) := own_rd hK
      have hvr : Rd wr wr.heap.size Av (l.flatMap fun x => (clean x).cells) := own_rd hVr
      clear hK hVr hr
      have hz := hb0.lt
      have hrr := rresult_any op (l.map fun x => (clean x).k) Ak ck wr (by rw [List.length_map]; omega) hkr
      rw [List.length_map] at hrr
      generalize hk : resK op (l.map fun x => (clean x).k) = K at *
      have hk0 : (K == 0) = false := beq_eq_false_iff_ne.2 (HK1.out)
      have hl2 := HL2.out
      subst hl2
      clear HL2 hk HK1
      simp only [List.length_cons, List.length_nil, Nat.zero_add, Nat.reduceAdd] at *
      clear hkr
      go_wp2_with fail
      refine hrr.mono ?_
      rintro e w1 ⟨rfl, hb1⟩
      have hb0 := hb0.old hb1
      have hvr := hvr.below hb1
      have hbel := hbel.trans (hb1.mono hbel.size)
      clear hrr hb1
      have hz := hb0.lt
      obtain ⟨b, o, rfl, hb, hc⟩ := hvr.at_ (j := 0) (by simp [V.cells])
      have cx0 : w1.cell? ⟨b, o, none⟩ = some (.int .i64 (clean x).k) := hc 0 _ rfl
      have cx1 : w1.cell? ⟨b, o + 1, none⟩ = some (.int .u64 (clean x).b) := hc 1 _ rfl
      have cy0 : w1.cell? ⟨b, o + 2, none⟩ = some (.int .i64 (clean y).k) := hc 2 _ rfl
      have cy1 : w1.cell? ⟨b, o + 2 + 1, none⟩ = some (.int .u64 (clean y).b) := hc 3 _ rfl
      clear hc hvr
      have n0 := World.new_ne w1 _ cx0
      have n1 := World.new_ne w1 _ cx1
      have n2 := World.new_ne w1 _ cy0
      have n3 := World.new_ne w1 _ cy1
      have hs1 : IntKind.i64.wrap (2 - 1) = 1 := by decide
      have hs2 : IntKind.i64.wrap 1 = 1 := by decide
      go_wp2_with fail
      go_region_held3 (fun w' => w'.cell? ⟨b, o, none⟩ = some (.int .i64 (clean x).k) ∧ w'.cell? ⟨b, o + 1, none⟩ = some (.int .u64 (clean x).b) ∧ w'.cell? ⟨b, o + 2, none⟩ = some (.int .i64 (clean y).k) ∧ w'.cell? ⟨b, o + 2 + 1, none⟩ = some (.int .u64 (clean y).b)) (go_keep) (fail)
      all_goals (
        try clear n0 n1 n2 n3
        try clear n0 n1
        go_wp2_with fail
        refine (HC.out _).mono ?_
        rintro e w2 ⟨rfl, hb2⟩
        have kk : Bk w2 w.heap.size 33 #[.int .i64 0, .int .u64 0] := by
          refine Bk.old ?_ hb2
          repeat (first | exact hb0 | apply Bk.alloc | apply Bk.drew)
        have hbel : Below w.heap.size w w2 := by
          refine Below.trans ?_ (hb2.mono ?_)
          · repeat (first | exact hbel | apply Below.drew | refine Below.alloc ?_ (by first | omega | (simp; omega)) _)
          · simp; omega
        clear hb2 hb0 cx0 cx1 cy0 cy1
        obtain ⟨rk, rb⟩ := R
        simp only [V.v]
        have ⟨c0, c1, f0, f1⟩ := vcells kk
        have ⟨d0, d1, _, _⟩ := vcells (vput kk (.int .i64 rk) (.int .u64 rb))
        go_wp2_with fail
        exact bodyPost_ret (v := .agg #[.int .i64 rk, .int .u64 rb]) (by simp [results, Try.results18, go_sem, d0, d1]) rfl ⟨rfl, (hbel.setCell (by simp) _).setCell (by simp) _⟩
        )

set_option maxRecDepth 100000 in
set_option maxHeartbeats 4000000 in
theorem rapply_float2 (op : Int) (l : List V) (A : Option Addr) (c : Nat) (w : World) (hr : Rd w w.heap.size A (l.flatMap V.cells)) (hf : ∀ x ∈ l, x.fits) (hl : l.length * 16 ≤ 140737488351232) (x y : V) (hl2 : l = [x, y]) (k1 : resK op (l.map fun x => (clean x).k) ≠ 0) (h13 : (op == 13) = false) (h14 : (op == 14) = false) (h7 : op < 7 ∨ 12 < op) (h4 : ((clean x).k == 4) = true) (HC : Hid (∀ w : World, Calls Try.prog 31 #[.int .i64 op, .int .u64 (clean x).b, .int .u64 (clean y).b] w fun e w' => e = .returned (applyV op l).v ∧ Below w.heap.size w w')) :
    Calls Try.prog 18 #[.int .i64 op, .slice A l.length c] w fun e w' => e = .returned (applyV op l).v ∧ Below w.heap.size w w' := by
  obtain ⟨iV, hV, hV0, hV1, hV2⟩ := info_parts infoRV
  obtain ⟨iI, hI, hI0, hI1, hI2⟩ := info_parts infoRI
  have HF := Lib.hid hf
  clear hf
  generalize hR : applyV op l = R at *
  have HR := Lib.hid hR
  clear hR
  have HL2 := Lib.hid hl2
  clear hl2
  have HK1 := Lib.hid k1
  clear k1
  go_enter Try.func18, Try.ntmps18
  go_wp2_with fail
  go_loopw [5, 6, 15] (fun vs ks i wr => ∃ (k : Nat) (Ak Av : Option Addr) (ck cv : Nat), k ≤ l.length ∧ i = .int .i64 k ∧ ks = .slice Ak k ck ∧ vs = .slice Av k cv ∧ Below w.heap.size w wr ∧
      Bk wr w.heap.size 33 #[.int .i64 0, .int .u64 0] ∧
      wr.ownsRow (w.heap.size + 1) 3 1 ks k (kcells ((l.map fun x => (clean x).k).take k)) ∧
      wr.ownsRow (w.heap.size + 1) 33 2 vs k ((l.take k).flatMap fun x => (clean x).cells)) (fun _ _ i _ => l.length - (intOf i).toNat)
  case atStart => exact ⟨0, none, none, 0, 0, Nat.zero_le _, rfl, rfl, rfl, (Below.refl _ _).alloc (Nat.le_refl _) _, Bk.new _ _ _, World.ownsRow_nil _ _ _ _, World.ownsRow_nil _ _ _ _⟩
  case round =>
    obtain ⟨k, Ak, Av, ck, cv, hk, rfl, rfl, rfl, hbel, hb0, hK, hVr⟩ := hrel
    by_cases hlt : k < l.length
    · obtain ⟨b, o, rfl, hb, hc⟩ := (hr.below hbel).elem (f := V.cells) (n := 2) (fun _ => rfl) (by omega) hlt
      have hc0 : wr.cell? ⟨b, o + k * 2, none⟩ = some (.int .i64 l[k].k) := hc 0 _ rfl
      have hc1 : wr.cell? ⟨b, o + k * 2 + 1, none⟩ = some (.int .u64 l[k].b) := hc 1 _ rfl
      have hfit : l[k].fits := HF.out _ (List.getElem_mem hlt)
      clear hc
      go_wp2_with fail
      refine (rclean_any l[k] hfit _).mono ?_
      rintro e w1 ⟨rfl, hb1⟩
      have hb0 := (hb0.alloc _).old hb1
      have hK := own_old (hK.alloc _) hb1
      have hVr := own_old (hVr.alloc _) hb1
      have hB : Below w.heap.size w w1 := (hbel.alloc hbel.size _).trans (hb1.mono (by have := hbel.size; simp; omega))
      have hz0 := hb0.lt
      simp only [V.v]
      clear hc0 hc1 hb1 hbel hfit
      have hl9 : l.length ≤ 8796093021952 := by omega
      have ne0 : some w.heap.size ≠ (Value.slice Av k cv).ownBlock := fun e => by have := (hVr.lt _ e.symm).1; omega
      have nk0 : some w.heap.size ≠ (Value.slice Ak k ck).ownBlock := fun e => by have := (hK.lt _ e.symm).1; omega
      have ne9 : some w1.heap.size ≠ (Value.slice Av k cv).ownBlock := fun e => by have := (hVr.lt _ e.symm).2; omega
      go_wp2_with (at_builtin; refine wpList_append_rd rfl _ _ 44 rfl (w.heap.size + 1) 33 iV _ 2 16 Try.underlying44 hV hV0 hV1 hV2 rfl (by decide) (.slice Av k cv) k ((l.take k).flatMap fun x => (clean x).cells) rfl ((hVr.alloc _).alloc _) (w1.heap.size + 1 + 1) (some ⟨w1.heap.size + 1, 0, none⟩) 1 1 (clean l[k]).cells rfl (Rd.lit (by simp) _ _) rfl ?c2 ?c3 ?c4 ?c5 ?_)
      case c2 => intro u hu; simp [V.cells] at hu; rcases hu with rfl | rfl <;> rfl
      case c3 => unfold maxLen; omega
      case c4 => omega
      case c5 => simp; omega
      intro A2 c2 w2 hV2' hg hat
      have hB2 : Below w.heap.size w w2 := below_own ((hB.alloc (by omega) _).alloc (by simp; omega) _) ((hVr.alloc _).alloc _) (by omega) hg (by simp; omega)
      have hb02 := ((hb0.alloc _).alloc _).grown hg ne0
      have h92 := ((Bk.new w1 33 #[.int .i64 (clean l[k]).k, .int .u64 (clean l[k]).b]).alloc _).grown hg ne9
      have hK2 := own_keep ((hK.alloc _).alloc _) ((hVr.alloc _).alloc _) (by decide) hg
      clear hg hVr hK hb0 hB ne0 ne9 nk0 hat
      have hz1 := h92.lt
      have hz2 := hb02.lt
      rw [flat_snoc _ l k hlt] at hV2'
      obtain ⟨d0, d1, _, _⟩ := vcells h92
      have nk0 : some w.heap.size ≠ (Value.slice Ak k ck).ownBlock := fun e => by have := (hK2.lt _ e.symm).1; omega
      go_wp2_with (at_builtin; refine wpList_append_rd rfl _ _ 52 rfl (w.heap.size + 1) 3 iI _ 1 8 Try.underlying52 hI hI0 hI1 hI2 rfl (by decide) (.slice Ak k ck) k (kcells ((l.map fun x => (clean x).k).take k)) rfl (hK2.alloc _) (w2.heap.size + 1) (some ⟨w2.heap.size, 0, none⟩) 1 1 [.int .i64 (clean l[k]).k] rfl (Rd.lit rfl _ _) rfl ?d2 ?d3 ?d4 ?d5 ?_)
      case d2 => intro u hu; simp at hu; subst hu; rfl
      case d3 => unfold maxLen; omega
      case d4 => omega
      case d5 => simp; omega
      intro A3 c3 w3 hK3 hg _
      have hB3 : Below w.heap.size w w3 := below_own (hB2.alloc (by omega) _) (hK2.alloc _) (by omega) hg (by simp; omega)
      have hb03 := (hb02.alloc _).grown hg nk0
      have hV3 := own_keep (hV2'.alloc _) (hK2.alloc _) (by decide) hg
      clear hg
      have e2 : kcells ((l.map fun x => (clean x).k).take k) ++ [.int .i64 (clean l[k]).k] = kcells ((l.map fun x => (clean x).k).take (k + 1)) := by
        rw [List.take_succ_eq_append_getElem (by simpa using hlt), List.getElem_map]; unfold kcells; rw [List.map_append]; rfl
      rw [e2] at hK3
      clear e2 d0 d1
      go_wp2
      go_roundw
      case rel => exact ⟨k + 1, A3, A2, c3, c2, by omega, by go_num, rfl, rfl, hB3, hb03, hK3, hV3⟩
      case measure => simp [intOf]; omega
    · obtain rfl : k = l.length := by omega
      clear hlt hk
      rw [List.take_of_length_le (by simp)] at hK
      rw [List.take_length] at hVr
      have hkr : Rd wr wr.heap.size Ak (kcells (l.map fun x => (clean x).k)) := own_rd hK
      have hvr : Rd wr wr.heap.size Av (l.flatMap fun x => (clean x).cells) := own_rd hVr
      clear hK hVr hr
      have hz := hb0.lt
      have hrr := rresult_any op (l.map fun x => (clean x).k) Ak ck wr (by rw [List.length_map]; omega) hkr
      rw [List.length_map] at hrr
      generalize hk : resK op (l.map fun x => (clean x).k) = K at *
      have hk0 : (K == 0) = false := beq_eq_false_iff_ne.2 (HK1.out)
      have hl2 := HL2.out
      subst hl2
      clear HL2 hk HK1
      simp only [List.length_cons, List.length_nil, Nat.zero_add, Nat.reduceAdd] at *
      clear hkr
      go_wp2_with fail
      refine hrr.mono ?_
      rintro e w1 ⟨rfl, hb1⟩
      have hb0 := hb0.old hb1
      have hvr := hvr.below hb1
      have hbel := hbel.trans (hb1.mono hbel.size)
      clear hrr hb1
      have hz := hb0.lt
      obtain ⟨b, o, rfl, hb, hc⟩ := hvr.at_ (j := 0) (by simp [V.cells])
      have cx0 : w1.cell? ⟨b, o, none⟩ = some (.int .i64 (clean x).k) := hc 0 _ rfl
      have cx1 : w1.cell? ⟨b, o + 1, none⟩ = some (.int .u64 (clean x).b) := hc 1 _ rfl
      have cy0 : w1.cell? ⟨b, o + 2, none⟩ = some (.int .i64 (clean y).k) := hc 2 _ rfl
      have cy1 : w1.cell? ⟨b, o + 2 + 1, none⟩ = some (.int .u64 (clean y).b) := hc 3 _ rfl
      clear hc hvr
      have n0 := World.new_ne w1 _ cx0
      have n1 := World.new_ne w1 _ cx1
      have n2 := World.new_ne w1 _ cy0
      have n3 := World.new_ne w1 _ cy1
      have hs1 : IntKind.i64.wrap (2 - 1) = 1 := by decide
      have hs2 : IntKind.i64.wrap 1 = 1 := by decide
      go_wp2_with fail
      go_region_held3 (fun w' => w'.cell? ⟨b, o, none⟩ = some (.int .i64 (clean x).k) ∧ w'.cell? ⟨b, o + 1, none⟩ = some (.int .u64 (clean x).b) ∧ w'.cell? ⟨b, o + 2, none⟩ = some (.int .i64 (clean y).k) ∧ w'.cell? ⟨b, o + 2 + 1, none⟩ = some (.int .u64 (clean y).b)) (go_keep) (fail)
      all_goals (
        try clear n0 n1 n2 n3
        try clear n0 n1
        have H7 := Lib.hid h7
        clear h7
        rcases H7.out with h7 | h7
        all_goals (
          go_wp2_with fail
          refine (HC.out _).mono ?_
          rintro e w2 ⟨rfl, hb2⟩
          have kk : Bk w2 w.heap.size 33 #[.int .i64 0, .int .u64 0] := by
            refine Bk.old ?_ hb2
            repeat (first | exact hb0 | apply Bk.alloc | apply Bk.drew)
          have hbel : Below w.heap.size w w2 := by
            refine Below.trans ?_ (hb2.mono ?_)
            · repeat (first | exact hbel | apply Below.drew | refine Below.alloc ?_ (by first | omega | (simp; omega)) _)
            · simp; omega
          clear hb2 hb0 cx0 cx1 cy0 cy1
          obtain ⟨rk, rb⟩ := R
          simp only [V.v]
          have ⟨c0, c1, f0, f1⟩ := vcells kk
          have ⟨d0, d1, _, _⟩ := vcells (vput kk (.int .i64 rk) (.int .u64 rb))
          go_wp2_with fail
          exact bodyPost_ret (v := .agg #[.int .i64 rk, .int .u64 rb]) (by simp [results, Try.results18, go_sem, d0, d1]) rfl ⟨rfl, (hbel.setCell (by simp) _).setCell (by simp) _⟩
          )
        )

set_option maxRecDepth 100000 in
set_option maxHeartbeats 4000000 in
theorem rapply_whole2 (op : Int) (l : List V) (A : Option Addr) (c : Nat) (w : World) (hr : Rd w w.heap.size A (l.flatMap V.cells)) (hf : ∀ x ∈ l, x.fits) (hl : l.length * 16 ≤ 140737488351232) (x y : V) (hl2 : l = [x, y]) (k1 : resK op (l.map fun x => (clean x).k) ≠ 0) (h13 : (op == 13) = false) (h14 : (op == 14) = false) (h7 : op < 7 ∨ 12 < op) (h4 : ((clean x).k == 4) = false) (HC : Hid (∀ w : World, Calls Try.prog 32 #[.int .i64 op, .int .i64 (wrap64 (clean x).b), .int .i64 (wrap64 (clean y).b)] w fun e w' => e = .returned (applyV op l).v ∧ Below w.heap.size w w')) :
    Calls Try.prog 18 #[.int .i64 op, .slice A l.length c] w fun e w' => e = .returned (applyV op l).v ∧ Below w.heap.size w w' := by
  obtain ⟨iV, hV, hV0, hV1, hV2⟩ := info_parts infoRV
  obtain ⟨iI, hI, hI0, hI1, hI2⟩ := info_parts infoRI
  have HF := Lib.hid hf
  clear hf
  generalize hR : applyV op l = R at *
  have HR := Lib.hid hR
  clear hR
  have HL2 := Lib.hid hl2
  clear hl2
  have HK1 := Lib.hid k1
  clear k1
  go_enter Try.func18, Try.ntmps18
  go_wp2_with fail
  go_loopw [5, 6, 15] (fun vs ks i wr => ∃ (k : Nat) (Ak Av : Option Addr) (ck cv : Nat), k ≤ l.length ∧ i = .int .i64 k ∧ ks = .slice Ak k ck ∧ vs = .slice Av k cv ∧ Below w.heap.size w wr ∧
      Bk wr w.heap.size 33 #[.int .i64 0, .int .u64 0] ∧
      wr.ownsRow (w.heap.size + 1) 3 1 ks k (kcells ((l.map fun x => (clean x).k).take k)) ∧
      wr.ownsRow (w.heap.size + 1) 33 2 vs k ((l.take k).flatMap fun x => (clean x).cells)) (fun _ _ i _ => l.length - (intOf i).toNat)
  case atStart => exact ⟨0, none, none, 0, 0, Nat.zero_le _, rfl, rfl, rfl, (Below.refl _ _).alloc (Nat.le_refl _) _, Bk.new _ _ _, World.ownsRow_nil _ _ _ _, World.ownsRow_nil _ _ _ _⟩
  case round =>
    obtain ⟨k, Ak, Av, ck, cv, hk, rfl, rfl, rfl, hbel, hb0, hK, hVr⟩ := hrel
    by_cases hlt : k < l.length
    · obtain ⟨b, o, rfl, hb, hc⟩ := (hr.below hbel).elem (f := V.cells) (n := 2) (fun _ => rfl) (by omega) hlt
      have hc0 : wr.cell? ⟨b, o + k * 2, none⟩ = some (.int .i64 l[k].k) := hc 0 _ rfl
      have hc1 : wr.cell? ⟨b, o + k * 2 + 1, none⟩ = some (.int .u64 l[k].b) := hc 1 _ rfl
      have hfit : l[k].fits := HF.out _ (List.getElem_mem hlt)
      clear hc
      go_wp2_with fail
      refine (rclean_any l[k] hfit _).mono ?_
      rintro e w1 ⟨rfl, hb1⟩
      have hb0 := (hb0.alloc _).old hb1
      have hK := own_old (hK.alloc _) hb1
      have hVr := own_old (hVr.alloc _) hb1
      have hB : Below w.heap.size w w1 := (hbel.alloc hbel.size _).trans (hb1.mono (by have := hbel.size; simp; omega))
      have hz0 := hb0.lt
      simp only [V.v]
      clear hc0 hc1 hb1 hbel hfit
      have hl9 : l.length ≤ 8796093021952 := by omega
      have ne0 : some w.heap.size ≠ (Value.slice Av k cv).ownBlock := fun e => by have := (hVr.lt _ e.symm).1; omega
      have nk0 : some w.heap.size ≠ (Value.slice Ak k ck).ownBlock := fun e => by have := (hK.lt _ e.symm).1; omega
      have ne9 : some w1.heap.size ≠ (Value.slice Av k cv).ownBlock := fun e => by have := (hVr.lt _ e.symm).2; omega
      go_wp2_with (at_builtin; refine wpList_append_rd rfl _ _ 44 rfl (w.heap.size + 1) 33 iV _ 2 16 Try.underlying44 hV hV0 hV1 hV2 rfl (by decide) (.slice Av k cv) k ((l.take k).flatMap fun x => (clean x).cells) rfl ((hVr.alloc _).alloc _) (w1.heap.size + 1 + 1) (some ⟨w1.heap.size + 1, 0, none⟩) 1 1 (clean l[k]).cells rfl (Rd.lit (by simp) _ _) rfl ?c2 ?c3 ?c4 ?c5 ?_)
      case c2 => intro u hu; simp [V.cells] at hu; rcases hu with rfl | rfl <;> rfl
      case c3 => unfold maxLen; omega
      case c4 => omega
      case c5 => simp; omega
      intro A2 c2 w2 hV2' hg hat
      have hB2 : Below w.heap.size w w2 := below_own ((hB.alloc (by omega) _).alloc (by simp; omega) _) ((hVr.alloc _).alloc _) (by omega) hg (by simp; omega)
      have hb02 := ((hb0.alloc _).alloc _).grown hg ne0
      have h92 := ((Bk.new w1 33 #[.int .i64 (clean l[k]).k, .int .u64 (clean l[k]).b]).alloc _).grown hg ne9
      have hK2 := own_keep ((hK.alloc _).alloc _) ((hVr.alloc _).alloc _) (by decide) hg
      clear hg hVr hK hb0 hB ne0 ne9 nk0 hat
      have hz1 := h92.lt
      have hz2 := hb02.lt
      rw [flat_snoc _ l k hlt] at hV2'
      obtain ⟨d0, d1, _, _⟩ := vcells h92
      have nk0 : some w.heap.size ≠ (Value.slice Ak k ck).ownBlock := fun e => by have := (hK2.lt _ e.symm).1; omega
      go_wp2_with (at_builtin; refine wpList_append_rd rfl _ _ 52 rfl (w.heap.size + 1) 3 iI _ 1 8 Try.underlying52 hI hI0 hI1 hI2 rfl (by decide) (.slice Ak k ck) k (kcells ((l.map fun x => (clean x).k).take k)) rfl (hK2.alloc _) (w2.heap.size + 1) (some ⟨w2.heap.size, 0, none⟩) 1 1 [.int .i64 (clean l[k]).k] rfl (Rd.lit rfl _ _) rfl ?d2 ?d3 ?d4 ?d5 ?_)
      case d2 => intro u hu; simp at hu; subst hu; rfl
      case d3 => unfold maxLen; omega
      case d4 => omega
      case d5 => simp; omega
      intro A3 c3 w3 hK3 hg _
      have hB3 : Below w.heap.size w w3 := below_own (hB2.alloc (by omega) _) (hK2.alloc _) (by omega) hg (by simp; omega)
      have hb03 := (hb02.alloc _).grown hg nk0
      have hV3 := own_keep (hV2'.alloc _) (hK2.alloc _) (by decide) hg
      clear hg
      have e2 : kcells ((l.map fun x => (clean x).k).take k) ++ [.int .i64 (clean l[k]).k] = kcells ((l.map fun x => (clean x).k).take (k + 1)) := by
        rw [List.take_succ_eq_append_getElem (by simpa using hlt), List.getElem_map]; unfold kcells; rw [List.map_append]; rfl
      rw [e2] at hK3
      clear e2 d0 d1
      go_wp2
      go_roundw
      case rel => exact ⟨k + 1, A3, A2, c3, c2, by omega, by go_num, rfl, rfl, hB3, hb03, hK3, hV3⟩
      case measure => simp [intOf]; omega
    · obtain rfl : k = l.length := by omega
      clear hlt hk
      rw [List.take_of_length_le (by simp)] at hK
      rw [List.take_length] at hVr
      have hkr : Rd wr wr.heap.size Ak (kcells (l.map fun x => (clean x).k)) := own_rd hK
      have hvr : Rd wr wr.heap.size Av (l.flatMap fun x => (clean x).cells) := own_rd hVr
      clear hK hVr hr
      have hz := hb0.lt
      have hrr := rresult_any op (l.map fun x => (clean x).k) Ak ck wr (by rw [List.length_map]; omega) hkr
      rw [List.length_map] at hrr
      generalize hk : resK op (l.map fun x => (clean x).k) = K at *
      have hk0 : (K == 0) = false := beq_eq_false_iff_ne.2 (HK1.out)
      have hl2 := HL2.out
      subst hl2
      clear HL2 hk HK1
      simp only [List.length_cons, List.length_nil, Nat.zero_add, Nat.reduceAdd] at *
      clear hkr
      go_wp2_with fail
      refine hrr.mono ?_
      rintro e w1 ⟨rfl, hb1⟩
      have hb0 := hb0.old hb1
      have hvr := hvr.below hb1
      have hbel := hbel.trans (hb1.mono hbel.size)
      clear hrr hb1
      have hz := hb0.lt
      obtain ⟨b, o, rfl, hb, hc⟩ := hvr.at_ (j := 0) (by simp [V.cells])
      have cx0 : w1.cell? ⟨b, o, none⟩ = some (.int .i64 (clean x).k) := hc 0 _ rfl
      have cx1 : w1.cell? ⟨b, o + 1, none⟩ = some (.int .u64 (clean x).b) := hc 1 _ rfl
      have cy0 : w1.cell? ⟨b, o + 2, none⟩ = some (.int .i64 (clean y).k) := hc 2 _ rfl
      have cy1 : w1.cell? ⟨b, o + 2 + 1, none⟩ = some (.int .u64 (clean y).b) := hc 3 _ rfl
      clear hc hvr
      have n0 := World.new_ne w1 _ cx0
      have n1 := World.new_ne w1 _ cx1
      have n2 := World.new_ne w1 _ cy0
      have n3 := World.new_ne w1 _ cy1
      have hs1 : IntKind.i64.wrap (2 - 1) = 1 := by decide
      have hs2 : IntKind.i64.wrap 1 = 1 := by decide
      go_wp2_with fail
      go_region_held3 (fun w' => w'.cell? ⟨b, o, none⟩ = some (.int .i64 (clean x).k) ∧ w'.cell? ⟨b, o + 1, none⟩ = some (.int .u64 (clean x).b) ∧ w'.cell? ⟨b, o + 2, none⟩ = some (.int .i64 (clean y).k) ∧ w'.cell? ⟨b, o + 2 + 1, none⟩ = some (.int .u64 (clean y).b)) (go_keep) (fail)
      all_goals (
        try clear n0 n1 n2 n3
        try clear n0 n1
        have H7 := Lib.hid h7
        clear h7
        rcases H7.out with h7 | h7
        all_goals (
          go_wp2_with fail
          refine (HC.out _).mono ?_
          rintro e w2 ⟨rfl, hb2⟩
          have kk : Bk w2 w.heap.size 33 #[.int .i64 0, .int .u64 0] := by
            refine Bk.old ?_ hb2
            repeat (first | exact hb0 | apply Bk.alloc | apply Bk.drew)
          have hbel : Below w.heap.size w w2 := by
            refine Below.trans ?_ (hb2.mono ?_)
            · repeat (first | exact hbel | apply Below.drew | refine Below.alloc ?_ (by first | omega | (simp; omega)) _)
            · simp; omega
          clear hb2 hb0 cx0 cx1 cy0 cy1
          obtain ⟨rk, rb⟩ := R
          simp only [V.v]
          have ⟨c0, c1, f0, f1⟩ := vcells kk
          have ⟨d0, d1, _, _⟩ := vcells (vput kk (.int .i64 rk) (.int .u64 rb))
          go_wp2_with fail
          exact bodyPost_ret (v := .agg #[.int .i64 rk, .int .u64 rb]) (by simp [results, Try.results18, go_sem, d0, d1]) rfl ⟨rfl, (hbel.setCell (by simp) _).setCell (by simp) _⟩
          )
        )

set_option maxRecDepth 100000 in
set_option maxHeartbeats 4000000 in
theorem rapply_float1 (op : Int) (l : List V) (A : Option Addr) (c : Nat) (w : World) (hr : Rd w w.heap.size A (l.flatMap V.cells)) (hf : ∀ x ∈ l, x.fits) (hl : l.length * 16 ≤ 140737488351232) (x : V) (hl2 : l = [x]) (k1 : resK op (l.map fun x => (clean x).k) ≠ 0) (h7 : op < 7 ∨ 12 < op) (h4 : ((clean x).k == 4) = true) (HC : Hid (∀ w : World, Calls Try.prog 31 #[.int .i64 op, .int .u64 (clean x).b, .int .u64 (clean x).b] w fun e w' => e = .returned (applyV op l).v ∧ Below w.heap.size w w')) :
    Calls Try.prog 18 #[.int .i64 op, .slice A l.length c] w fun e w' => e = .returned (applyV op l).v ∧ Below w.heap.size w w' := by
  obtain ⟨iV, hV, hV0, hV1, hV2⟩ := info_parts infoRV
  obtain ⟨iI, hI, hI0, hI1, hI2⟩ := info_parts infoRI
  have HF := Lib.hid hf
  clear hf
  generalize hR : applyV op l = R at *
  have HR := Lib.hid hR
  clear hR
  have HL2 := Lib.hid hl2
  clear hl2
  have HK1 := Lib.hid k1
  clear k1
  go_enter Try.func18, Try.ntmps18
  go_wp2_with fail
  go_loopw [5, 6, 15] (fun vs ks i wr => ∃ (k : Nat) (Ak Av : Option Addr) (ck cv : Nat), k ≤ l.length ∧ i = .int .i64 k ∧ ks = .slice Ak k ck ∧ vs = .slice Av k cv ∧ Below w.heap.size w wr ∧
      Bk wr w.heap.size 33 #[.int .i64 0, .int .u64 0] ∧
      wr.ownsRow (w.heap.size + 1) 3 1 ks k (kcells ((l.map fun x => (clean x).k).take k)) ∧
      wr.ownsRow (w.heap.size + 1) 33 2 vs k ((l.take k).flatMap fun x => (clean x).cells)) (fun _ _ i _ => l.length - (intOf i).toNat)
  case atStart => exact ⟨0, none, none, 0, 0, Nat.zero_le _, rfl, rfl, rfl, (Below.refl _ _).alloc (Nat.le_refl _) _, Bk.new _ _ _, World.ownsRow_nil _ _ _ _, World.ownsRow_nil _ _ _ _⟩
  case round =>
    obtain ⟨k, Ak, Av, ck, cv, hk, rfl, rfl, rfl, hbel, hb0, hK, hVr⟩ := hrel
    by_cases hlt : k < l.length
    · obtain ⟨b, o, rfl, hb, hc⟩ := (hr.below hbel).elem (f := V.cells) (n := 2) (fun _ => rfl) (by omega) hlt
      have hc0 : wr.cell? ⟨b, o + k * 2, none⟩ = some (.int .i64 l[k].k) := hc 0 _ rfl
      have hc1 : wr.cell? ⟨b, o + k * 2 + 1, none⟩ = some (.int .u64 l[k].b) := hc 1 _ rfl
      have hfit : l[k].fits := HF.out _ (List.getElem_mem hlt)
      clear hc
      go_wp2_with fail
      refine (rclean_any l[k] hfit _).mono ?_
      rintro e w1 ⟨rfl, hb1⟩
      have hb0 := (hb0.alloc _).old hb1
      have hK := own_old (hK.alloc _) hb1
      have hVr := own_old (hVr.alloc _) hb1
      have hB : Below w.heap.size w w1 := (hbel.alloc hbel.size _).trans (hb1.mono (by have := hbel.size; simp; omega))
      have hz0 := hb0.lt
      simp only [V.v]
      clear hc0 hc1 hb1 hbel hfit
      have hl9 : l.length ≤ 8796093021952 := by omega
      have ne0 : some w.heap.size ≠ (Value.slice Av k cv).ownBlock := fun e => by have := (hVr.lt _ e.symm).1; omega
      have nk0 : some w.heap.size ≠ (Value.slice Ak k ck).ownBlock := fun e => by have := (hK.lt _ e.symm).1; omega
      have ne9 : some w1.heap.size ≠ (Value.slice Av k cv).ownBlock := fun e => by have := (hVr.lt _ e.symm).2; omega
      go_wp2_with (at_builtin; refine wpList_append_rd rfl _ _ 44 rfl (w.heap.size + 1) 33 iV _ 2 16 Try.underlying44 hV hV0 hV1 hV2 rfl (by decide) (.slice Av k cv) k ((l.take k).flatMap fun x => (clean x).cells) rfl ((hVr.alloc _).alloc _) (w1.heap.size + 1 + 1) (some ⟨w1.heap.size + 1, 0, none⟩) 1 1 (clean l[k]).cells rfl (Rd.lit (by simp) _ _) rfl ?c2 ?c3 ?c4 ?c5 ?_)
      case c2 => intro u hu; simp [V.cells] at hu; rcases hu with rfl | rfl <;> rfl
      case c3 => unfold maxLen; omega
      case c4 => omega
      case c5 => simp; omega
      intro A2 c2 w2 hV2' hg hat
      have hB2 : Below w.heap.size w w2 := below_own ((hB.alloc (by omega) _).alloc (by simp; omega) _) ((hVr.alloc _).alloc _) (by omega) hg (by simp; omega)
      have hb02 := ((hb0.alloc _).alloc _).grown hg ne0
      have h92 := ((Bk.new w1 33 #[.int .i64 (clean l[k]).k, .int .u64 (clean l[k]).b]).alloc _).grown hg ne9
      have hK2 := own_keep ((hK.alloc _).alloc _) ((hVr.alloc _).alloc _) (by decide) hg
      clear hg hVr hK hb0 hB ne0 ne9 nk0 hat
      have hz1 := h92.lt
      have hz2 := hb02.lt
      rw [flat_snoc _ l k hlt] at hV2'
      obtain ⟨d0, d1, _, _⟩ := vcells h92
      have nk0 : some w.heap.size ≠ (Value.slice Ak k ck).ownBlock := fun e => by have := (hK2.lt _ e.symm).1; omega
      go_wp2_with (at_builtin; refine wpList_append_rd rfl _ _ 52 rfl (w.heap.size + 1) 3 iI _ 1 8 Try.underlying52 hI hI0 hI1 hI2 rfl (by decide) (.slice Ak k ck) k (kcells ((l.map fun x => (clean x).k).take k)) rfl (hK2.alloc _) (w2.heap.size + 1) (some ⟨w2.heap.size, 0, none⟩) 1 1 [.int .i64 (clean l[k]).k] rfl (Rd.lit rfl _ _) rfl ?d2 ?d3 ?d4 ?d5 ?_)
      case d2 => intro u hu; simp at hu; subst hu; rfl
      case d3 => unfold maxLen; omega
      case d4 => omega
      case d5 => simp; omega
      intro A3 c3 w3 hK3 hg _
      have hB3 : Below w.heap.size w w3 := below_own (hB2.alloc (by omega) _) (hK2.alloc _) (by omega) hg (by simp; omega)
      have hb03 := (hb02.alloc _).grown hg nk0
      have hV3 := own_keep (hV2'.alloc _) (hK2.alloc _) (by decide) hg
      clear hg
      have e2 : kcells ((l.map fun x => (clean x).k).take k) ++ [.int .i64 (clean l[k]).k] = kcells ((l.map fun x => (clean x).k).take (k + 1)) := by
        rw [List.take_succ_eq_append_getElem (by simpa using hlt), List.getElem_map]; unfold kcells; rw [List.map_append]; rfl
      rw [e2] at hK3
      clear e2 d0 d1
      go_wp2
      go_roundw
      case rel => exact ⟨k + 1, A3, A2, c3, c2, by omega, by go_num, rfl, rfl, hB3, hb03, hK3, hV3⟩
      case measure => simp [intOf]; omega
    · obtain rfl : k = l.length := by omega
      clear hlt hk
      rw [List.take_of_length_le (by simp)] at hK
      rw [List.take_length] at hVr
      have hkr : Rd wr wr.heap.size Ak (kcells (l.map fun x => (clean x).k)) := own_rd hK
      have hvr : Rd wr wr.heap.size Av (l.flatMap fun x => (clean x).cells) := own_rd hVr
      clear hK hVr hr
      have hz := hb0.lt
      have hrr := rresult_any op (l.map fun x => (clean x).k) Ak ck wr (by rw [List.length_map]; omega) hkr
      rw [List.length_map] at hrr
      generalize hk : resK op (l.map fun x => (clean x).k) = K at *
      have hk0 : (K == 0) = false := beq_eq_false_iff_ne.2 (HK1.out)
      have hl2 := HL2.out
      subst hl2
      clear HL2 hk HK1
      simp only [List.length_cons, List.length_nil, Nat.zero_add, Nat.reduceAdd] at *
      clear hkr
      go_wp2_with fail
      refine hrr.mono ?_
      rintro e w1 ⟨rfl, hb1⟩
      have hb0 := hb0.old hb1
      have hvr := hvr.below hb1
      have hbel := hbel.trans (hb1.mono hbel.size)
      clear hrr hb1
      have hz := hb0.lt
      obtain ⟨b, o, rfl, hb, hc⟩ := hvr.at_ (j := 0) (by simp [V.cells])
      have cx0 : w1.cell? ⟨b, o, none⟩ = some (.int .i64 (clean x).k) := hc 0 _ rfl
      have cx1 : w1.cell? ⟨b, o + 1, none⟩ = some (.int .u64 (clean x).b) := hc 1 _ rfl
      clear hc hvr
      have n0 := World.new_ne w1 _ cx0
      have n1 := World.new_ne w1 _ cx1
      have hs1 : IntKind.i64.wrap (1 - 1) = 0 := by decide
      have hs2 : IntKind.i64.wrap 0 = 0 := by decide
      go_wp2_with fail
      go_region_held3 (fun w' => w'.cell? ⟨b, o, none⟩ = some (.int .i64 (clean x).k) ∧ w'.cell? ⟨b, o + 1, none⟩ = some (.int .u64 (clean x).b)) (go_keep) (fail)
      all_goals (
        try clear n0 n1 n2 n3
        try clear n0 n1
        have H7 := Lib.hid h7
        clear h7
        rcases H7.out with h7 | h7
        all_goals (
          go_wp2_with fail
          refine (HC.out _).mono ?_
          rintro e w2 ⟨rfl, hb2⟩
          have kk : Bk w2 w.heap.size 33 #[.int .i64 0, .int .u64 0] := by
            refine Bk.old ?_ hb2
            repeat (first | exact hb0 | apply Bk.alloc | apply Bk.drew)
          have hbel : Below w.heap.size w w2 := by
            refine Below.trans ?_ (hb2.mono ?_)
            · repeat (first | exact hbel | apply Below.drew | refine Below.alloc ?_ (by first | omega | (simp; omega)) _)
            · simp; omega
          clear hb2 hb0 cx0 cx1
          obtain ⟨rk, rb⟩ := R
          simp only [V.v]
          have ⟨c0, c1, f0, f1⟩ := vcells kk
          have ⟨d0, d1, _, _⟩ := vcells (vput kk (.int .i64 rk) (.int .u64 rb))
          go_wp2_with fail
          exact bodyPost_ret (v := .agg #[.int .i64 rk, .int .u64 rb]) (by simp [results, Try.results18, go_sem, d0, d1]) rfl ⟨rfl, (hbel.setCell (by simp) _).setCell (by simp) _⟩
          )
        )

set_option maxRecDepth 100000 in
set_option maxHeartbeats 4000000 in
theorem rapply_whole1 (op : Int) (l : List V) (A : Option Addr) (c : Nat) (w : World) (hr : Rd w w.heap.size A (l.flatMap V.cells)) (hf : ∀ x ∈ l, x.fits) (hl : l.length * 16 ≤ 140737488351232) (x : V) (hl2 : l = [x]) (k1 : resK op (l.map fun x => (clean x).k) ≠ 0) (h7 : op < 7 ∨ 12 < op) (h4 : ((clean x).k == 4) = false) (HC : Hid (∀ w : World, Calls Try.prog 32 #[.int .i64 op, .int .i64 (wrap64 (clean x).b), .int .i64 (wrap64 (clean x).b)] w fun e w' => e = .returned (applyV op l).v ∧ Below w.heap.size w w')) :
    Calls Try.prog 18 #[.int .i64 op, .slice A l.length c] w fun e w' => e = .returned (applyV op l).v ∧ Below w.heap.size w w' := by
  obtain ⟨iV, hV, hV0, hV1, hV2⟩ := info_parts infoRV
  obtain ⟨iI, hI, hI0, hI1, hI2⟩ := info_parts infoRI
  have HF := Lib.hid hf
  clear hf
  generalize hR : applyV op l = R at *
  have HR := Lib.hid hR
  clear hR
  have HL2 := Lib.hid hl2
  clear hl2
  have HK1 := Lib.hid k1
  clear k1
  go_enter Try.func18, Try.ntmps18
  go_wp2_with fail
  go_loopw [5, 6, 15] (fun vs ks i wr => ∃ (k : Nat) (Ak Av : Option Addr) (ck cv : Nat), k ≤ l.length ∧ i = .int .i64 k ∧ ks = .slice Ak k ck ∧ vs = .slice Av k cv ∧ Below w.heap.size w wr ∧
      Bk wr w.heap.size 33 #[.int .i64 0, .int .u64 0] ∧
      wr.ownsRow (w.heap.size + 1) 3 1 ks k (kcells ((l.map fun x => (clean x).k).take k)) ∧
      wr.ownsRow (w.heap.size + 1) 33 2 vs k ((l.take k).flatMap fun x => (clean x).cells)) (fun _ _ i _ => l.length - (intOf i).toNat)
  case atStart => exact ⟨0, none, none, 0, 0, Nat.zero_le _, rfl, rfl, rfl, (Below.refl _ _).alloc (Nat.le_refl _) _, Bk.new _ _ _, World.ownsRow_nil _ _ _ _, World.ownsRow_nil _ _ _ _⟩
  case round =>
    obtain ⟨k, Ak, Av, ck, cv, hk, rfl, rfl, rfl, hbel, hb0, hK, hVr⟩ := hrel
    by_cases hlt : k < l.length
    · obtain ⟨b, o, rfl, hb, hc⟩ := (hr.below hbel).elem (f := V.cells) (n := 2) (fun _ => rfl) (by omega) hlt
      have hc0 : wr.cell? ⟨b, o + k * 2, none⟩ = some (.int .i64 l[k].k) := hc 0 _ rfl
      have hc1 : wr.cell? ⟨b, o + k * 2 + 1, none⟩ = some (.int .u64 l[k].b) := hc 1 _ rfl
      have hfit : l[k].fits := HF.out _ (List.getElem_mem hlt)
      clear hc
      go_wp2_with fail
      refine (rclean_any l[k] hfit _).mono ?_
      rintro e w1 ⟨rfl, hb1⟩
      have hb0 := (hb0.alloc _).old hb1
      have hK := own_old (hK.alloc _) hb1
      have hVr := own_old (hVr.alloc _) hb1
      have hB : Below w.heap.size w w1 := (hbel.alloc hbel.size _).trans (hb1.mono (by have := hbel.size; simp; omega))
      have hz0 := hb0.lt
      simp only [V.v]
      clear hc0 hc1 hb1 hbel hfit
      have hl9 : l.length ≤ 8796093021952 := by omega
      have ne0 : some w.heap.size ≠ (Value.slice Av k cv).ownBlock := fun e => by have := (hVr.lt _ e.symm).1; omega
      have nk0 : some w.heap.size ≠ (Value.slice Ak k ck).ownBlock := fun e => by have := (hK.lt _ e.symm).1; omega
      have ne9 : some w1.heap.size ≠ (Value.slice Av k cv).ownBlock := fun e => by have := (hVr.lt _ e.symm).2; omega
      go_wp2_with (at_builtin; refine wpList_append_rd rfl _ _ 44 rfl (w.heap.size + 1) 33 iV _ 2 16 Try.underlying44 hV hV0 hV1 hV2 rfl (by decide) (.slice Av k cv) k ((l.take k).flatMap fun x => (clean x).cells) rfl ((hVr.alloc _).alloc _) (w1.heap.size + 1 + 1) (some ⟨w1.heap.size + 1, 0, none⟩) 1 1 (clean l[k]).cells rfl (Rd.lit (by simp) _ _) rfl ?c2 ?c3 ?c4 ?c5 ?_)
      case c2 => intro u hu; simp [V.cells] at hu; rcases hu with rfl | rfl <;> rfl
      case c3 => unfold maxLen; omega
      case c4 => omega
      case c5 => simp; omega
      intro A2 c2 w2 hV2' hg hat
      have hB2 : Below w.heap.size w w2 := below_own ((hB.alloc (by omega) _).alloc (by simp; omega) _) ((hVr.alloc _).alloc _) (by omega) hg (by simp; omega)
      have hb02 := ((hb0.alloc _).alloc _).grown hg ne0
      have h92 := ((Bk.new w1 33 #[.int .i64 (clean l[k]).k, .int .u64 (clean l[k]).b]).alloc _).grown hg ne9
      have hK2 := own_keep ((hK.alloc _).alloc _) ((hVr.alloc _).alloc _) (by decide) hg
      clear hg hVr hK hb0 hB ne0 ne9 nk0 hat
      have hz1 := h92.lt
      have hz2 := hb02.lt
      rw [flat_snoc _ l k hlt] at hV2'
      obtain ⟨d0, d1, _, _⟩ := vcells h92
      have nk0 : some w.heap.size ≠ (Value.slice Ak k ck).ownBlock := fun e => by have := (hK2.lt _ e.symm).1; omega
      go_wp2_with (at_builtin; refine wpList_append_rd rfl _ _ 52 rfl (w.heap.size + 1) 3 iI _ 1 8 Try.underlying52 hI hI0 hI1 hI2 rfl (by decide) (.slice Ak k ck) k (kcells ((l.map fun x => (clean x).k).take k)) rfl (hK2.alloc _) (w2.heap.size + 1) (some ⟨w2.heap.size, 0, none⟩) 1 1 [.int .i64 (clean l[k]).k] rfl (Rd.lit rfl _ _) rfl ?d2 ?d3 ?d4 ?d5 ?_)
      case d2 => intro u hu; simp at hu; subst hu; rfl
      case d3 => unfold maxLen; omega
      case d4 => omega
      case d5 => simp; omega
      intro A3 c3 w3 hK3 hg _
      have hB3 : Below w.heap.size w w3 := below_own (hB2.alloc (by omega) _) (hK2.alloc _) (by omega) hg (by simp; omega)
      have hb03 := (hb02.alloc _).grown hg nk0
      have hV3 := own_keep (hV2'.alloc _) (hK2.alloc _) (by decide) hg
      clear hg
      have e2 : kcells ((l.map fun x => (clean x).k).take k) ++ [.int .i64 (clean l[k]).k] = kcells ((l.map fun x => (clean x).k).take (k + 1)) := by
        rw [List.take_succ_eq_append_getElem (by simpa using hlt), List.getElem_map]; unfold kcells; rw [List.map_append]; rfl
      rw [e2] at hK3
      clear e2 d0 d1
      go_wp2
      go_roundw
      case rel => exact ⟨k + 1, A3, A2, c3, c2, by omega, by go_num, rfl, rfl, hB3, hb03, hK3, hV3⟩
      case measure => simp [intOf]; omega
    · obtain rfl : k = l.length := by omega
      clear hlt hk
      rw [List.take_of_length_le (by simp)] at hK
      rw [List.take_length] at hVr
      have hkr : Rd wr wr.heap.size Ak (kcells (l.map fun x => (clean x).k)) := own_rd hK
      have hvr : Rd wr wr.heap.size Av (l.flatMap fun x => (clean x).cells) := own_rd hVr
      clear hK hVr hr
      have hz := hb0.lt
      have hrr := rresult_any op (l.map fun x => (clean x).k) Ak ck wr (by rw [List.length_map]; omega) hkr
      rw [List.length_map] at hrr
      generalize hk : resK op (l.map fun x => (clean x).k) = K at *
      have hk0 : (K == 0) = false := beq_eq_false_iff_ne.2 (HK1.out)
      have hl2 := HL2.out
      subst hl2
      clear HL2 hk HK1
      simp only [List.length_cons, List.length_nil, Nat.zero_add, Nat.reduceAdd] at *
      clear hkr
      go_wp2_with fail
      refine hrr.mono ?_
      rintro e w1 ⟨rfl, hb1⟩
      have hb0 := hb0.old hb1
      have hvr := hvr.below hb1
      have hbel := hbel.trans (hb1.mono hbel.size)
      clear hrr hb1
      have hz := hb0.lt
      obtain ⟨b, o, rfl, hb, hc⟩ := hvr.at_ (j := 0) (by simp [V.cells])
      have cx0 : w1.cell? ⟨b, o, none⟩ = some (.int .i64 (clean x).k) := hc 0 _ rfl
      have cx1 : w1.cell? ⟨b, o + 1, none⟩ = some (.int .u64 (clean x).b) := hc 1 _ rfl
      clear hc hvr
      have n0 := World.new_ne w1 _ cx0
      have n1 := World.new_ne w1 _ cx1
      have hs1 : IntKind.i64.wrap (1 - 1) = 0 := by decide
      have hs2 : IntKind.i64.wrap 0 = 0 := by decide
      go_wp2_with fail
      go_region_held3 (fun w' => w'.cell? ⟨b, o, none⟩ = some (.int .i64 (clean x).k) ∧ w'.cell? ⟨b, o + 1, none⟩ = some (.int .u64 (clean x).b)) (go_keep) (fail)
      all_goals (
        try clear n0 n1 n2 n3
        try clear n0 n1
        have H7 := Lib.hid h7
        clear h7
        rcases H7.out with h7 | h7
        all_goals (
          go_wp2_with fail
          refine (HC.out _).mono ?_
          rintro e w2 ⟨rfl, hb2⟩
          have kk : Bk w2 w.heap.size 33 #[.int .i64 0, .int .u64 0] := by
            refine Bk.old ?_ hb2
            repeat (first | exact hb0 | apply Bk.alloc | apply Bk.drew)
          have hbel : Below w.heap.size w w2 := by
            refine Below.trans ?_ (hb2.mono ?_)
            · repeat (first | exact hbel | apply Below.drew | refine Below.alloc ?_ (by first | omega | (simp; omega)) _)
            · simp; omega
          clear hb2 hb0 cx0 cx1
          obtain ⟨rk, rb⟩ := R
          simp only [V.v]
          have ⟨c0, c1, f0, f1⟩ := vcells kk
          have ⟨d0, d1, _, _⟩ := vcells (vput kk (.int .i64 rk) (.int .u64 rb))
          go_wp2_with fail
          exact bodyPost_ret (v := .agg #[.int .i64 rk, .int .u64 rb]) (by simp [results, Try.results18, go_sem, d0, d1]) rfl ⟨rfl, (hbel.setCell (by simp) _).setCell (by simp) _⟩
          )
        )

theorem rest1 {op : Int} {x : V} (h : resK op ([x].map fun x => (clean x).k) ≠ 0) : restV op [x] = if (clean x).k = 4 then some (realsV op (clean x) (clean x)) else intsV op (clean x) (clean x) := by
  unfold restV
  rw [if_neg h]
theorem rest2 {op : Int} {x y : V} (h : resK op ([x, y].map fun x => (clean x).k) ≠ 0) : restV op [x, y] = if (clean x).k = 4 then some (realsV op (clean x) (clean y)) else intsV op (clean x) (clean y) := by
  unfold restV
  rw [if_neg h]
theorem int_whole (op : Int) (x y : V) (h : (1 ≤ op ∧ op ≤ 6) ∨ op = 15 ∨ op = 16) : (intsV op x y).getD none0 =
    (if op = 15 then yesV (wrap64 x.b == 0) else if op = 16 then V.mk 4 (ofInt (wrap64 x.b)) else if op = 6 then ((fitI (0 - wrap64 x.b)).map intV).getD none0 else ((numV op (wrap64 x.b) (wrap64 y.b)).map intV).getD none0) := by
  unfold intsV
  by_cases h15 : op = 15
  · rw [if_pos h15, if_pos h15]; rfl
  rw [if_neg h15, if_neg h15]
  by_cases h16 : op = 16
  · rw [if_pos h16, if_pos h16]; rfl
  rw [if_neg h16, if_neg h16, if_neg (by omega)]
  by_cases h6 : op = 6
  · rw [if_pos h6, if_pos h6]
  rw [if_neg h6, if_neg h6]
theorem real_cmp (op : Int) (x y : V) (h : 7 ≤ op ∧ op ≤ 12) : realsV op x y = yesV (holdsB op (ltF x.b y.b) (eqF x.b y.b) (ltF y.b x.b)) := by
  unfold realsV
  rw [if_neg (by omega), if_neg (by omega), if_neg (by omega), if_neg (by omega), if_neg (by omega), if_neg (by omega)]
theorem int_cmpV (op : Int) (x y : V) (h : 7 ≤ op ∧ op ≤ 12) : intsV op x y = some (yesV (holdsB op (decide (wrap64 x.b < wrap64 y.b)) (wrap64 x.b == wrap64 y.b) (decide (wrap64 y.b < wrap64 x.b)))) := by
  unfold intsV
  rw [if_neg (by omega), if_neg (by omega), if_pos h]
theorem one_ops {op k : Int} (h : oneK op k ≠ 0) : (k = 4 ∧ (op = 6 ∨ op = 17)) ∨ (k ≠ 4 ∧ (op = 6 ∨ op = 15 ∨ op = 16)) := by
  by_cases h4 : k = 4
  · subst h4
    by_cases h6 : op = 6
    · exact .inl ⟨rfl, .inl h6⟩
    by_cases h17 : op = 17
    · exact .inl ⟨rfl, .inr h17⟩
    exact absurd (by unfold oneK; rw [if_neg (by omega), if_neg (by omega), if_neg (by omega)]) h
  · by_cases ho : op = 6 ∨ op = 15 ∨ op = 16
    · exact .inr ⟨h4, ho⟩
    exact absurd (by unfold oneK; rw [if_neg (by omega), if_neg (by omega), if_neg (by omega)]) h
theorem two_ops {op k : Int} (hop : ¬ (op = 13 ∨ op = 14)) (h : twoK op k ≠ 0) : (7 ≤ op ∧ op ≤ 12) ∨ (k = 4 ∧ 1 ≤ op ∧ op ≤ 4) ∨ (k ≠ 4 ∧ 1 ≤ op ∧ op ≤ 5) := by
  by_cases h7 : 7 ≤ op ∧ op ≤ 12
  · exact .inl h7
  by_cases h5 : (1 ≤ op ∧ op ≤ 4 ∧ (k = 1 ∨ k = 4)) ∨ (op = 5 ∧ k = 1)
  · by_cases h4 : k = 4
    · exact .inr (.inl ⟨h4, by omega⟩)
    · exact .inr (.inr ⟨h4, by omega⟩)
  exact absurd (by unfold twoK; rw [if_neg h5, if_neg (by omega)]) h
/-- The document's Apply at every list. -/
theorem rapply_any (op : Int) (l : List V) (A : Option Addr) (c : Nat) (w : World) (hr : Rd w w.heap.size A (l.flatMap V.cells)) (hf : ∀ x ∈ l, x.fits) (hl : l.length * 16 ≤ 140737488351232) :
    Calls Try.prog 18 #[.int .i64 op, .slice A l.length c] w fun e w' => e = .returned (applyV op l).v ∧ Below w.heap.size w w' := by
  by_cases hlog : (op = 13 ∨ op = 14) ∧ l.length = 2
  · match l, hlog.2, hr, hf, hl with
    | [x, y], _, hr, hf, hl =>
      rcases hlog.1 with rfl | rfl
      · exact rapply_logic13 _ A c w hr hf hl x y rfl
      · exact rapply_logic14 _ A c w hr hf hl x y rfl
  by_cases k0 : resK op (l.map fun x => (clean x).k) = 0
  · have rn : applyV op l = none0 := by rw [apply_rest hlog, rest_none k0]; rfl
    by_cases h2 : l.length = 2
    · exact rapply_none2 op l A c w hr hf hl (by rw [beq_iff_eq]; omega) (by rw [beq_eq_false_iff_ne]; exact fun h => hlog ⟨.inl h, h2⟩) (by rw [beq_eq_false_iff_ne]; exact fun h => hlog ⟨.inr h, h2⟩) k0 rn
    · exact rapply_none1 op l A c w hr hf hl (by rw [beq_eq_false_iff_ne]; omega) k0 rn
  match l, hr, hf, hl, k0, hlog with
  | [], _, _, _, k0, _ => exact absurd rfl k0
  | [x], hr, hf, hl, k0, hlog =>
    have hx := hf x (by simp)
    have fx := clean_fits x hx
    have e := rest1 k0
    have k1 : oneK op (clean x).k ≠ 0 := k0
    rcases one_ops k1 with ⟨h4, ho⟩ | ⟨h4, ho⟩
    · refine rapply_float1 op [x] A c w hr hf hl x rfl k0 (by omega) (by rw [beq_iff_eq]; exact h4) (Lib.hid fun w => ?_)
      have := rfloat_any op (clean x) (clean x) fx fx (by omega) w
      rw [apply_rest hlog, e, if_pos h4]
      exact this
    · refine rapply_whole1 op [x] A c w hr hf hl x rfl k0 (by omega) (by rw [beq_eq_false_iff_ne]; exact h4) (Lib.hid fun w => ?_)
      have := rwhole_any op (wrap64 (clean x).b) (wrap64 (clean x).b) (i64_wrap _) (i64_wrap _) (by omega) w
      rw [apply_rest hlog, e, if_neg h4, int_whole op _ _ (by omega)]
      exact this
  | [x, y], hr, hf, hl, k0, hlog =>
    have hx := hf x (by simp)
    have hy := hf y (by simp)
    have fx := clean_fits x hx
    have fy := clean_fits y hy
    have e := rest2 k0
    have hop : ¬ (op = 13 ∨ op = 14) := fun h => hlog ⟨h, rfl⟩
    have k1 : (if (clean x).k = (clean y).k then twoK op (clean x).k else 0) ≠ 0 := k0
    have hk : (clean x).k = (clean y).k := by
      by_cases h : (clean x).k = (clean y).k
      · exact h
      · rw [if_neg h] at k1; exact absurd rfl k1
    rw [if_pos hk] at k1
    have h13 : (op == 13) = false := by rw [beq_eq_false_iff_ne]; omega
    have h14 : (op == 14) = false := by rw [beq_eq_false_iff_ne]; omega
    rcases two_ops hop k1 with h7 | ⟨h4, ho⟩ | ⟨h4, ho⟩
    · refine rapply_cmp2 op [x, y] A c w hr hf hl x y rfl k0 h13 h14 h7.1 h7.2 (Lib.hid fun w => ?_)
      have := rcompare_any op (clean x) (clean y) fx fy (clean_clean x) (clean_clean y) hk h7 w
      rw [apply_rest hlog, e]
      by_cases h4 : (clean x).k = 4
      · rw [if_pos h4] at this ⊢
        rw [real_cmp op _ _ h7]
        exact this
      · rw [if_neg h4] at this ⊢
        rw [int_cmpV op _ _ h7]
        exact this
    · refine rapply_float2 op [x, y] A c w hr hf hl x y rfl k0 h13 h14 (by omega) (by rw [beq_iff_eq]; exact h4) (Lib.hid fun w => ?_)
      have := rfloat_any op (clean x) (clean y) fx fy (by omega) w
      rw [apply_rest hlog, e, if_pos h4]
      exact this
    · refine rapply_whole2 op [x, y] A c w hr hf hl x y rfl k0 h13 h14 (by omega) (by rw [beq_eq_false_iff_ne]; exact h4) (Lib.hid fun w => ?_)
      have := rwhole_any op (wrap64 (clean x).b) (wrap64 (clean y).b) (i64_wrap _) (i64_wrap _) (by omega) w
      rw [apply_rest hlog, e, if_neg h4, int_whole op _ _ (by omega)]
      exact this
  | _ :: _ :: _ :: _, _, _, _, k0, _ => exact absurd rfl k0
end Go.Proofs.Ytkfpmoilfillmaa
