/- Layer 9: the program's aggregate. No conditions. -/
import Derived.Test.YtomhheihhnmbcaaEvG
namespace Go.Proofs.Ytomhheihhnmbcaa
open Go.RowKit
set_option linter.unusedVariables false
set_option linter.unusedSimpArgs false

def evAt (X : V) (kk : LookV) (Av : Option Addr) (at_ a : Int) (k cv : Nat) (w0 : World) : List Spec := [.is (.slice Av k cv),
  .is (.agg #[.slice kk.EA kk.es.length kk.ec, .slice kk.BA kk.bs.length kk.bc, .int .i64 kk.cur]),
  .is (.int .i64 at_),
  .is (.pointer (some ⟨w0.heap.size, 6, none⟩)),
  .is (.int .i64 a),
  .is (.agg #[.int .i64 X.k, .int .u64 X.b]),
  .st (fun v w => ∃ g, v = .slice (some ⟨g, 0, none⟩) 1 1 ∧ Bk w g 31 #[.int .i64 X.k, .int .u64 X.b]) (fun _ _ _ hb ⟨g, h1, h2⟩ => ⟨g, h1, h2.old hb⟩)]
def evMeanP (S C R : V) (w0 w2 : World) : List Spec := [.is (.func (.func 50) #[] #[.pointer (some ⟨w0.heap.size + 3, 0, none⟩)]),
  .is (.func (.func 51) #[] #[]),
  .is (.agg #[.int .i64 S.k, .int .u64 S.b]),
  .is (.agg #[.int .i64 C.k, .int .u64 C.b]),
  .st (fun v w => ∃ g, v = .slice (some ⟨g, 0, none⟩) 2 2 ∧ Bk w g 31 #[.int .i64 S.k, .int .u64 S.b, .int .i64 C.k, .int .u64 C.b]) (fun _ _ _ hb ⟨g, h1, h2⟩ => ⟨g, h1, h2.old hb⟩),
  .is (.agg #[.int .i64 R.k, .int .u64 R.b])]

theorem sumV_foldl (x : V) (l : List V) : sumV (x :: l) = l.foldl addV x := rfl
theorem foldAdd_fits : ∀ (l : List V) (x : V), x.fits → (∀ y ∈ l, y.fits) → (l.foldl addV x).fits
  | [], x, h, _ => h
  | y :: l, x, h, hl => by rw [List.foldl_cons]; exact foldAdd_fits l _ (addV_fits _ _ h (hl y (by simp))) (fun z hz => hl z (by simp [hz]))
theorem pickV_fits {a b : V} (most : Bool) (ha : a.fits) (hb : b.fits) : (pickV a b most).fits := pick_fits a b most ha hb
theorem bel4 (w : World) (x1 x2 x3 x4 : Obj) : Below w.heap.size w ((((w.alloc x1).alloc x2).alloc x3).alloc x4) := (((bel2 _ _ _).alloc (by simp; omega) _)).alloc (by simp; omega) _

set_option maxRecDepth 100000 in
set_option maxHeartbeats 4000000 in
theorem aggregate_any (kk : LookV) (op kind : Int) (NA : Option Addr) (nl nc : Nat) (vk : Int) (vb : Nat) (pos a : Int) (w0 : World) (hok : kk.ok w0 w0.heap.size) :
    Calls Try.prog 28 #[.agg #[.int .i64 op, .int .i64 kind, .slice NA nl nc, .int .i64 vk, .int .u64 vb, .int .i64 pos, .int .i64 a], kk.val] w0 fun e w' => e = .returned (aggV op ((hasL kk.bs pos).map fun at_ => attrL kk.es at_ a)).v ∧ Below w0.heap.size w0 w' := by
  obtain ⟨iV, hV, hV0, hV1, hV2⟩ := info_parts infoV
  have hmf : ∀ (fn : Fn) (first cap : Array Value) (w : World), (Instr.makeFunc fn first cap).run Try.prog w = .ok (.func fn first cap) w := fun _ _ _ _ => rfl
  have HOK : Hid (∀ w', Below w0.heap.size w0 w' → kk.ok w' w'.heap.size) := Lib.hid fun w' h => hok.old h
  have HFT : Hid (∀ at_ : Int, (attrL kk.es at_ a).fits) := Lib.hid fun at_ => attrL_fits hok.each at_ a
  have hhas := has_any kk pos ((((w0.alloc (.cells #[.int .i64 op, .int .i64 kind, .slice NA nl nc, .int .i64 vk, .int .u64 vb, .int .i64 pos, .int .i64 a] 41)).alloc (.cells #[.slice kk.EA kk.es.length kk.ec, .slice kk.BA kk.bs.length kk.bc, .int .i64 kk.cur] 28)).alloc (.cells #[.int .i64 0, .int .u64 0] 31)).alloc (.cells #[.slice none 0 0] 34)) w0.heap.size (by simp; omega) (hok.below (bel4 _ _ _ _ _))
  have HH := Lib.hid hhas
  clear hhas hok
  generalize hR : aggV op ((hasL kk.bs pos).map fun at_ => attrL kk.es at_ a) = R
  have HRR := Lib.hid hR
  clear hR
  unfold LookV.val
  go_enter Try.func28, Try.ntmps28
  go_wp2_with fail
  refine HH.out.mono ?_
  rintro e w1 ⟨A, c, rfl, hrd, hlen, hb1⟩
  clear HH
  generalize hasL kk.bs pos = l at *
  have kn := ((((Bk.new w0 41 #[.int .i64 op, .int .i64 kind, .slice NA nl nc, .int .i64 vk, .int .u64 vb, .int .i64 pos, .int .i64 a]).alloc (.cells #[.slice kk.EA kk.es.length kk.ec, .slice kk.BA kk.bs.length kk.bc, .int .i64 kk.cur] 28)).alloc (.cells #[.int .i64 0, .int .u64 0] 31)).alloc (.cells #[.slice none 0 0] 34)).old hb1
  have kl := (((Bk.newAt (w := w0.alloc (.cells #[.int .i64 op, .int .i64 kind, .slice NA nl nc, .int .i64 vk, .int .u64 vb, .int .i64 pos, .int .i64 a] 41)) (g := w0.heap.size + 1) (by simp) 28 #[.slice kk.EA kk.es.length kk.ec, .slice kk.BA kk.bs.length kk.bc, .int .i64 kk.cur]).alloc (.cells #[.int .i64 0, .int .u64 0] 31)).alloc (.cells #[.slice none 0 0] 34)).old hb1
  have kr := ((Bk.newAt (w := (w0.alloc (.cells #[.int .i64 op, .int .i64 kind, .slice NA nl nc, .int .i64 vk, .int .u64 vb, .int .i64 pos, .int .i64 a] 41)).alloc (.cells #[.slice kk.EA kk.es.length kk.ec, .slice kk.BA kk.bs.length kk.bc, .int .i64 kk.cur] 28)) (g := w0.heap.size + 2) (by simp) 31 #[.int .i64 0, .int .u64 0]).alloc (.cells #[.slice none 0 0] 34)).old hb1
  have kv := (Bk.newAt (w := ((w0.alloc (.cells #[.int .i64 op, .int .i64 kind, .slice NA nl nc, .int .i64 vk, .int .u64 vb, .int .i64 pos, .int .i64 a] 41)).alloc (.cells #[.slice kk.EA kk.es.length kk.ec, .slice kk.BA kk.bs.length kk.bc, .int .i64 kk.cur] 28)).alloc (.cells #[.int .i64 0, .int .u64 0] 31)) (g := w0.heap.size + 3) (by simp) 34 #[.slice none 0 0]).old hb1
  have hrd : Rd w1 w0.heap.size A (icells l) := hrd.below ((bel4 w0 _ _ _ _).trans (hb1.mono (by simp; omega)) |> fun _ => hb1.mono (by simp; omega))
  have hbel : Below w0.heap.size w0 w1 := (bel4 w0 _ _ _ _).trans (hb1.mono (by simp; omega))
  clear hb1
  have HRD := Lib.hid hrd
  clear hrd
  go_wp2_with fail
  go_loopw [16] (fun i wr => ∃ (k : Nat) (Av : Option Addr) (cv : Nat), k ≤ l.length ∧ i = .int .i64 k ∧ Below w0.heap.size w0 wr ∧ Below w0.heap.size w1 wr ∧ Bk wr w0.heap.size 41 #[.int .i64 op, .int .i64 kind, .slice NA nl nc, .int .i64 vk, .int .u64 vb, .int .i64 pos, .int .i64 a] ∧
      Bk wr (w0.heap.size + 1) 28 #[.slice kk.EA kk.es.length kk.ec, .slice kk.BA kk.bs.length kk.bc, .int .i64 kk.cur] ∧ Bk wr (w0.heap.size + 2) 31 #[.int .i64 0, .int .u64 0] ∧ Bk wr (w0.heap.size + 3) 34 #[.slice Av k cv] ∧
      wr.ownsRow (w0.heap.size + 4) 31 2 (.slice Av k cv) k ((l.take k).flatMap fun at_ => (attrL kk.es at_ a).cells)) (fun i _ => l.length - (intOf i).toNat)
  case atStart => exact ⟨0, none, 0, Nat.zero_le _, rfl, hbel, Below.refl _ _ |> fun h => h.mono hbel.size, kn, kl, kr, kv, World.ownsRow_nil _ _ _ _⟩
  case round =>
    obtain ⟨k, Av, cv, hk, rfl, hbel, hbel1, kn, kl, kr, kv, hown⟩ := hrel
    by_cases hlt : k < l.length
    · as_aux_lemma =>
      obtain ⟨b, o, rfl, hb, hc⟩ := (HRD.out.below hbel1).elem1 (f := fun n : Int => Value.int .i64 n) hlt
      have hX := HFT.out l[k]
      have hfs := flat_snoc (fun at_ => (attrL kk.es at_ a).cells) l k hlt
      generalize l[k] = at_ at *
      generalize hXx : attrL kk.es at_ a = X at *
      have HX := Lib.hid hXx
      have HFS := Lib.hid hfs
      clear hXx hfs
      have cl := kv.cell 0
      have k0 := kl.cell 0
      have k1 := kl.cell 1
      have k2 := kl.cell 2
      have n6 := kn.cell 6
      have HW := Lib.hid hbel
      have hz := kv.lt
      simp at cl k0 k1 k2 n6
      go_wp2_with fail
      refine wp_region_t 7 (fun k => false) (by kernel_rfl) (fun qk => (evAt X kk Av at_ a k cv w0).getD qk .any) (by kernel_rfl) ?_ ?_
      · refine BOk.cons rfl [] [5] rfl rfl (by kernel_rfl) (by kernel_rfl) (fun qK qa wr hB qO qF hK => ?_) ?_
        · have e5 : qa.tmps[5]? = some (.pointer (some ⟨w0.heap.size + 3, 0, none⟩)) := qO.1.trans rfl
          clear qO qF
          have hcl := (bcell hB _ _ (World.block_lt_of_cell? _ _ cl)).trans cl
          go_simp
          exact hK _ _ (Below.refl _ _) rfl
        refine BOk.cons rfl [] [3] rfl rfl (by kernel_rfl) (by kernel_rfl) (fun qK qa wr hB qO qF hK => ?_) ?_
        · have e3 : qa.tmps[3]? = some (.pointer (some ⟨w0.heap.size + 1, 0, none⟩)) := qO.1.trans rfl
          clear qO qF
          have hk0 := (bcell hB _ _ (World.block_lt_of_cell? _ _ k0)).trans k0
          have hk1 := (bcell hB _ _ (World.block_lt_of_cell? _ _ k1)).trans k1
          have hk2 := (bcell hB _ _ (World.block_lt_of_cell? _ _ k2)).trans k2
          go_simp
          exact hK _ _ (Below.refl _ _) rfl
        refine BOk.cons rfl [] [7] rfl rfl (by kernel_rfl) (by kernel_rfl) (fun qK qa wr hB qO qF hK => ?_) ?_
        · have e7 : qa.tmps[7]? = some (.int .i64 at_) := qO.1.trans rfl
          clear qO qF
          go_simp
          exact hK _ _ (Below.refl _ _) rfl
        refine BOk.cons rfl [] [2] rfl rfl (by kernel_rfl) (by kernel_rfl) (fun qK qa wr hB qO qF hK => ?_) ?_
        · have e2 : qa.tmps[2]? = some (.pointer (some ⟨w0.heap.size, 0, none⟩)) := qO.1.trans rfl
          clear qO qF
          go_simp
          exact hK _ _ (Below.refl _ _) rfl
        refine BOk.cons rfl [3] [] rfl rfl (by kernel_rfl) (by kernel_rfl) (fun qK qa wr hB qO qF hK => ?_) ?_
        · obtain ⟨u23, e23, r3⟩ := qF.1
          have e23 : qa.tmps[23]? = some (.pointer (some ⟨w0.heap.size, 6, none⟩)) := (show u23 = .pointer (some ⟨w0.heap.size, 6, none⟩) from r3) ▸ e23
          clear r3
          clear qO qF
          have hn6 := (bcell hB _ _ (World.block_lt_of_cell? _ _ n6)).trans n6
          go_simp
          exact hK _ _ (Below.refl _ _) rfl
        refine BOk.cons rfl [1, 2, 4] [] rfl rfl (by kernel_rfl) (by kernel_rfl) (fun qK qa wr hB qO qF hK => ?_) ?_
        · obtain ⟨u21, e21, r1⟩ := qF.1
          have e21 : qa.tmps[21]? = some (.agg #[.slice kk.EA kk.es.length kk.ec, .slice kk.BA kk.bs.length kk.bc, .int .i64 kk.cur]) := (show u21 = .agg #[.slice kk.EA kk.es.length kk.ec, .slice kk.BA kk.bs.length kk.bc, .int .i64 kk.cur] from r1) ▸ e21
          clear r1
          obtain ⟨u22, e22, r2⟩ := qF.2.1
          have e22 : qa.tmps[22]? = some (.int .i64 at_) := (show u22 = .int .i64 at_ from r2) ▸ e22
          clear r2
          obtain ⟨u24, e24, r4⟩ := qF.2.2.1
          have e24 : qa.tmps[24]? = some (.int .i64 a) := (show u24 = .int .i64 a from r4) ▸ e24
          clear r4
          clear qO qF
          go_simp
          go_at_call 26
          refine ((attr_any kk at_ a _ (HOK.out _ (HW.out.trans (hB.mono HW.out.size))))).mono ?_
          rintro e w2 ⟨rfl, hb2⟩
          rw [HX.out]
          exact hK _ _ hb2 rfl
        refine BOk.cons rfl [5] [] rfl rfl (by kernel_rfl) (by kernel_rfl) (fun qK qa wr hB qO qF hK => ?_) ?_
        · obtain ⟨u25, e25, r5⟩ := qF.1
          have e25 : qa.tmps[25]? = some (.agg #[.int .i64 X.k, .int .u64 X.b]) := (show u25 = .agg #[.int .i64 X.k, .int .u64 X.b] from r5) ▸ e25
          clear r5
          clear qO qF
          go_simp
          exact hK _ _ ((Below.refl _ _).alloc (Nat.le_refl _) _) ⟨_, rfl, Bk.new _ _ _⟩
        exact BOk.nil
      intro vals wr hl hB hR hS
      match vals, hl with
      | [z20, z21, z22, z23, z24, z25, z26], _ =>
      have r0 : z20 = .slice Av k cv := hR 0 _ rfl
      subst r0
      obtain ⟨g26, r6, k26⟩ := (show ∃ g, z26 = .slice (some ⟨g, 0, none⟩) 1 1 ∧ Bk wr g 31 #[.int .i64 X.k, .int .u64 X.b] from hR 6 _ rfl)
      subst r6
      clear hS
      clear hR
      simp only [List.take_succ_cons, List.take_zero, List.drop_succ_cons, List.drop_zero, List.toList_toArray, List.cons_append, List.nil_append, putAll, Act.put, List.setIfInBounds_toArray, List.set_cons_zero, List.set_cons_succ]
      have kn := kn.old hB
      have kl := kl.old hB
      have kr := kr.old hB
      have kv := kv.old hB
      have hown := own_old hown hB
      have hbel : Below w0.heap.size w0 wr := hbel.trans (hB.mono hbel.size)
      have hbel1 : Below w0.heap.size w1 wr := hbel1.trans (hB.mono HW.out.size)
      clear hB
      go_wp2_with (at_builtin; refine wpList_append_rd rfl _ _ 34 rfl (w0.heap.size + 4) 31 iV _ 2 16 Try.underlying34 hV hV0 hV1 hV2 rfl (by decide) (.slice Av k cv) k _ rfl hown _ (some ⟨g26, 0, none⟩) 1 1 X.cells rfl (Rd.bk k26 k26.lt) rfl ?c2 ?c3 ?c4 ?c5 ?_)
      case c2 => intro u hu; simp [V.cells] at hu; rcases hu with rfl | rfl <;> rfl
      case c3 => unfold maxLen; omega
      case c4 => omega
      case c5 => have := kv.lt; omega
      intro A2 c2 w2 hown2 hg _
      have hz := kv.lt
      have kn2 := kn.grown hg (own_ne_bk hown kn (by decide))
      have kl2 := kl.grown hg (own_ne_bk hown kl (by decide))
      have kr2 := kr.grown hg (fun e => by have := (hown.lt _ e.symm).1; omega)
      have kv2 := kv.grown hg (own_ne_bk hown kv (by decide))
      have hbel2 : Below w0.heap.size w0 w2 := below_own hbel hown (by omega) hg (by omega)
      have hbel12 : Below w0.heap.size w1 w2 := below_own hbel1 hown (by omega) hg (by omega)
      rw [HFS.out] at hown2
      have e0 : w2.cell? ⟨w0.heap.size + 3, 0, none⟩ = some (.slice Av k cv) := kv2.cell 0
      have f0 := kv2.frozen 0
      clear hg hown kn kl kr kv hbel hbel1 k26
      go_wp2
      go_roundw
      case rel =>
        exact ⟨k + 1, A2, c2, by omega, by go_num, hbel2.setCell (by first | (simp; done) | (simp; omega)) _, hbel12.setCell (by first | (simp; done) | (simp; omega)) _, kn2.far (by first | (simp; done) | (simp; omega)) _, kl2.far (by first | (simp; done) | (simp; omega)) _, kr2.far (by first | (simp; done) | (simp; omega)) _, kv2.put 0 _, own_set hown2 kv2 (by decide) 0 _⟩
      case measure => simp [intOf]; omega
    · obtain rfl : k = l.length := by omega
      rw [List.take_length] at hown
      obtain ⟨L, hL⟩ : ∃ L, (l.map fun at_ => attrL kk.es at_ a) = L := ⟨_, rfl⟩
      have hfm : (l.flatMap fun at_ => (attrL kk.es at_ a).cells) = L.flatMap V.cells := by rw [← hL, List.flatMap_map]
      have hll : l.length = L.length := by rw [← hL, List.length_map]
      have hLF : ∀ y ∈ L, y.fits := by rw [← hL]; intro y hy; obtain ⟨q, _, rfl⟩ := List.mem_map.1 hy; exact HFT.out q
      have hRL : aggV op L = R := by rw [← hL]; exact HRR.out
      rw [hfm] at hown
      generalize l.length = m at *
      subst hll
      have hrow := own_rd hown
      clear hL hfm hlt hk hown HRR HRD hbel1 HOK HFT
      have n0 : wr.cell? ⟨w0.heap.size, 0, none⟩ = some (.int .i64 op) := kn.cell 0
      have cl : wr.cell? ⟨w0.heap.size + 3, 0, none⟩ = some (.slice Av L.length cv) := kv.cell 0
      rcases L with _ | ⟨x, l0⟩
      · as_aux_lemma =>
        have hRR : R = none0 := hRL.symm
        subst hRR
        have hbe := hbel
        clear hRL
        obtain ⟨c0, c1, f0, f1⟩ := vcells kr
        obtain ⟨d0, d1, _, _⟩ := vcells (vput kr (.int .i64 0) (.int .u64 0))
        clear kr
        go_wp2_with fail
        exact bodyPost_ret (v := .agg #[.int .i64 0, .int .u64 0]) (by simp [results, Try.results28, go_sem, d0, d1]) rfl ⟨rfl, (hbe.setCell (by first | (simp; done) | (simp; omega)) _).setCell (by first | (simp; done) | (simp; omega)) _⟩
      obtain ⟨b, o, rfl, hb, hc⟩ : ∃ b o, Av = some ⟨b, o, none⟩ ∧ b < wr.heap.size ∧ ∀ (j : Nat) (u : Value), ((x :: l0).flatMap V.cells)[j]? = some u → wr.cell? ⟨b, o + j, none⟩ = some u := by
        rcases hrow with h | ⟨b, o, h1, h2, h3⟩
        · simp [V.cells] at h
        · exact ⟨b, o, h1, h2, h3⟩
      rw [aggV_cons] at hRL
      rw [show (x :: l0).length = l0.length + 1 from rfl] at cl hlen hRL
      have hx0 : wr.cell? ⟨b, o, none⟩ = some (.int .i64 x.k) := hc 0 _ rfl
      have hx1 : wr.cell? ⟨b, o + 1, none⟩ = some (.int .u64 x.b) := hc 1 _ rfl
      have HS : Hid (∀ w' : World, Below w0.heap.size wr w' → Bk w' (w0.heap.size + 3) 34 #[.slice (some ⟨b, o, none⟩) (l0.length + 1) cv] → True) := Lib.hid fun _ _ _ => trivial
      clear HS hrow
      by_cases h27 : op = 27
      · as_aux_lemma =>
        subst h27
        rw [if_pos rfl] at hRL
        have e0 := hc _ _ (flat_at (n := 2) V.cells (fun _ => rfl) (x :: l0) l0.length 0 (by simp) (by omega))
        have e1 := hc _ _ (flat_at (n := 2) V.cells (fun _ => rfl) (x :: l0) l0.length 1 (by simp) (by omega))
        have el : (x :: l0).getLast (by simp) = (x :: l0)[l0.length]'(by simp) := by rw [List.getLast_eq_getElem]; simp
        rw [← el, hRL] at e0 e1
        have e0 : wr.cell? ⟨b, o + l0.length * 2, none⟩ = some (.int .i64 R.k) := e0
        have e1 : wr.cell? ⟨b, o + l0.length * 2 + 1, none⟩ = some (.int .u64 R.b) := by rw [Nat.add_assoc]; exact e1
        have hws : IntKind.i64.wrap ((l0.length : Int) + 1 - 1) = (l0.length : Int) := by rw [IntKind.wrap_i64]; omega
        have hbe := hbel
        clear hRL el hc
        obtain ⟨c0, c1, f0, f1⟩ := vcells kr
        obtain ⟨d0, d1, _, _⟩ := vcells (vput kr (.int .i64 R.k) (.int .u64 R.b))
        clear kr
        go_wp2_with fail
        exact bodyPost_ret (v := .agg #[.int .i64 R.k, .int .u64 R.b]) (by simp [results, Try.results28, go_sem, d0, d1]) rfl ⟨rfl, (hbe.setCell (by first | (simp; done) | (simp; omega)) _).setCell (by first | (simp; done) | (simp; omega)) _⟩
      by_cases h28 : op = 28
      · as_aux_lemma =>
        subst h28
        rw [if_neg (by decide), if_pos rfl, sumV_foldl] at hRL
        have hfold := pfold_add addV x l0 (w0.heap.size + 3) b o cv wr cl hb hc hLF (by omega) addV_fits (fun a b ha hb w _ => padd_any a b ha hb w)
        rw [hRL] at hfold
        have HFO := Lib.hid hfold
        clear hfold hRL hc
        go_wp2_with fail
        refine HFO.out.mono ?_
        rintro e w2 ⟨rfl, hb2⟩
        simp only [V.v]
        have hbe : Below w0.heap.size w0 w2 := hbel.trans (hb2.mono hbel.size)
        have kr := kr.old hb2
        clear hb2
        obtain ⟨c0, c1, f0, f1⟩ := vcells kr
        obtain ⟨d0, d1, _, _⟩ := vcells (vput kr (.int .i64 R.k) (.int .u64 R.b))
        clear kr
        go_wp2_with fail
        exact bodyPost_ret (v := .agg #[.int .i64 R.k, .int .u64 R.b]) (by simp [results, Try.results28, go_sem, d0, d1]) rfl ⟨rfl, (hbe.setCell (by first | (simp; done) | (simp; omega)) _).setCell (by first | (simp; done) | (simp; omega)) _⟩
      by_cases h29 : op = 29 ∨ op = 30
      · rw [if_neg h27, if_neg h28, if_pos h29] at hRL
        by_cases hk : x.k = 1 ∨ x.k = 4
        · as_aux_lemma =>
          rw [if_neg (show ¬ (x.k ≠ 1 ∧ x.k ≠ 4) by omega)] at hRL
          have hfold := pfold_pick (fun a b => pickV a b (decide (op = 30))) w0.heap.size x l0 (w0.heap.size + 3) b o cv wr cl hb hc hLF (by omega) (fun a b ha hb => pickV_fits _ ha hb) (fun a b ha hb w hw => ppick_any a b ha hb op w0.heap.size w ((bcell hw _ _ (by have := kr.lt; omega)).trans n0))
          rw [hRL] at hfold
          have HFO := Lib.hid hfold
          clear hfold hRL hc
          rcases h29 with rfl | rfl
          all_goals
            rcases hk with hk | hk
            all_goals
              have gk1 : (x.k != 1) = decide (x.k ≠ 1) := by by_cases h : x.k = 1 <;> simp [h]
              have gk4 : (x.k != 4) = decide (x.k ≠ 4) := by by_cases h : x.k = 4 <;> simp [h]
              rw [hk] at gk1 gk4 hx0
              clear hk
              go_wp2_with fail
              refine HFO.out.mono ?_
              rintro e w2 ⟨rfl, hb2⟩
              simp only [V.v]
              have hbe : Below w0.heap.size w0 w2 := hbel.trans (hb2.mono hbel.size)
              have kr := kr.old hb2
              clear hb2
              obtain ⟨c0, c1, f0, f1⟩ := vcells kr
              obtain ⟨d0, d1, _, _⟩ := vcells (vput kr (.int .i64 R.k) (.int .u64 R.b))
              clear kr
              go_wp2_with fail
              exact bodyPost_ret (v := .agg #[.int .i64 R.k, .int .u64 R.b]) (by simp [results, Try.results28, go_sem, d0, d1]) rfl ⟨rfl, (hbe.setCell (by first | (simp; done) | (simp; omega)) _).setCell (by first | (simp; done) | (simp; omega)) _⟩
        · as_aux_lemma =>
          rw [if_pos (show x.k ≠ 1 ∧ x.k ≠ 4 by omega)] at hRL
          have g1 : (x.k != 1) = true := by rw [bne_iff_ne]; omega
          have g4 : (x.k != 4) = true := by rw [bne_iff_ne]; omega
          subst hRL
          have hbe := hbel
          clear hk hc
          rcases h29 with rfl | rfl
          all_goals
            obtain ⟨c0, c1, f0, f1⟩ := vcells kr
            obtain ⟨d0, d1, _, _⟩ := vcells (vput kr (.int .i64 0) (.int .u64 0))
            clear kr
            go_wp2_with fail
            exact bodyPost_ret (v := .agg #[.int .i64 0, .int .u64 0]) (by simp [results, Try.results28, go_sem, d0, d1]) rfl ⟨rfl, (hbe.setCell (by first | (simp; done) | (simp; omega)) _).setCell (by first | (simp; done) | (simp; omega)) _⟩
      rw [if_neg h27, if_neg h28, if_neg h29] at hRL
      by_cases h31 : op = 31
      · as_aux_lemma =>
        subst h31
        rw [if_pos rfl, sumV_foldl, intV_nat (by omega)] at hRL
        have hSf : (l0.foldl addV x).fits := foldAdd_fits _ _ (hLF x (by simp)) (fun y hy => hLF y (by simp [hy]))
        have hCf : (applyV 16 [⟨1, l0.length + 1⟩]).fits := apply_fits _ _ (by intro q hq; simp only [List.mem_cons, List.not_mem_nil, or_false] at hq; subst hq; show l0.length + 1 < 18446744073709551616; omega)
        have hfold : ∀ w' : World, Below wr.heap.size wr w' → Calls Try.prog 50 #[.func (.func 51) #[] #[], .pointer (some ⟨w0.heap.size + 3, 0, none⟩)] w' fun e w2 => e = .returned (l0.foldl addV x).v ∧ Below w'.heap.size w' w2 := fun w' hw =>
          pfold_add addV x l0 (w0.heap.size + 3) b o cv w' ((bcell hw _ _ (World.block_lt_of_cell? _ _ cl)).trans cl) (Nat.lt_of_lt_of_le hb hw.size) (fun j u hu => (bcell hw _ _ hb).trans (hc j u hu)) hLF (by omega) addV_fits (fun a b ha hb w _ => padd_any a b ha hb w)
        generalize l0.foldl addV x = S at *
        have hC16 := apply_any 16 [⟨1, l0.length + 1⟩] (some ⟨wr.heap.size, 0, none⟩) 1 (wr.alloc (.cells #[.int .i64 1, .int .u64 ((l0.length : Int) + 1)] 31)) (bk_rd (Bk.new wr 31 #[.int .i64 1, .int .u64 ((l0.length : Int) + 1)])) (by intro q hq; simp only [List.mem_cons, List.not_mem_nil, or_false] at hq; subst hq; show l0.length + 1 < 18446744073709551616; omega) (by simp)
        generalize applyV 16 [⟨1, l0.length + 1⟩] = C at *
        have HS := Lib.hid hfold
        have HR := Lib.hid hRL
        have HC := Lib.hid hC16
        clear hfold hRL hC16 hc hx0 hx1 hLF
        go_wp2_with fail
        refine HC.out.mono ?_
        rintro e w2 ⟨rfl, hb2⟩
        simp only [V.v]
        have hwr : Below wr.heap.size wr w2 := ((Below.refl _ _).alloc (Nat.le_refl _) _).trans (hb2.mono (by simp))
        have kr := (kr.alloc _).old hb2
        clear hb2
        go_wp2_with fail
        have HW := Lib.hid (hwr.alloc hwr.size (.cells #[.int .i64 C.k, .int .u64 C.b] 31))
        obtain ⟨cx0, cx1, _, _⟩ := vcells (Bk.new w2 31 #[.int .i64 C.k, .int .u64 C.b])
        refine wp_region_t 6 (fun k => false) (by kernel_rfl) (fun qk => (evMeanP S C R w0 w2).getD qk .any) (by kernel_rfl) ?_ ?_
        · refine BOk.cons rfl [] [8] rfl rfl (by kernel_rfl) (by kernel_rfl) (fun qK qa wr hB qO qF hK => ?_) ?_
          · have e8 : qa.tmps[8]? = some (.func (.func 50) #[] #[.pointer (some ⟨w0.heap.size + 3, 0, none⟩)]) := qO.1.trans rfl
            clear qO qF
            go_simp
            exact hK _ _ (Below.refl _ _) rfl
          refine BOk.cons rfl [] [9] rfl rfl (by kernel_rfl) (by kernel_rfl) (fun qK qa wr hB qO qF hK => ?_) ?_
          · have e9 : qa.tmps[9]? = some (.func (.func 51) #[] #[]) := qO.1.trans rfl
            clear qO qF
            go_simp
            exact hK _ _ (Below.refl _ _) rfl
          refine BOk.cons rfl [0, 1] [] rfl rfl (by kernel_rfl) (by kernel_rfl) (fun qK qa wr hB qO qF hK => ?_) ?_
          · obtain ⟨u76, e76, r0⟩ := qF.1
            have e76 : qa.tmps[76]? = some (.func (.func 50) #[] #[.pointer (some ⟨w0.heap.size + 3, 0, none⟩)]) := (show u76 = .func (.func 50) #[] #[.pointer (some ⟨w0.heap.size + 3, 0, none⟩)] from r0) ▸ e76
            clear r0
            obtain ⟨u77, e77, r1⟩ := qF.2.1
            have e77 : qa.tmps[77]? = some (.func (.func 51) #[] #[]) := (show u77 = .func (.func 51) #[] #[] from r1) ▸ e77
            clear r1
            clear qO qF
            go_simp
            go_at_call 50
            refine (HS.out _ (HW.out.trans (hB.mono HW.out.size))).mono ?_
            rintro e w2 ⟨rfl, hb2⟩
            exact hK _ _ hb2 rfl
          refine BOk.cons rfl [] [10] rfl rfl (by kernel_rfl) (by kernel_rfl) (fun qK qa wr hB qO qF hK => ?_) ?_
          · have e10 : qa.tmps[10]? = some (.pointer (some ⟨w2.heap.size, 0, none⟩)) := qO.1.trans rfl
            clear qO qF
            have hcx0 := (bcell hB _ _ (World.block_lt_of_cell? _ _ cx0)).trans cx0
            have hcx1 := (bcell hB _ _ (World.block_lt_of_cell? _ _ cx1)).trans cx1
            go_simp
            exact hK _ _ (Below.refl _ _) rfl
          refine BOk.cons rfl [2, 3] [] rfl rfl (by kernel_rfl) (by kernel_rfl) (fun qK qa wr hB qO qF hK => ?_) ?_
          · obtain ⟨u78, e78, r2⟩ := qF.1
            have e78 : qa.tmps[78]? = some (.agg #[.int .i64 S.k, .int .u64 S.b]) := (show u78 = .agg #[.int .i64 S.k, .int .u64 S.b] from r2) ▸ e78
            clear r2
            obtain ⟨u79, e79, r3⟩ := qF.2.1
            have e79 : qa.tmps[79]? = some (.agg #[.int .i64 C.k, .int .u64 C.b]) := (show u79 = .agg #[.int .i64 C.k, .int .u64 C.b] from r3) ▸ e79
            clear r3
            clear qO qF
            go_simp
            exact hK _ _ ((Below.refl _ _).alloc (Nat.le_refl _) _) ⟨_, rfl, Bk.new _ _ _⟩
          refine BOk.cons rfl [4] [] rfl rfl (by kernel_rfl) (by kernel_rfl) (fun qK qa wr hB qO qF hK => ?_) ?_
          · obtain ⟨u80, e80, r4⟩ := qF.1
            obtain ⟨g80, h80, k80⟩ := (show ∃ g, u80 = .slice (some ⟨g, 0, none⟩) 2 2 ∧ Bk wr g 31 #[.int .i64 S.k, .int .u64 S.b, .int .i64 C.k, .int .u64 C.b] from r4)
            subst h80
            have e80 : qa.tmps[80]? = some (.slice (some ⟨g80, 0, none⟩) 2 2) := e80
            clear qO qF
            go_simp
            go_at_call 10
            refine ((apply_any 4 [S, C] _ 2 _ (bk_rd k80) (by intro x hx; simp only [List.mem_cons, List.not_mem_nil, or_false] at hx; rcases hx with rfl | rfl <;> assumption) (by simp))).mono ?_
            rintro e w2 ⟨rfl, hb2⟩
            rw [HR.out]
            exact hK _ _ hb2 rfl
          exact BOk.nil
        intro vals wr hl hB hR hS
        match vals, hl with
        | [z76, z77, z78, z79, z80, z81], _ =>
        have r5 : z81 = .agg #[.int .i64 R.k, .int .u64 R.b] := hR 5 _ rfl
        subst r5
        clear hS
        clear hR
        simp only [List.take_succ_cons, List.take_zero, List.drop_succ_cons, List.drop_zero, List.toList_toArray, List.cons_append, List.nil_append, putAll, Act.put, List.setIfInBounds_toArray, List.set_cons_zero, List.set_cons_succ]
        have hbe : Below w0.heap.size w0 wr := hbel.trans ((HW.out.trans (hB.mono HW.out.size)).mono hbel.size)
        have kr := (kr.alloc _).old hB
        clear hB
        obtain ⟨c0, c1, f0, f1⟩ := vcells kr
        obtain ⟨d0, d1, _, _⟩ := vcells (vput kr (.int .i64 R.k) (.int .u64 R.b))
        clear kr
        go_wp2_with fail
        exact bodyPost_ret (v := .agg #[.int .i64 R.k, .int .u64 R.b]) (by simp [results, Try.results28, go_sem, d0, d1]) rfl ⟨rfl, (hbe.setCell (by first | (simp; done) | (simp; omega)) _).setCell (by first | (simp; done) | (simp; omega)) _⟩
      · as_aux_lemma =>
        rw [if_neg h31] at hRL
        subst hRL
        have g27 : (op == 27) = false := by rw [beq_eq_false_iff_ne]; exact h27
        have g28 : (op == 28) = false := by rw [beq_eq_false_iff_ne]; exact h28
        have g29 : (op == 29) = false := by rw [beq_eq_false_iff_ne]; exact fun h => h29 (.inl h)
        have g30 : (op == 30) = false := by rw [beq_eq_false_iff_ne]; exact fun h => h29 (.inr h)
        have g31 : (op == 31) = false := by rw [beq_eq_false_iff_ne]; exact h31
        have hbe := hbel
        clear h27 h28 h29 h31 hc
        obtain ⟨c0, c1, f0, f1⟩ := vcells kr
        obtain ⟨d0, d1, _, _⟩ := vcells (vput kr (.int .i64 x.k) (.int .u64 x.b))
        clear kr
        go_wp2_with fail
        exact bodyPost_ret (v := .agg #[.int .i64 x.k, .int .u64 x.b]) (by simp [results, Try.results28, go_sem, d0, d1]) rfl ⟨rfl, (hbe.setCell (by first | (simp; done) | (simp; omega)) _).setCell (by first | (simp; done) | (simp; omega)) _⟩
end Go.Proofs.Ytomhheihhnmbcaa
