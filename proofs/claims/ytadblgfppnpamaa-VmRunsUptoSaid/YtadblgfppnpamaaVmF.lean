/- Layer 18: what the document's Run tells. No conditions. -/
import Derived.Test.YtadblgfppnpamaaVmE
import Derived.Test.YtadblgfppnpamaaValZ
namespace Go.Proofs.Ytadblgfppnpamaa
open Go.RowKit
set_option linter.unusedVariables false
set_option linter.unusedSimpArgs false

theorem zeroRV (w : World) : (zeroValue 33).run Try.prog w = .ok (valE.val valE.zero) w := by kernel_rfl
theorem bk_rd1 {w : World} {g : Nat} {t : TypeId} {a b c d : Value} (h : Bk w g t #[a, b, c, d]) : Rd w w.heap.size (some ⟨g, 0, none⟩) [a, b] := by
  refine .inr ⟨g, 0, rfl, h.lt, fun j u hu => ?_⟩
  rw [Nat.zero_add, h.cell j]
  match j, hu with
  | 0, hu => simpa using hu
  | 1, hu => simpa using hu
  | j + 2, hu => simp at hu
theorem takeF_fits {l : List V} (i : Int) (h : ∀ x ∈ l, x.fits) : (takeL l i).fits := by
  unfold takeL
  split
  · rename_i hi
    have : i.toNat < l.length := by omega
    rw [List.getD_eq_getElem?_getD, List.getElem?_eq_getElem this]
    exact clean_fits _ (h _ (by simp))
  · exact fits0
theorem putF_fits {f : Int → V} {i n : Int} {v : V} (h : ∀ i, (f i).fits) (hv : v.fits) : ∀ j, (putF f i n v j).fits := by
  intro j
  unfold putF
  split
  · show V.fits (if j = i then v else f j)
    split
    · exact hv
    · exact h j
  · exact h j
theorem act_eval {a : Act} {d : Nat} {v : Value} (h : a.tmps[d]? = some v) : a.eval (.tmp d) = v := by simp [Act.eval, h]
/-- A look into a map of values, at the operation. -/
theorem wp_lookV {w : World} {o : Oper} {a : Act} {K : Act → World → Prop} {Q : Exit → Act → World → Prop} (m x : Operand) (hop : o.op = Op.lookup 52 m x false) {b n : Nat} {f : Int → V} (hm : a.eval m = .map (some b)) (h : MapV w b n f) {i : Int} (hi : I64 i) (hx : a.eval x = .int .i64 i)
    (hK : K (a.put o.dst (.agg #[.int .i64 (f i).k, .int .u64 (f i).b])) w) : o.wp Try.prog a w K Q := by
  have hrun := MapF.look h Try.underlying3 Try.underlying52 (zeroRV w) i hi.wf
  unfold Oper.wp
  simp [execOp, hop, hm, hx, hrun, Result.andThen]
  exact hK

def refIn (A Ak : Option Addr) (c ck : Nat) (inp lk : List V) (op dst a b NR NS : Int) (Y Z U : V) (w wl : World) : List Spec := [.is (.map (some (w.heap.size + 1 + 1))),
  .is (.pointer (some ⟨wl.heap.size, 1, none⟩)),
  .is (.int .i64 dst),
  .is (.int .i64 NR),
  .is (.slice A inp.length c),
  .is (.pointer (some ⟨wl.heap.size, 2, none⟩)),
  .is (.int .i64 a),
  .is (.agg #[.int .i64 Y.k, .int .u64 Y.b])]
def refKo (A Ak : Option Addr) (c ck : Nat) (inp lk : List V) (op dst a b NR NS : Int) (Y Z U : V) (w wl : World) : List Spec := [.is (.map (some (w.heap.size + 1 + 1))),
  .is (.pointer (some ⟨wl.heap.size, 1, none⟩)),
  .is (.int .i64 dst),
  .is (.int .i64 NR),
  .is (.pointer (some ⟨w.heap.size, 3, none⟩)),
  .is (.slice Ak lk.length ck),
  .is (.pointer (some ⟨wl.heap.size, 2, none⟩)),
  .is (.int .i64 a),
  .is (.agg #[.int .i64 Y.k, .int .u64 Y.b])]
def refone (A Ak : Option Addr) (c ck : Nat) (inp lk : List V) (op dst a b NR NS : Int) (Y Z U : V) (w wl : World) : List Spec := [.is (.map (some (w.heap.size + 1 + 1))),
  .is (.pointer (some ⟨wl.heap.size, 1, none⟩)),
  .is (.int .i64 dst),
  .is (.int .i64 NR),
  .is (.pointer (some ⟨wl.heap.size, 0, none⟩)),
  .is (.int .i64 op),
  .is (.map (some (w.heap.size + 1 + 1))),
  .is (.pointer (some ⟨wl.heap.size, 2, none⟩)),
  .is (.int .i64 a),
  .is (.agg #[.int .i64 Y.k, .int .u64 Y.b]),
  .is (.map (some (w.heap.size + 1 + 1))),
  .is (.pointer (some ⟨wl.heap.size, 3, none⟩)),
  .is (.int .i64 b),
  .is (.agg #[.int .i64 Z.k, .int .u64 Z.b]),
  .st (fun v w => ∃ g, v = .slice (some ⟨g, 0, none⟩) 2 2 ∧ Bk w g 33 #[.int .i64 Y.k, .int .u64 Y.b, .int .i64 Z.k, .int .u64 Z.b]) (fun _ _ _ hb ⟨g, h1, h2⟩ => ⟨g, h1, h2.old hb⟩),
  .is (.int .i64 1),
  .st (fun v w => ∃ g, v = .slice (some ⟨g, 0, none⟩) 1 2 ∧ Bk w g 33 #[.int .i64 Y.k, .int .u64 Y.b, .int .i64 Z.k, .int .u64 Z.b]) (fun _ _ _ hb ⟨g, h1, h2⟩ => ⟨g, h1, h2.old hb⟩),
  .is (.agg #[.int .i64 U.k, .int .u64 U.b])]
def reftwo (A Ak : Option Addr) (c ck : Nat) (inp lk : List V) (op dst a b NR NS : Int) (Y Z U : V) (w wl : World) : List Spec := [.is (.map (some (w.heap.size + 1 + 1))),
  .is (.pointer (some ⟨wl.heap.size, 1, none⟩)),
  .is (.int .i64 dst),
  .is (.int .i64 NR),
  .is (.pointer (some ⟨wl.heap.size, 0, none⟩)),
  .is (.int .i64 op),
  .is (.map (some (w.heap.size + 1 + 1))),
  .is (.pointer (some ⟨wl.heap.size, 2, none⟩)),
  .is (.int .i64 a),
  .is (.agg #[.int .i64 Y.k, .int .u64 Y.b]),
  .is (.map (some (w.heap.size + 1 + 1))),
  .is (.pointer (some ⟨wl.heap.size, 3, none⟩)),
  .is (.int .i64 b),
  .is (.agg #[.int .i64 Z.k, .int .u64 Z.b]),
  .st (fun v w => ∃ g, v = .slice (some ⟨g, 0, none⟩) 2 2 ∧ Bk w g 33 #[.int .i64 Y.k, .int .u64 Y.b, .int .i64 Z.k, .int .u64 Z.b]) (fun _ _ _ hb ⟨g, h1, h2⟩ => ⟨g, h1, h2.old hb⟩),
  .is (.int .i64 2),
  .st (fun v w => ∃ g, v = .slice (some ⟨g, 0, none⟩) 2 2 ∧ Bk w g 33 #[.int .i64 Y.k, .int .u64 Y.b, .int .i64 Z.k, .int .u64 Z.b]) (fun _ _ _ hb ⟨g, h1, h2⟩ => ⟨g, h1, h2.old hb⟩),
  .is (.agg #[.int .i64 U.k, .int .u64 U.b])]
def refPre (nr ns NR NS : Int) (w : World) : List Spec := [.is (.pointer (some ⟨w.heap.size, 0, none⟩)),
  .is (.int .i64 nr),
  .is (.int .i64 NR),
  .is (.pointer (some ⟨w.heap.size, 1, none⟩)),
  .is (.int .i64 ns),
  .is (.int .i64 NS),
  .is (.int .i64 NR),
  .is (.int .i64 NS)]
set_option maxRecDepth 100000 in
set_option maxHeartbeats 4000000 in
theorem rrun_any (cd : CodeV) (A : Option Addr) (c : Nat) (inp : List V) (w : World) (h : cd.ok w w.heap.size) (hr : Rd w w.heap.size A (inp.flatMap V.cells)) (hf : ∀ x ∈ inp, x.fits) (hl : inp.length ≤ 1048576) (hll : cd.ll.length ≤ 3000) :
    Calls Try.prog 10 #[cd.val, .slice A inp.length c] w fun e w' => e = .returned (runR cd inp).v ∧ Below w.heap.size w w' := by
  obtain ⟨nr, ns, Ai, ci, li, Ak, ck, lk, Al, cl, ll⟩ := cd
  obtain ⟨ri, rk, rl, ni, nk, nl, fi, fk, fl, fr, fs⟩ := h
  simp only at ri rk rl ni nk nl fi fk fl fr fs hll
  obtain ⟨NR, eq1⟩ : ∃ q : Int, (if 1024 < nr then 1024 else nr) = q := ⟨_, rfl⟩
  obtain ⟨NS, ep1⟩ : ∃ p : Int, (if 256 < ns then 256 else ns) = p := ⟨_, rfl⟩
  generalize hRV : runR ⟨nr, ns, Ai, ci, li, Ak, ck, lk, Al, cl, ll⟩ inp = RV
  unfold runR at hRV
  simp only [show min nr 1024 = NR by subst eq1; split <;> omega, show min ns 256 = NS by subst ep1; split <;> omega] at hRV
  have HRV := Lib.hid hRV
  have hinp := hl
  have hmm := @run_makeMap Try.prog
  unfold CodeV.val
  clear hRV fr fs fi ri ni
  go_enter Try.func10, Try.ntmps10
  go_wp2_with fail
  have kc := (((Bk.new w 26 #[.int .i64 nr, .int .i64 ns, .slice Ai li.length ci, .slice Ak lk.length ck, .slice Al ll.length cl]).alloc (.cells #[.int .i64 0, .int .u64 0] 33)).alloc (.map #[] 0)).alloc (.map #[] 0)
  have c0 := kc.cell 0
  have c1 := kc.cell 1
  refine wp_region_b (by kernel_rfl) (fun qk => (refPre nr ns NR NS w).getD qk .any) (by kernel_rfl) ?_ ?_
  · refine BOk.cons rfl [] [2] rfl rfl (by kernel_rfl) (by kernel_rfl) (fun qK qa wr hB qO qF hK => ?_) ?_
    · have e2 : qa.tmps[2]? = some (.pointer (some ⟨w.heap.size, 0, none⟩)) := qO.1.trans rfl
      clear qO qF
      go_simp
      exact hK _ _ (Below.refl _ _) rfl
    refine BOk.cons rfl [0] [] rfl rfl (by kernel_rfl) (by kernel_rfl) (fun qK qa wr hB qO qF hK => ?_) ?_
    · have e14 : qa.tmps[14]? = some (.pointer (some ⟨w.heap.size, 0, none⟩)) := fis qF.1 rfl rfl
      clear qO qF
      have hc0 := (bcell hB _ _ (World.block_lt_of_cell? _ _ c0)).trans c0
      go_simp
      exact hK _ _ (Below.refl _ _) rfl
    refine BOk.cons rfl [1] [] rfl rfl (by kernel_rfl) (by kernel_rfl) (fun qK qa wr hB qO qF hK => ?_) ?_
    · have e15 : qa.tmps[15]? = some (.int .i64 nr) := fis qF.1 rfl rfl
      clear qO qF
      go_simp
      refine hK _ _ (Below.refl _ _) ?_
      show (_ : Value) = _
      first | rfl | (simp; done) | (simp; omega)
    refine BOk.cons rfl [] [2] rfl rfl (by kernel_rfl) (by kernel_rfl) (fun qK qa wr hB qO qF hK => ?_) ?_
    · have e2 : qa.tmps[2]? = some (.pointer (some ⟨w.heap.size, 0, none⟩)) := qO.1.trans rfl
      clear qO qF
      go_simp
      exact hK _ _ (Below.refl _ _) rfl
    refine BOk.cons rfl [3] [] rfl rfl (by kernel_rfl) (by kernel_rfl) (fun qK qa wr hB qO qF hK => ?_) ?_
    · have e17 : qa.tmps[17]? = some (.pointer (some ⟨w.heap.size, 1, none⟩)) := fis qF.1 rfl rfl
      clear qO qF
      have hc1 := (bcell hB _ _ (World.block_lt_of_cell? _ _ c1)).trans c1
      go_simp
      exact hK _ _ (Below.refl _ _) rfl
    refine BOk.cons rfl [4] [] rfl rfl (by kernel_rfl) (by kernel_rfl) (fun qK qa wr hB qO qF hK => ?_) ?_
    · have e18 : qa.tmps[18]? = some (.int .i64 ns) := fis qF.1 rfl rfl
      clear qO qF
      go_simp
      refine hK _ _ (Below.refl _ _) ?_
      show (_ : Value) = _
      first | rfl | (simp; done) | (simp; omega)
    refine BOk.cons rfl [2] [] rfl rfl (by kernel_rfl) (by kernel_rfl) (fun qK qa wr hB qO qF hK => ?_) ?_
    · have e16 : qa.tmps[16]? = some (.int .i64 NR) := fis qF.1 rfl rfl
      clear qO qF
      go_simp
      exact hK _ _ (Below.refl _ _) rfl
    refine BOk.cons rfl [5] [] rfl rfl (by kernel_rfl) (by kernel_rfl) (fun qK qa wr hB qO qF hK => ?_) ?_
    · have e19 : qa.tmps[19]? = some (.int .i64 NS) := fis qF.1 rfl rfl
      clear qO qF
      go_simp
      exact hK _ _ (Below.refl _ _) rfl
    exact BOk.nil
  intro vals wr hl hB hR
  match vals, hl with
  | [z14, z15, z16, z17, z18, z19, z7, z8], _ =>
  have r0 : z14 = .pointer (some ⟨w.heap.size, 0, none⟩) := hR 0 _ rfl
  subst r0
  have r1 : z15 = .int .i64 nr := hR 1 _ rfl
  subst r1
  have r2 : z16 = .int .i64 NR := hR 2 _ rfl
  subst r2
  have r3 : z17 = .pointer (some ⟨w.heap.size, 1, none⟩) := hR 3 _ rfl
  subst r3
  have r4 : z18 = .int .i64 ns := hR 4 _ rfl
  subst r4
  have r5 : z19 = .int .i64 NS := hR 5 _ rfl
  subst r5
  have r6 : z7 = .int .i64 NR := hR 6 _ rfl
  subst r6
  have r7 : z8 = .int .i64 NS := hR 7 _ rfl
  subst r7
  clear hR
  simp only [List.cons_append, List.nil_append, putAll, Act.put, List.setIfInBounds_toArray, List.set_cons_zero, List.set_cons_succ]
  have kc := kc.old hB
  have hbe : Below w.heap.size w wr := (show Below w.heap.size w _ by repeat (first | exact Below.refl _ _ | refine Below.alloc ?_ (by first | (simp; done) | (simp; omega)) _)).trans (hB.mono (by simp; omega))
  have kr := ((((Bk.newAt (w := w.alloc (.cells #[.int .i64 nr, .int .i64 ns, .slice Ai li.length ci, .slice Ak lk.length ck, .slice Al ll.length cl] 26)) (g := w.heap.size + 1) (by simp) 33 #[.int .i64 0, .int .u64 0]).alloc (.map #[] 0)).alloc (.map #[] 0))).old hB
  have hm : MapV wr (w.heap.size + 1 + 1) 0 (fun _ => none0) := ((MapF.madeAt (E := valE) (w := (w.alloc (.cells #[.int .i64 nr, .int .i64 ns, .slice Ai li.length ci, .slice Ak lk.length ck, .slice Al ll.length cl] 26)).alloc (.cells #[.int .i64 0, .int .u64 0] 33)) (b := w.heap.size + 1 + 1) (by simp)).alloc (.map #[] 0)).old hB
  have hs : MapV wr (w.heap.size + 1 + 1 + 1) 0 (fun _ => none0) := (MapF.madeAt (E := valE) (w := ((w.alloc (.cells #[.int .i64 nr, .int .i64 ns, .slice Ai li.length ci, .slice Ak lk.length ck, .slice Al ll.length cl] 26)).alloc (.cells #[.int .i64 0, .int .u64 0] 33)).alloc (.map #[] 0)) (b := w.heap.size + 1 + 1 + 1) (by simp)).old hB
  clear c0 c1 hB eq1 ep1
  have c4 := kc.cell 4
  go_wp2_with fail
  clear c4
  go_loopw [23] (fun i wr => ∃ (k : Nat) (f g : Int → V), k ≤ ll.length ∧ i = .int .i64 k ∧ Below w.heap.size w wr ∧ MapV wr (w.heap.size + 1 + 1) k f ∧ MapV wr (w.heap.size + 1 + 1 + 1) k g ∧ Bk wr (w.heap.size + 1) 33 #[.int .i64 0, .int .u64 0] ∧ Bk wr w.heap.size 26 #[.int .i64 nr, .int .i64 ns, .slice Ai li.length ci, .slice Ak lk.length ck, .slice Al ll.length cl] ∧
      (∀ i, (f i).fits) ∧ (∀ i, (g i).fits) ∧ Hid (runF NR NS inp lk (ll.drop k) (f, g) = RV)) (fun i _ => ll.length - (intOf i).toNat)
  case atStart => exact ⟨0, _, _, Nat.zero_le _, rfl, hbe, hm, hs, kr, kc, fun _ => fits0, fun _ => fits0, HRV⟩
  case round =>
    clear hbe hm hs kr kc
    obtain ⟨k, f, g, hk, rfl, hbe, hm, hs, kr, kc, hff, hgg, hrun⟩ := hrel
    rename World => wl
    by_cases hlt : k < ll.length
    · obtain ⟨bb, oo, rfl, hb, hc⟩ := (rl.below hbe).elem (f := InsV.cells) (n := 4) (fun _ => rfl) (by omega) hlt
      have hrun := hrun.out
      rw [List.drop_eq_getElem_cons hlt] at hrun
      obtain ⟨ho, hd, ha, hbI⟩ := fl ll[k] (by simp)
      generalize ll[k] = x at *
      obtain ⟨op, dst, a, b⟩ := x
      have hc0 : wl.cell? ⟨bb, oo + k * 4, none⟩ = some (.int .i64 op) := hc 0 _ rfl
      have hc1 : wl.cell? ⟨bb, oo + k * 4 + 1, none⟩ = some (.int .i64 dst) := hc 1 _ rfl
      have hc2 : wl.cell? ⟨bb, oo + k * 4 + 2, none⟩ = some (.int .i64 a) := hc 2 _ rfl
      have hc3 : wl.cell? ⟨bb, oo + k * 4 + 3, none⟩ = some (.int .i64 b) := hc 3 _ rfl
      have hsz := hbe.size
      have ha : I64 a := ha
      have hb : I64 b := hbI
      have hd : I64 dst := hd
      have kx := Bk.new wl 43 #[.int .i64 op, .int .i64 dst, .int .i64 a, .int .i64 b]
      replace hm := MapF.alloc hm (.cells #[.int .i64 op, .int .i64 dst, .int .i64 a, .int .i64 b] 43)
      replace hs := MapF.alloc hs (.cells #[.int .i64 op, .int .i64 dst, .int .i64 a, .int .i64 b] 43)
      replace kr := kr.alloc (.cells #[.int .i64 op, .int .i64 dst, .int .i64 a, .int .i64 b] 43)
      replace kc := kc.alloc (.cells #[.int .i64 op, .int .i64 dst, .int .i64 a, .int .i64 b] 43)
      replace hbe := hbe.alloc hbe.size (.cells #[.int .i64 op, .int .i64 dst, .int .i64 a, .int .i64 b] 43)
      clear hc ho hbI
      by_cases h52 : op = 52
      · as_aux_lemma =>
        subst h52
        rw [runF, if_pos rfl] at hrun
        have hop : opnd 52 = 0 := rfl
        obtain ⟨Y, hY⟩ : ∃ Y, f a = Y := ⟨_, rfl⟩
        have hvv : valE.val (f a) = .agg #[.int .i64 Y.k, .int .u64 Y.b] := by rw [hY]; rfl
        have HVV := Lib.hid hvv
        have hrun : f a = RV := hrun
        rw [hY] at hrun
        have HR := Lib.hid hrun
        have HM := Lib.hid hm
        obtain ⟨c0, c1, f0, f1⟩ := vcells kr
        obtain ⟨d0, d1, _, _⟩ := vcells (vput kr (.int .i64 Y.k) (.int .u64 Y.b))
        clear hrun hm hs hff hgg hY hvv kr kc
        go_wp2_with fail
        refine (operands_any _ _).mono ?_
        rintro e wq ⟨rfl, rfl⟩
        rw [hop]
        go_wp2_with (at_lookup; refine wpList_lookF valE rfl _ _ 52 rfl 3 33 Try.underlying3 Try.underlying52 (zeroRV _) _ _ _ rfl HM.out _ rfl (I64.wf ha) ?_; rw [HVV.out])
        exact bodyPost_ret (v := .agg #[.int .i64 Y.k, .int .u64 Y.b]) (by simp [results, Try.results10, go_sem, d0, d1]) rfl ⟨by rw [← HR.out]; rfl, (hbe.setCell (by simp) _).setCell (by simp) _⟩
      rw [runF, if_neg h52] at hrun
      by_cases h50 : op = 50
      · as_aux_lemma =>
        subst h50
        have hst : stepF NR NS inp lk ⟨50, dst, a, b⟩ (f, g) = (putF f dst NR (takeL inp a), g) := rfl
        have hop : opnd 50 = 0 := rfl
        rw [hst] at hrun
        obtain ⟨Y, hY⟩ : ∃ Y, takeL inp a = Y := ⟨_, rfl⟩
        have hYf : Y.fits := by rw [← hY]; exact takeF_fits _ hf
        have hcl : ∀ w' : World, Below (wl.alloc (.cells #[.int .i64 50, .int .i64 dst, .int .i64 a, .int .i64 b] 43)).heap.size (wl.alloc (.cells #[.int .i64 50, .int .i64 dst, .int .i64 a, .int .i64 b] 43)) w' → Calls Try.prog 24 #[.slice A inp.length c, .int .i64 a] w' fun e w2 => e = .returned (.agg #[.int .i64 Y.k, .int .u64 Y.b]) ∧ Below w'.heap.size w' w2 := by
          intro w' hw
          have hw2 := hbe.trans (hw.mono hbe.size)
          have := rtake_any A c inp a w' ((hr.below hw2).more hw2.size) hf hinp
          rw [hY] at this
          exact this
        have HY := Lib.hid hcl
        rw [hY] at hrun
        clear hcl hY
        have HR := Lib.hid hrun
        have HM := Lib.hid hm
        have HS := Lib.hid hs
        have HB := Lib.hid hbe
        have HF := Lib.hid hff
        have HG := Lib.hid hgg
        have x0 := kx.cell 0
        have x1 := kx.cell 1
        have x2 := kx.cell 2
        have x3 := kx.cell 3
        have k3 := kc.cell 3
        clear hst hrun hm hs hbe hff hgg kx hr rk hf fk hinp nk rl fl
        go_wp2_with fail
        refine (operands_any _ _).mono ?_
        rintro e wq ⟨rfl, rfl⟩
        rw [hop]
        go_wp2_with fail
        refine wp_region_t 8 (fun k => false) (by kernel_rfl) (fun qk => (refIn A Ak c ck inp lk 50 dst a b NR NS Y none0 none0 w wl).getD qk .any) (by kernel_rfl) ?_ ?_
        · refine BOk.cons rfl [] [5] rfl rfl (by kernel_rfl) (by kernel_rfl) (fun qK qa wr hB qO qF hK => ?_) ?_
          · have e5 : qa.tmps[5]? = some (.map (some (w.heap.size + 1 + 1))) := qO.1.trans rfl
            clear qO qF
            go_simp
            exact hK _ _ (Below.refl _ _) rfl
          refine BOk.cons rfl [] [10] rfl rfl (by kernel_rfl) (by kernel_rfl) (fun qK qa wr hB qO qF hK => ?_) ?_
          · have e10 : qa.tmps[10]? = some (.pointer (some ⟨wl.heap.size, 0, none⟩)) := qO.1.trans rfl
            clear qO qF
            go_simp
            exact hK _ _ (Below.refl _ _) rfl
          refine BOk.cons rfl [1] [] rfl rfl (by kernel_rfl) (by kernel_rfl) (fun qK qa wr hB qO qF hK => ?_) ?_
          · have e43 : qa.tmps[43]? = some (.pointer (some ⟨wl.heap.size, 1, none⟩)) := fis qF.1 rfl rfl
            clear qO qF
            have hx1 := (bcell hB _ _ (World.block_lt_of_cell? _ _ x1)).trans x1
            go_simp
            exact hK _ _ (Below.refl _ _) rfl
          refine BOk.cons rfl [] [7] rfl rfl (by kernel_rfl) (by kernel_rfl) (fun qK qa wr hB qO qF hK => ?_) ?_
          · have e7 : qa.tmps[7]? = some (.int .i64 NR) := qO.1.trans rfl
            clear qO qF
            go_simp
            exact hK _ _ (Below.refl _ _) rfl
          refine BOk.cons rfl [] [1] rfl rfl (by kernel_rfl) (by kernel_rfl) (fun qK qa wr hB qO qF hK => ?_) ?_
          · have e1 : qa.tmps[1]? = some (.slice A inp.length c) := qO.1.trans rfl
            clear qO qF
            go_simp
            exact hK _ _ (Below.refl _ _) rfl
          refine BOk.cons rfl [] [10] rfl rfl (by kernel_rfl) (by kernel_rfl) (fun qK qa wr hB qO qF hK => ?_) ?_
          · have e10 : qa.tmps[10]? = some (.pointer (some ⟨wl.heap.size, 0, none⟩)) := qO.1.trans rfl
            clear qO qF
            go_simp
            exact hK _ _ (Below.refl _ _) rfl
          refine BOk.cons rfl [5] [] rfl rfl (by kernel_rfl) (by kernel_rfl) (fun qK qa wr hB qO qF hK => ?_) ?_
          · have e47 : qa.tmps[47]? = some (.pointer (some ⟨wl.heap.size, 2, none⟩)) := fis qF.1 rfl rfl
            clear qO qF
            have hx2 := (bcell hB _ _ (World.block_lt_of_cell? _ _ x2)).trans x2
            go_simp
            exact hK _ _ (Below.refl _ _) rfl
          refine BOk.cons rfl [4, 6] [] rfl rfl (by kernel_rfl) (by kernel_rfl) (fun qK qa wr hB qO qF hK => ?_) ?_
          · have e46 : qa.tmps[46]? = some (.slice A inp.length c) := fis qF.1 rfl rfl
            have e48 : qa.tmps[48]? = some (.int .i64 a) := fis qF.2.1 rfl rfl
            clear qO qF
            go_simp
            go_at_call 24
            refine (HY.out _ hB).mono ?_
            rintro e w2 ⟨rfl, hb2⟩
            exact hK _ _ hb2 rfl
          exact BOk.nil
        intro vals wr hl hB hR hS
        match vals, hl with
        | [z42, z43, z44, z45, z46, z47, z48, z49], _ =>
        have r0 : z42 = .map (some (w.heap.size + 1 + 1)) := hR 0 _ rfl
        subst r0
        have r2 : z44 = .int .i64 dst := hR 2 _ rfl
        subst r2
        have r3 : z45 = .int .i64 NR := hR 3 _ rfl
        subst r3
        have r7 : z49 = .agg #[.int .i64 Y.k, .int .u64 Y.b] := hR 7 _ rfl
        subst r7
        clear hS
        clear hR
        simp only [List.take_succ_cons, List.take_zero, List.drop_succ_cons, List.drop_zero, List.toList_toArray, List.cons_append, List.nil_append, putAll, Act.put, List.setIfInBounds_toArray, List.set_cons_zero, List.set_cons_succ]
        have HM := Lib.hid (HM.out.old hB)
        have HS := Lib.hid (HS.out.old hB)
        have kr := kr.old hB
        have kc := kc.old hB
        have HB := Lib.hid (HB.out.trans (hB.mono HB.out.size))
        clear hB
        go_wp2_with (go_at_call 23; refine (rput_any _ _ _ dst NR hd Y _ HM.out (by omega)).mono ?_; rintro e w3 ⟨rfl, hm3, hg3⟩)
        have hbe3 := below_gb HB.out hg3 HB.out.size (by omega)
        have kr3 := kr.grown hg3 (by intro e; injection e with e; omega)
        have kc3 := kc.grown hg3 (by intro e; injection e with e; omega)
        have hs4 := (HS.out.grown hg3 (by intro e; injection e with e; omega)).mono (Nat.le_succ _)
        have hfin : ∀ i, (putF f dst NR Y i).fits := putF_fits HF.out hYf
        go_wp2_with fail
        go_roundw
        case rel => exact ⟨k + 1, _, _, by omega, by go_num, hbe3, hm3, hs4, kr3, kc3, hfin, HG.out, HR⟩
        case measure => simp [intOf]; omega
      by_cases h51 : op = 51
      · as_aux_lemma =>
        subst h51
        have hst : stepF NR NS inp lk ⟨51, dst, a, b⟩ (f, g) = (putF f dst NR (takeL lk a), g) := rfl
        have hop : opnd 51 = 0 := rfl
        rw [hst] at hrun
        obtain ⟨Y, hY⟩ : ∃ Y, takeL lk a = Y := ⟨_, rfl⟩
        have hYf : Y.fits := by rw [← hY]; exact takeF_fits _ fk
        have hcl : ∀ w' : World, Below (wl.alloc (.cells #[.int .i64 51, .int .i64 dst, .int .i64 a, .int .i64 b] 43)).heap.size (wl.alloc (.cells #[.int .i64 51, .int .i64 dst, .int .i64 a, .int .i64 b] 43)) w' → Calls Try.prog 24 #[.slice Ak lk.length ck, .int .i64 a] w' fun e w2 => e = .returned (.agg #[.int .i64 Y.k, .int .u64 Y.b]) ∧ Below w'.heap.size w' w2 := by
          intro w' hw
          have hw2 := hbe.trans (hw.mono hbe.size)
          have := rtake_any Ak ck lk a w' ((rk.below hw2).more hw2.size) fk nk
          rw [hY] at this
          exact this
        have HY := Lib.hid hcl
        rw [hY] at hrun
        clear hcl hY
        have HR := Lib.hid hrun
        have HM := Lib.hid hm
        have HS := Lib.hid hs
        have HB := Lib.hid hbe
        have HF := Lib.hid hff
        have HG := Lib.hid hgg
        have x0 := kx.cell 0
        have x1 := kx.cell 1
        have x2 := kx.cell 2
        have x3 := kx.cell 3
        have k3 := kc.cell 3
        clear hst hrun hm hs hbe hff hgg kx hr rk hf fk hinp nk rl fl
        go_wp2_with fail
        refine (operands_any _ _).mono ?_
        rintro e wq ⟨rfl, rfl⟩
        rw [hop]
        go_wp2_with fail
        refine wp_region_t 9 (fun k => false) (by kernel_rfl) (fun qk => (refKo A Ak c ck inp lk 51 dst a b NR NS Y none0 none0 w wl).getD qk .any) (by kernel_rfl) ?_ ?_
        · refine BOk.cons rfl [] [5] rfl rfl (by kernel_rfl) (by kernel_rfl) (fun qK qa wr hB qO qF hK => ?_) ?_
          · have e5 : qa.tmps[5]? = some (.map (some (w.heap.size + 1 + 1))) := qO.1.trans rfl
            clear qO qF
            go_simp
            exact hK _ _ (Below.refl _ _) rfl
          refine BOk.cons rfl [] [10] rfl rfl (by kernel_rfl) (by kernel_rfl) (fun qK qa wr hB qO qF hK => ?_) ?_
          · have e10 : qa.tmps[10]? = some (.pointer (some ⟨wl.heap.size, 0, none⟩)) := qO.1.trans rfl
            clear qO qF
            go_simp
            exact hK _ _ (Below.refl _ _) rfl
          refine BOk.cons rfl [1] [] rfl rfl (by kernel_rfl) (by kernel_rfl) (fun qK qa wr hB qO qF hK => ?_) ?_
          · have e56 : qa.tmps[56]? = some (.pointer (some ⟨wl.heap.size, 1, none⟩)) := fis qF.1 rfl rfl
            clear qO qF
            have hx1 := (bcell hB _ _ (World.block_lt_of_cell? _ _ x1)).trans x1
            go_simp
            exact hK _ _ (Below.refl _ _) rfl
          refine BOk.cons rfl [] [7] rfl rfl (by kernel_rfl) (by kernel_rfl) (fun qK qa wr hB qO qF hK => ?_) ?_
          · have e7 : qa.tmps[7]? = some (.int .i64 NR) := qO.1.trans rfl
            clear qO qF
            go_simp
            exact hK _ _ (Below.refl _ _) rfl
          refine BOk.cons rfl [] [2] rfl rfl (by kernel_rfl) (by kernel_rfl) (fun qK qa wr hB qO qF hK => ?_) ?_
          · have e2 : qa.tmps[2]? = some (.pointer (some ⟨w.heap.size, 0, none⟩)) := qO.1.trans rfl
            clear qO qF
            go_simp
            exact hK _ _ (Below.refl _ _) rfl
          refine BOk.cons rfl [4] [] rfl rfl (by kernel_rfl) (by kernel_rfl) (fun qK qa wr hB qO qF hK => ?_) ?_
          · have e59 : qa.tmps[59]? = some (.pointer (some ⟨w.heap.size, 3, none⟩)) := fis qF.1 rfl rfl
            clear qO qF
            have hk3 := (bcell hB _ _ (World.block_lt_of_cell? _ _ k3)).trans k3
            go_simp
            exact hK _ _ (Below.refl _ _) rfl
          refine BOk.cons rfl [] [10] rfl rfl (by kernel_rfl) (by kernel_rfl) (fun qK qa wr hB qO qF hK => ?_) ?_
          · have e10 : qa.tmps[10]? = some (.pointer (some ⟨wl.heap.size, 0, none⟩)) := qO.1.trans rfl
            clear qO qF
            go_simp
            exact hK _ _ (Below.refl _ _) rfl
          refine BOk.cons rfl [6] [] rfl rfl (by kernel_rfl) (by kernel_rfl) (fun qK qa wr hB qO qF hK => ?_) ?_
          · have e61 : qa.tmps[61]? = some (.pointer (some ⟨wl.heap.size, 2, none⟩)) := fis qF.1 rfl rfl
            clear qO qF
            have hx2 := (bcell hB _ _ (World.block_lt_of_cell? _ _ x2)).trans x2
            go_simp
            exact hK _ _ (Below.refl _ _) rfl
          refine BOk.cons rfl [5, 7] [] rfl rfl (by kernel_rfl) (by kernel_rfl) (fun qK qa wr hB qO qF hK => ?_) ?_
          · have e60 : qa.tmps[60]? = some (.slice Ak lk.length ck) := fis qF.1 rfl rfl
            have e62 : qa.tmps[62]? = some (.int .i64 a) := fis qF.2.1 rfl rfl
            clear qO qF
            go_simp
            go_at_call 24
            refine (HY.out _ hB).mono ?_
            rintro e w2 ⟨rfl, hb2⟩
            exact hK _ _ hb2 rfl
          exact BOk.nil
        intro vals wr hl hB hR hS
        match vals, hl with
        | [z55, z56, z57, z58, z59, z60, z61, z62, z63], _ =>
        have r0 : z55 = .map (some (w.heap.size + 1 + 1)) := hR 0 _ rfl
        subst r0
        have r2 : z57 = .int .i64 dst := hR 2 _ rfl
        subst r2
        have r3 : z58 = .int .i64 NR := hR 3 _ rfl
        subst r3
        have r8 : z63 = .agg #[.int .i64 Y.k, .int .u64 Y.b] := hR 8 _ rfl
        subst r8
        clear hS
        clear hR
        simp only [List.take_succ_cons, List.take_zero, List.drop_succ_cons, List.drop_zero, List.toList_toArray, List.cons_append, List.nil_append, putAll, Act.put, List.setIfInBounds_toArray, List.set_cons_zero, List.set_cons_succ]
        have HM := Lib.hid (HM.out.old hB)
        have HS := Lib.hid (HS.out.old hB)
        have kr := kr.old hB
        have kc := kc.old hB
        have HB := Lib.hid (HB.out.trans (hB.mono HB.out.size))
        clear hB
        go_wp2_with (go_at_call 23; refine (rput_any _ _ _ dst NR hd Y _ HM.out (by omega)).mono ?_; rintro e w3 ⟨rfl, hm3, hg3⟩)
        have hbe3 := below_gb HB.out hg3 HB.out.size (by omega)
        have kr3 := kr.grown hg3 (by intro e; injection e with e; omega)
        have kc3 := kc.grown hg3 (by intro e; injection e with e; omega)
        have hs4 := (HS.out.grown hg3 (by intro e; injection e with e; omega)).mono (Nat.le_succ _)
        have hfin : ∀ i, (putF f dst NR Y i).fits := putF_fits HF.out hYf
        go_wp2_with fail
        go_roundw
        case rel => exact ⟨k + 1, _, _, by omega, by go_num, hbe3, hm3, hs4, kr3, kc3, hfin, HG.out, HR⟩
        case measure => simp [intOf]; omega
      by_cases h53 : op = 53
      · as_aux_lemma =>
        subst h53
        have hst : stepF NR NS inp lk ⟨53, dst, a, b⟩ (f, g) = (f, putF g a NS (f b)) := rfl
        have hop : opnd 53 = 0 := rfl
        rw [hst] at hrun
        have HR := Lib.hid hrun
        have HM := Lib.hid hm
        have HS := Lib.hid hs
        have HB := Lib.hid hbe
        have HF := Lib.hid hff
        have HG := Lib.hid hgg
        have x0 := kx.cell 0
        have x1 := kx.cell 1
        have x2 := kx.cell 2
        have x3 := kx.cell 3
        have k3 := kc.cell 3
        clear hst hrun hm hs hbe hff hgg kx hr rk hf fk hinp nk rl fl
        go_wp2_with fail
        refine (operands_any _ _).mono ?_
        rintro e wq ⟨rfl, rfl⟩
        rw [hop]
        go_wp2_with (at_lookup; refine wpList_lookF valE rfl _ _ 52 rfl 3 33 Try.underlying3 Try.underlying52 (zeroRV _) _ _ _ rfl HM.out _ rfl (I64.wf hb) ?_; refine Hid.out ?_)
        refine Lib.hid ?_
        obtain ⟨Y, hY⟩ : ∃ Y, f b = Y := ⟨_, rfl⟩
        have hYf : Y.fits := by rw [← hY]; exact HF.out _
        have hvv : valE.val (f b) = .agg #[.int .i64 Y.k, .int .u64 Y.b] := by rw [hY]; rfl
        rw [hvv]
        have HR := HR.out
        rw [hY] at HR
        have HR := Lib.hid HR
        clear hvv hY
        go_wp2_with (go_at_call 23; refine (rput_any _ _ _ a NS ha Y _ HS.out (by omega)).mono ?_; rintro e w3 ⟨rfl, hm3, hg3⟩)
        have hbe3 := below_gb HB.out hg3 HB.out.size (by omega)
        have kr3 := kr.grown hg3 (by intro e; injection e with e; omega)
        have kc3 := kc.grown hg3 (by intro e; injection e with e; omega)
        have hm4 := (HM.out.grown hg3 (by intro e; injection e with e; omega)).mono (Nat.le_succ _)
        have hfin : ∀ i, (putF g a NS Y i).fits := putF_fits HG.out hYf
        go_wp2_with fail
        go_roundw
        case rel => exact ⟨k + 1, _, _, by omega, by go_num, hbe3, hm4, hm3, kr3, kc3, HF.out, hfin, HR⟩
        case measure => simp [intOf]; omega
      by_cases h54 : op = 54
      · as_aux_lemma =>
        subst h54
        have hst : stepF NR NS inp lk ⟨54, dst, a, b⟩ (f, g) = (putF f dst NR (g a), g) := rfl
        have hop : opnd 54 = 0 := rfl
        rw [hst] at hrun
        have HR := Lib.hid hrun
        have HM := Lib.hid hm
        have HS := Lib.hid hs
        have HB := Lib.hid hbe
        have HF := Lib.hid hff
        have HG := Lib.hid hgg
        have x0 := kx.cell 0
        have x1 := kx.cell 1
        have x2 := kx.cell 2
        have x3 := kx.cell 3
        have k3 := kc.cell 3
        clear hst hrun hm hs hbe hff hgg kx hr rk hf fk hinp nk rl fl
        go_wp2_with fail
        refine (operands_any _ _).mono ?_
        rintro e wq ⟨rfl, rfl⟩
        rw [hop]
        go_wp2_with (at_lookup; refine wpList_lookF valE rfl _ _ 52 rfl 3 33 Try.underlying3 Try.underlying52 (zeroRV _) _ _ _ rfl HS.out _ rfl (I64.wf ha) ?_; refine Hid.out ?_)
        refine Lib.hid ?_
        obtain ⟨Y, hY⟩ : ∃ Y, g a = Y := ⟨_, rfl⟩
        have hYf : Y.fits := by rw [← hY]; exact HG.out _
        have hvv : valE.val (g a) = .agg #[.int .i64 Y.k, .int .u64 Y.b] := by rw [hY]; rfl
        rw [hvv]
        have HR := HR.out
        rw [hY] at HR
        have HR := Lib.hid HR
        clear hvv hY
        go_wp2_with (go_at_call 23; refine (rput_any _ _ _ dst NR hd Y _ HM.out (by omega)).mono ?_; rintro e w3 ⟨rfl, hm3, hg3⟩)
        have hbe3 := below_gb HB.out hg3 HB.out.size (by omega)
        have kr3 := kr.grown hg3 (by intro e; injection e with e; omega)
        have kc3 := kc.grown hg3 (by intro e; injection e with e; omega)
        have hs4 := (HS.out.grown hg3 (by intro e; injection e with e; omega)).mono (Nat.le_succ _)
        have hfin : ∀ i, (putF f dst NR Y i).fits := putF_fits HF.out hYf
        go_wp2_with fail
        go_roundw
        case rel => exact ⟨k + 1, _, _, by omega, by go_num, hbe3, hm3, hs4, kr3, kc3, hfin, HG.out, HR⟩
        case measure => simp [intOf]; omega
      by_cases h1 : oneB op
      · as_aux_lemma =>
        have hst : stepF NR NS inp lk ⟨op, dst, a, b⟩ (f, g) = (putF f dst NR (applyV op [f a]), g) := by unfold stepF; rw [if_neg h50, if_neg h51, if_neg h53, if_neg h54, if_pos h1]
        have hop : opnd op = 1 := by unfold opnd; rw [if_pos h1]
        have q50 : (op == 50) = false := by rw [beq_eq_false_iff_ne]; exact h50
        have q51 : (op == 51) = false := by rw [beq_eq_false_iff_ne]; exact h51
        have q52 : (op == 52) = false := by rw [beq_eq_false_iff_ne]; exact h52
        have q53 : (op == 53) = false := by rw [beq_eq_false_iff_ne]; exact h53
        have q54 : (op == 54) = false := by rw [beq_eq_false_iff_ne]; exact h54
        rw [hst] at hrun
        obtain ⟨Y, hY⟩ : ∃ Y, f a = Y := ⟨_, rfl⟩
        obtain ⟨Z, hZ⟩ : ∃ Z, f b = Z := ⟨_, rfl⟩
        obtain ⟨U, hU⟩ : ∃ U, applyV op [Y] = U := ⟨_, rfl⟩
        have hYf : Y.fits := by rw [← hY]; exact hff _
        have hZf : Z.fits := by rw [← hZ]; exact hff _
        have hUf : U.fits := by rw [← hU]; exact apply_fits _ _ (by intro x hx; simp only [List.mem_cons, List.not_mem_nil, or_false] at hx; subst hx; exact hYf)
        rw [hY, hU] at hrun
        have hap : ∀ (w' : World) (q : Nat), Bk w' q 33 #[.int .i64 Y.k, .int .u64 Y.b, .int .i64 Z.k, .int .u64 Z.b] → Calls Try.prog 25 #[.int .i64 op, .slice (some ⟨q, 0, none⟩) 1 2] w' fun e w2 => e = .returned (.agg #[.int .i64 U.k, .int .u64 U.b]) ∧ Below w'.heap.size w' w2 := by
          intro w' q hq
          have := rapply_any op [Y] (some ⟨q, 0, none⟩) 2 w' (bk_rd1 hq) (by intro x hx; simp only [List.mem_cons, List.not_mem_nil, or_false] at hx; subst hx; exact hYf) (by simp)
          rw [hU] at this
          exact this
        have HAP := Lib.hid hap
        have HY := Lib.hid hY
        have HZ := Lib.hid hZ
        clear hap hY hZ hU
        have HR := Lib.hid hrun
        have HM := Lib.hid hm
        have HS := Lib.hid hs
        have HB := Lib.hid hbe
        have HF := Lib.hid hff
        have HG := Lib.hid hgg
        have x0 := kx.cell 0
        have x1 := kx.cell 1
        have x2 := kx.cell 2
        have x3 := kx.cell 3
        have k3 := kc.cell 3
        clear hst hrun hm hs hbe hff hgg kx hr rk hf fk hinp nk rl fl
        go_wp2_with fail
        refine (operands_any _ _).mono ?_
        rintro e wq ⟨rfl, rfl⟩
        rw [hop]
        go_wp2_with fail
        refine wp_region_t 18 (fun k => false) (by kernel_rfl) (fun qk => (refone A Ak c ck inp lk op dst a b NR NS Y Z U w wl).getD qk .any) (by kernel_rfl) ?_ ?_
        · refine BOk.cons rfl [] [5] rfl rfl (by kernel_rfl) (by kernel_rfl) (fun qK qa wr hB qO qF hK => ?_) ?_
          · have e5 : qa.tmps[5]? = some (.map (some (w.heap.size + 1 + 1))) := qO.1.trans rfl
            clear qO qF
            go_simp
            exact hK _ _ (Below.refl _ _) rfl
          refine BOk.cons rfl [] [10] rfl rfl (by kernel_rfl) (by kernel_rfl) (fun qK qa wr hB qO qF hK => ?_) ?_
          · have e10 : qa.tmps[10]? = some (.pointer (some ⟨wl.heap.size, 0, none⟩)) := qO.1.trans rfl
            clear qO qF
            go_simp
            exact hK _ _ (Below.refl _ _) rfl
          refine BOk.cons rfl [1] [] rfl rfl (by kernel_rfl) (by kernel_rfl) (fun qK qa wr hB qO qF hK => ?_) ?_
          · have e95 : qa.tmps[95]? = some (.pointer (some ⟨wl.heap.size, 1, none⟩)) := fis qF.1 rfl rfl
            clear qO qF
            have hx1 := (bcell hB _ _ (World.block_lt_of_cell? _ _ x1)).trans x1
            go_simp
            exact hK _ _ (Below.refl _ _) rfl
          refine BOk.cons rfl [] [7] rfl rfl (by kernel_rfl) (by kernel_rfl) (fun qK qa wr hB qO qF hK => ?_) ?_
          · have e7 : qa.tmps[7]? = some (.int .i64 NR) := qO.1.trans rfl
            clear qO qF
            go_simp
            exact hK _ _ (Below.refl _ _) rfl
          refine BOk.cons rfl [] [10] rfl rfl (by kernel_rfl) (by kernel_rfl) (fun qK qa wr hB qO qF hK => ?_) ?_
          · have e10 : qa.tmps[10]? = some (.pointer (some ⟨wl.heap.size, 0, none⟩)) := qO.1.trans rfl
            clear qO qF
            go_simp
            exact hK _ _ (Below.refl _ _) rfl
          refine BOk.cons rfl [4] [] rfl rfl (by kernel_rfl) (by kernel_rfl) (fun qK qa wr hB qO qF hK => ?_) ?_
          · have e98 : qa.tmps[98]? = some (.pointer (some ⟨wl.heap.size, 0, none⟩)) := fis qF.1 rfl rfl
            clear qO qF
            have hx0 := (bcell hB _ _ (World.block_lt_of_cell? _ _ x0)).trans x0
            go_simp
            exact hK _ _ (Below.refl _ _) rfl
          refine BOk.cons rfl [] [5] rfl rfl (by kernel_rfl) (by kernel_rfl) (fun qK qa wr hB qO qF hK => ?_) ?_
          · have e5 : qa.tmps[5]? = some (.map (some (w.heap.size + 1 + 1))) := qO.1.trans rfl
            clear qO qF
            go_simp
            exact hK _ _ (Below.refl _ _) rfl
          refine BOk.cons rfl [] [10] rfl rfl (by kernel_rfl) (by kernel_rfl) (fun qK qa wr hB qO qF hK => ?_) ?_
          · have e10 : qa.tmps[10]? = some (.pointer (some ⟨wl.heap.size, 0, none⟩)) := qO.1.trans rfl
            clear qO qF
            go_simp
            exact hK _ _ (Below.refl _ _) rfl
          refine BOk.cons rfl [7] [] rfl rfl (by kernel_rfl) (by kernel_rfl) (fun qK qa wr hB qO qF hK => ?_) ?_
          · have e101 : qa.tmps[101]? = some (.pointer (some ⟨wl.heap.size, 2, none⟩)) := fis qF.1 rfl rfl
            clear qO qF
            have hx2 := (bcell hB _ _ (World.block_lt_of_cell? _ _ x2)).trans x2
            go_simp
            exact hK _ _ (Below.refl _ _) rfl
          refine BOk.cons rfl [6, 8] [] rfl rfl (by kernel_rfl) (by kernel_rfl) (fun qK qa wr hB qO qF hK => ?_) ?_
          · have e100 : qa.tmps[100]? = some (.map (some (w.heap.size + 1 + 1))) := fis qF.1 rfl rfl
            have e102 : qa.tmps[102]? = some (.int .i64 a) := fis qF.2.1 rfl rfl
            clear qO qF
            refine wp_lookV (.tmp 100) (.tmp 102) rfl (act_eval e100) (HM.out.old hB) ha (act_eval e102) ?_
            rw [HY.out]
            exact hK _ _ (Below.refl _ _) rfl
          refine BOk.cons rfl [] [5] rfl rfl (by kernel_rfl) (by kernel_rfl) (fun qK qa wr hB qO qF hK => ?_) ?_
          · have e5 : qa.tmps[5]? = some (.map (some (w.heap.size + 1 + 1))) := qO.1.trans rfl
            clear qO qF
            go_simp
            exact hK _ _ (Below.refl _ _) rfl
          refine BOk.cons rfl [] [10] rfl rfl (by kernel_rfl) (by kernel_rfl) (fun qK qa wr hB qO qF hK => ?_) ?_
          · have e10 : qa.tmps[10]? = some (.pointer (some ⟨wl.heap.size, 0, none⟩)) := qO.1.trans rfl
            clear qO qF
            go_simp
            exact hK _ _ (Below.refl _ _) rfl
          refine BOk.cons rfl [11] [] rfl rfl (by kernel_rfl) (by kernel_rfl) (fun qK qa wr hB qO qF hK => ?_) ?_
          · have e105 : qa.tmps[105]? = some (.pointer (some ⟨wl.heap.size, 3, none⟩)) := fis qF.1 rfl rfl
            clear qO qF
            have hx3 := (bcell hB _ _ (World.block_lt_of_cell? _ _ x3)).trans x3
            go_simp
            exact hK _ _ (Below.refl _ _) rfl
          refine BOk.cons rfl [10, 12] [] rfl rfl (by kernel_rfl) (by kernel_rfl) (fun qK qa wr hB qO qF hK => ?_) ?_
          · have e104 : qa.tmps[104]? = some (.map (some (w.heap.size + 1 + 1))) := fis qF.1 rfl rfl
            have e106 : qa.tmps[106]? = some (.int .i64 b) := fis qF.2.1 rfl rfl
            clear qO qF
            refine wp_lookV (.tmp 104) (.tmp 106) rfl (act_eval e104) (HM.out.old hB) hb (act_eval e106) ?_
            rw [HZ.out]
            exact hK _ _ (Below.refl _ _) rfl
          refine BOk.cons rfl [9, 13] [] rfl rfl (by kernel_rfl) (by kernel_rfl) (fun qK qa wr hB qO qF hK => ?_) ?_
          · have e103 : qa.tmps[103]? = some (.agg #[.int .i64 Y.k, .int .u64 Y.b]) := fis qF.1 rfl rfl
            have e107 : qa.tmps[107]? = some (.agg #[.int .i64 Z.k, .int .u64 Z.b]) := fis qF.2.1 rfl rfl
            clear qO qF
            go_simp
            exact hK _ _ ((Below.refl _ _).alloc (Nat.le_refl _) _) ⟨_, rfl, Bk.new _ _ _⟩
          refine BOk.cons rfl [] [11] rfl rfl (by kernel_rfl) (by kernel_rfl) (fun qK qa wr hB qO qF hK => ?_) ?_
          · have e11 : qa.tmps[11]? = some (.int .i64 1) := qO.1.trans rfl
            clear qO qF
            go_simp
            exact hK _ _ (Below.refl _ _) rfl
          refine BOk.cons rfl [14, 15] [] rfl rfl (by kernel_rfl) (by kernel_rfl) (fun qK qa wr hB qO qF hK => ?_) ?_
          · obtain ⟨u108, e108, r14⟩ := qF.1
            obtain ⟨g108, h108, k108⟩ := (show ∃ g, u108 = .slice (some ⟨g, 0, none⟩) 2 2 ∧ Bk wr g 33 #[.int .i64 Y.k, .int .u64 Y.b, .int .i64 Z.k, .int .u64 Z.b] from r14)
            subst h108
            have e108 : qa.tmps[108]? = some (.slice (some ⟨g108, 0, none⟩) 2 2) := e108
            have e109 : qa.tmps[109]? = some (.int .i64 1) := fis qF.2.1 rfl rfl
            clear qO qF
            go_simp
            exact hK _ _ (Below.refl _ _) ⟨_, rfl, k108⟩
          refine BOk.cons rfl [5, 16] [] rfl rfl (by kernel_rfl) (by kernel_rfl) (fun qK qa wr hB qO qF hK => ?_) ?_
          · have e99 : qa.tmps[99]? = some (.int .i64 op) := fis qF.1 rfl rfl
            obtain ⟨u110, e110, r16⟩ := qF.2.1
            obtain ⟨g110, h110, k110⟩ := (show ∃ g, u110 = .slice (some ⟨g, 0, none⟩) 1 2 ∧ Bk wr g 33 #[.int .i64 Y.k, .int .u64 Y.b, .int .i64 Z.k, .int .u64 Z.b] from r16)
            subst h110
            have e110 : qa.tmps[110]? = some (.slice (some ⟨g110, 0, none⟩) 1 2) := e110
            clear qO qF
            go_simp
            go_at_call 25
            refine (HAP.out _ _ k110).mono ?_
            rintro e w2 ⟨rfl, hb2⟩
            exact hK _ _ hb2 rfl
          exact BOk.nil
        intro vals wr hl hB hR hS
        match vals, hl with
        | [z94, z95, z96, z97, z98, z99, z100, z101, z102, z103, z104, z105, z106, z107, z108, z109, z110, z111], _ =>
        have r0 : z94 = .map (some (w.heap.size + 1 + 1)) := hR 0 _ rfl
        subst r0
        have r2 : z96 = .int .i64 dst := hR 2 _ rfl
        subst r2
        have r3 : z97 = .int .i64 NR := hR 3 _ rfl
        subst r3
        have r17 : z111 = .agg #[.int .i64 U.k, .int .u64 U.b] := hR 17 _ rfl
        subst r17
        clear hS
        clear hR
        simp only [List.take_succ_cons, List.take_zero, List.drop_succ_cons, List.drop_zero, List.toList_toArray, List.cons_append, List.nil_append, putAll, Act.put, List.setIfInBounds_toArray, List.set_cons_zero, List.set_cons_succ]
        have HM := Lib.hid (HM.out.old hB)
        have HS := Lib.hid (HS.out.old hB)
        have kr := kr.old hB
        have kc := kc.old hB
        have HB := Lib.hid (HB.out.trans (hB.mono HB.out.size))
        clear hB
        go_wp2_with (go_at_call 23; refine (rput_any _ _ _ dst NR hd U _ HM.out (by omega)).mono ?_; rintro e w3 ⟨rfl, hm3, hg3⟩)
        have hbe3 := below_gb HB.out hg3 HB.out.size (by omega)
        have kr3 := kr.grown hg3 (by intro e; injection e with e; omega)
        have kc3 := kc.grown hg3 (by intro e; injection e with e; omega)
        have hs4 := (HS.out.grown hg3 (by intro e; injection e with e; omega)).mono (Nat.le_succ _)
        have hfin : ∀ i, (putF f dst NR U i).fits := putF_fits HF.out hUf
        go_wp2_with fail
        go_roundw
        case rel => exact ⟨k + 1, _, _, by omega, by go_num, hbe3, hm3, hs4, kr3, kc3, hfin, HG.out, HR⟩
        case measure => simp [intOf]; omega
      by_cases h2 : 1 ≤ op ∧ op ≤ 14
      · as_aux_lemma =>
        have hst : stepF NR NS inp lk ⟨op, dst, a, b⟩ (f, g) = (putF f dst NR (applyV op [f a, f b]), g) := by unfold stepF; rw [if_neg h50, if_neg h51, if_neg h53, if_neg h54, if_neg h1, if_pos h2]
        have hop : opnd op = 2 := by unfold opnd; rw [if_neg h1, if_pos h2]
        have q50 : (op == 50) = false := by rw [beq_eq_false_iff_ne]; exact h50
        have q51 : (op == 51) = false := by rw [beq_eq_false_iff_ne]; exact h51
        have q52 : (op == 52) = false := by rw [beq_eq_false_iff_ne]; exact h52
        have q53 : (op == 53) = false := by rw [beq_eq_false_iff_ne]; exact h53
        have q54 : (op == 54) = false := by rw [beq_eq_false_iff_ne]; exact h54
        rw [hst] at hrun
        obtain ⟨Y, hY⟩ : ∃ Y, f a = Y := ⟨_, rfl⟩
        obtain ⟨Z, hZ⟩ : ∃ Z, f b = Z := ⟨_, rfl⟩
        obtain ⟨U, hU⟩ : ∃ U, applyV op [Y, Z] = U := ⟨_, rfl⟩
        have hYf : Y.fits := by rw [← hY]; exact hff _
        have hZf : Z.fits := by rw [← hZ]; exact hff _
        have hUf : U.fits := by rw [← hU]; exact apply_fits _ _ (by intro x hx; simp only [List.mem_cons, List.not_mem_nil, or_false] at hx; rcases hx with rfl | rfl <;> assumption)
        rw [hY, hZ, hU] at hrun
        have hap : ∀ (w' : World) (q : Nat), Bk w' q 33 #[.int .i64 Y.k, .int .u64 Y.b, .int .i64 Z.k, .int .u64 Z.b] → Calls Try.prog 25 #[.int .i64 op, .slice (some ⟨q, 0, none⟩) 2 2] w' fun e w2 => e = .returned (.agg #[.int .i64 U.k, .int .u64 U.b]) ∧ Below w'.heap.size w' w2 := by
          intro w' q hq
          have := rapply_any op [Y, Z] (some ⟨q, 0, none⟩) 2 w' (bk_rd hq) (by intro x hx; simp only [List.mem_cons, List.not_mem_nil, or_false] at hx; rcases hx with rfl | rfl <;> assumption) (by simp)
          rw [hU] at this
          exact this
        have HAP := Lib.hid hap
        have HY := Lib.hid hY
        have HZ := Lib.hid hZ
        clear hap hY hZ hU
        have HR := Lib.hid hrun
        have HM := Lib.hid hm
        have HS := Lib.hid hs
        have HB := Lib.hid hbe
        have HF := Lib.hid hff
        have HG := Lib.hid hgg
        have x0 := kx.cell 0
        have x1 := kx.cell 1
        have x2 := kx.cell 2
        have x3 := kx.cell 3
        have k3 := kc.cell 3
        clear hst hrun hm hs hbe hff hgg kx hr rk hf fk hinp nk rl fl
        go_wp2_with fail
        refine (operands_any _ _).mono ?_
        rintro e wq ⟨rfl, rfl⟩
        rw [hop]
        go_wp2_with fail
        refine wp_region_t 18 (fun k => false) (by kernel_rfl) (fun qk => (reftwo A Ak c ck inp lk op dst a b NR NS Y Z U w wl).getD qk .any) (by kernel_rfl) ?_ ?_
        · refine BOk.cons rfl [] [5] rfl rfl (by kernel_rfl) (by kernel_rfl) (fun qK qa wr hB qO qF hK => ?_) ?_
          · have e5 : qa.tmps[5]? = some (.map (some (w.heap.size + 1 + 1))) := qO.1.trans rfl
            clear qO qF
            go_simp
            exact hK _ _ (Below.refl _ _) rfl
          refine BOk.cons rfl [] [10] rfl rfl (by kernel_rfl) (by kernel_rfl) (fun qK qa wr hB qO qF hK => ?_) ?_
          · have e10 : qa.tmps[10]? = some (.pointer (some ⟨wl.heap.size, 0, none⟩)) := qO.1.trans rfl
            clear qO qF
            go_simp
            exact hK _ _ (Below.refl _ _) rfl
          refine BOk.cons rfl [1] [] rfl rfl (by kernel_rfl) (by kernel_rfl) (fun qK qa wr hB qO qF hK => ?_) ?_
          · have e95 : qa.tmps[95]? = some (.pointer (some ⟨wl.heap.size, 1, none⟩)) := fis qF.1 rfl rfl
            clear qO qF
            have hx1 := (bcell hB _ _ (World.block_lt_of_cell? _ _ x1)).trans x1
            go_simp
            exact hK _ _ (Below.refl _ _) rfl
          refine BOk.cons rfl [] [7] rfl rfl (by kernel_rfl) (by kernel_rfl) (fun qK qa wr hB qO qF hK => ?_) ?_
          · have e7 : qa.tmps[7]? = some (.int .i64 NR) := qO.1.trans rfl
            clear qO qF
            go_simp
            exact hK _ _ (Below.refl _ _) rfl
          refine BOk.cons rfl [] [10] rfl rfl (by kernel_rfl) (by kernel_rfl) (fun qK qa wr hB qO qF hK => ?_) ?_
          · have e10 : qa.tmps[10]? = some (.pointer (some ⟨wl.heap.size, 0, none⟩)) := qO.1.trans rfl
            clear qO qF
            go_simp
            exact hK _ _ (Below.refl _ _) rfl
          refine BOk.cons rfl [4] [] rfl rfl (by kernel_rfl) (by kernel_rfl) (fun qK qa wr hB qO qF hK => ?_) ?_
          · have e98 : qa.tmps[98]? = some (.pointer (some ⟨wl.heap.size, 0, none⟩)) := fis qF.1 rfl rfl
            clear qO qF
            have hx0 := (bcell hB _ _ (World.block_lt_of_cell? _ _ x0)).trans x0
            go_simp
            exact hK _ _ (Below.refl _ _) rfl
          refine BOk.cons rfl [] [5] rfl rfl (by kernel_rfl) (by kernel_rfl) (fun qK qa wr hB qO qF hK => ?_) ?_
          · have e5 : qa.tmps[5]? = some (.map (some (w.heap.size + 1 + 1))) := qO.1.trans rfl
            clear qO qF
            go_simp
            exact hK _ _ (Below.refl _ _) rfl
          refine BOk.cons rfl [] [10] rfl rfl (by kernel_rfl) (by kernel_rfl) (fun qK qa wr hB qO qF hK => ?_) ?_
          · have e10 : qa.tmps[10]? = some (.pointer (some ⟨wl.heap.size, 0, none⟩)) := qO.1.trans rfl
            clear qO qF
            go_simp
            exact hK _ _ (Below.refl _ _) rfl
          refine BOk.cons rfl [7] [] rfl rfl (by kernel_rfl) (by kernel_rfl) (fun qK qa wr hB qO qF hK => ?_) ?_
          · have e101 : qa.tmps[101]? = some (.pointer (some ⟨wl.heap.size, 2, none⟩)) := fis qF.1 rfl rfl
            clear qO qF
            have hx2 := (bcell hB _ _ (World.block_lt_of_cell? _ _ x2)).trans x2
            go_simp
            exact hK _ _ (Below.refl _ _) rfl
          refine BOk.cons rfl [6, 8] [] rfl rfl (by kernel_rfl) (by kernel_rfl) (fun qK qa wr hB qO qF hK => ?_) ?_
          · have e100 : qa.tmps[100]? = some (.map (some (w.heap.size + 1 + 1))) := fis qF.1 rfl rfl
            have e102 : qa.tmps[102]? = some (.int .i64 a) := fis qF.2.1 rfl rfl
            clear qO qF
            refine wp_lookV (.tmp 100) (.tmp 102) rfl (act_eval e100) (HM.out.old hB) ha (act_eval e102) ?_
            rw [HY.out]
            exact hK _ _ (Below.refl _ _) rfl
          refine BOk.cons rfl [] [5] rfl rfl (by kernel_rfl) (by kernel_rfl) (fun qK qa wr hB qO qF hK => ?_) ?_
          · have e5 : qa.tmps[5]? = some (.map (some (w.heap.size + 1 + 1))) := qO.1.trans rfl
            clear qO qF
            go_simp
            exact hK _ _ (Below.refl _ _) rfl
          refine BOk.cons rfl [] [10] rfl rfl (by kernel_rfl) (by kernel_rfl) (fun qK qa wr hB qO qF hK => ?_) ?_
          · have e10 : qa.tmps[10]? = some (.pointer (some ⟨wl.heap.size, 0, none⟩)) := qO.1.trans rfl
            clear qO qF
            go_simp
            exact hK _ _ (Below.refl _ _) rfl
          refine BOk.cons rfl [11] [] rfl rfl (by kernel_rfl) (by kernel_rfl) (fun qK qa wr hB qO qF hK => ?_) ?_
          · have e105 : qa.tmps[105]? = some (.pointer (some ⟨wl.heap.size, 3, none⟩)) := fis qF.1 rfl rfl
            clear qO qF
            have hx3 := (bcell hB _ _ (World.block_lt_of_cell? _ _ x3)).trans x3
            go_simp
            exact hK _ _ (Below.refl _ _) rfl
          refine BOk.cons rfl [10, 12] [] rfl rfl (by kernel_rfl) (by kernel_rfl) (fun qK qa wr hB qO qF hK => ?_) ?_
          · have e104 : qa.tmps[104]? = some (.map (some (w.heap.size + 1 + 1))) := fis qF.1 rfl rfl
            have e106 : qa.tmps[106]? = some (.int .i64 b) := fis qF.2.1 rfl rfl
            clear qO qF
            refine wp_lookV (.tmp 104) (.tmp 106) rfl (act_eval e104) (HM.out.old hB) hb (act_eval e106) ?_
            rw [HZ.out]
            exact hK _ _ (Below.refl _ _) rfl
          refine BOk.cons rfl [9, 13] [] rfl rfl (by kernel_rfl) (by kernel_rfl) (fun qK qa wr hB qO qF hK => ?_) ?_
          · have e103 : qa.tmps[103]? = some (.agg #[.int .i64 Y.k, .int .u64 Y.b]) := fis qF.1 rfl rfl
            have e107 : qa.tmps[107]? = some (.agg #[.int .i64 Z.k, .int .u64 Z.b]) := fis qF.2.1 rfl rfl
            clear qO qF
            go_simp
            exact hK _ _ ((Below.refl _ _).alloc (Nat.le_refl _) _) ⟨_, rfl, Bk.new _ _ _⟩
          refine BOk.cons rfl [] [11] rfl rfl (by kernel_rfl) (by kernel_rfl) (fun qK qa wr hB qO qF hK => ?_) ?_
          · have e11 : qa.tmps[11]? = some (.int .i64 2) := qO.1.trans rfl
            clear qO qF
            go_simp
            exact hK _ _ (Below.refl _ _) rfl
          refine BOk.cons rfl [14, 15] [] rfl rfl (by kernel_rfl) (by kernel_rfl) (fun qK qa wr hB qO qF hK => ?_) ?_
          · obtain ⟨u108, e108, r14⟩ := qF.1
            obtain ⟨g108, h108, k108⟩ := (show ∃ g, u108 = .slice (some ⟨g, 0, none⟩) 2 2 ∧ Bk wr g 33 #[.int .i64 Y.k, .int .u64 Y.b, .int .i64 Z.k, .int .u64 Z.b] from r14)
            subst h108
            have e108 : qa.tmps[108]? = some (.slice (some ⟨g108, 0, none⟩) 2 2) := e108
            have e109 : qa.tmps[109]? = some (.int .i64 2) := fis qF.2.1 rfl rfl
            clear qO qF
            go_simp
            exact hK _ _ (Below.refl _ _) ⟨_, rfl, k108⟩
          refine BOk.cons rfl [5, 16] [] rfl rfl (by kernel_rfl) (by kernel_rfl) (fun qK qa wr hB qO qF hK => ?_) ?_
          · have e99 : qa.tmps[99]? = some (.int .i64 op) := fis qF.1 rfl rfl
            obtain ⟨u110, e110, r16⟩ := qF.2.1
            obtain ⟨g110, h110, k110⟩ := (show ∃ g, u110 = .slice (some ⟨g, 0, none⟩) 2 2 ∧ Bk wr g 33 #[.int .i64 Y.k, .int .u64 Y.b, .int .i64 Z.k, .int .u64 Z.b] from r16)
            subst h110
            have e110 : qa.tmps[110]? = some (.slice (some ⟨g110, 0, none⟩) 2 2) := e110
            clear qO qF
            go_simp
            go_at_call 25
            refine (HAP.out _ _ k110).mono ?_
            rintro e w2 ⟨rfl, hb2⟩
            exact hK _ _ hb2 rfl
          exact BOk.nil
        intro vals wr hl hB hR hS
        match vals, hl with
        | [z94, z95, z96, z97, z98, z99, z100, z101, z102, z103, z104, z105, z106, z107, z108, z109, z110, z111], _ =>
        have r0 : z94 = .map (some (w.heap.size + 1 + 1)) := hR 0 _ rfl
        subst r0
        have r2 : z96 = .int .i64 dst := hR 2 _ rfl
        subst r2
        have r3 : z97 = .int .i64 NR := hR 3 _ rfl
        subst r3
        have r17 : z111 = .agg #[.int .i64 U.k, .int .u64 U.b] := hR 17 _ rfl
        subst r17
        clear hS
        clear hR
        simp only [List.take_succ_cons, List.take_zero, List.drop_succ_cons, List.drop_zero, List.toList_toArray, List.cons_append, List.nil_append, putAll, Act.put, List.setIfInBounds_toArray, List.set_cons_zero, List.set_cons_succ]
        have HM := Lib.hid (HM.out.old hB)
        have HS := Lib.hid (HS.out.old hB)
        have kr := kr.old hB
        have kc := kc.old hB
        have HB := Lib.hid (HB.out.trans (hB.mono HB.out.size))
        clear hB
        go_wp2_with (go_at_call 23; refine (rput_any _ _ _ dst NR hd U _ HM.out (by omega)).mono ?_; rintro e w3 ⟨rfl, hm3, hg3⟩)
        have hbe3 := below_gb HB.out hg3 HB.out.size (by omega)
        have kr3 := kr.grown hg3 (by intro e; injection e with e; omega)
        have kc3 := kc.grown hg3 (by intro e; injection e with e; omega)
        have hs4 := (HS.out.grown hg3 (by intro e; injection e with e; omega)).mono (Nat.le_succ _)
        have hfin : ∀ i, (putF f dst NR U i).fits := putF_fits HF.out hUf
        go_wp2_with fail
        go_roundw
        case rel => exact ⟨k + 1, _, _, by omega, by go_num, hbe3, hm3, hs4, kr3, kc3, hfin, HG.out, HR⟩
        case measure => simp [intOf]; omega
      · as_aux_lemma =>
        have hst : stepF NR NS inp lk ⟨op, dst, a, b⟩ (f, g) = (f, g) := by unfold stepF; rw [if_neg h50, if_neg h51, if_neg h53, if_neg h54, if_neg h1, if_neg h2]
        have hop : opnd op = 0 := by unfold opnd; rw [if_neg h1, if_neg h2]
        have q50 : (op == 50) = false := by rw [beq_eq_false_iff_ne]; exact h50
        have q51 : (op == 51) = false := by rw [beq_eq_false_iff_ne]; exact h51
        have q52 : (op == 52) = false := by rw [beq_eq_false_iff_ne]; exact h52
        have q53 : (op == 53) = false := by rw [beq_eq_false_iff_ne]; exact h53
        have q54 : (op == 54) = false := by rw [beq_eq_false_iff_ne]; exact h54
        rw [hst] at hrun
        have HR := Lib.hid hrun
        clear hst hrun
        go_wp2_with fail
        refine (operands_any _ _).mono ?_
        rintro e wq ⟨rfl, rfl⟩
        rw [hop]
        go_wp2_with fail
        go_roundw
        case rel => exact ⟨k + 1, _, _, by omega, by go_num, hbe, hm.mono (Nat.le_succ _), hs.mono (Nat.le_succ _), kr, kc, hff, hgg, HR⟩
        case measure => simp [intOf]; omega
    · as_aux_lemma =>
      obtain rfl : k = ll.length := by omega
      have hRV := hrun.out
      rw [List.drop_length] at hRV
      have HR := Lib.hid hRV
      obtain ⟨c0, c1, f0, f1⟩ := vcells kr
      obtain ⟨d0, d1, _, _⟩ := vcells (vput kr (.int .i64 0) (.int .u64 0))
      clear kr hm hRV hrun HRV
      go_wp2_with fail
      exact bodyPost_ret (v := .agg #[.int .i64 0, .int .u64 0]) (by simp [results, Try.results10, go_sem, d0, d1]) rfl ⟨by rw [← HR.out]; rfl, (hbe.setCell (by simp) _).setCell (by simp) _⟩
end Go.Proofs.Ytadblgfppnpamaa
