/- Layer 18: the law's 'twice'. No conditions. -/
import Derived.Test.YtadblgfppnpamaaVmQ2
import Derived.Test.YtadblgfppnpamaaVmS
import Derived.Test.YtadblgfppnpamaaVmE
namespace Go.Proofs.Ytadblgfppnpamaa
open Go.RowKit
set_option linter.unusedVariables false
set_option linter.unusedSimpArgs false

theorem eql_I (x y : InputV) (w : World) : (binOp .eql 39 (.agg #[.int .i64 x.op, .int .i64 x.kind, .int .i64 x.pos, .int .i64 x.attr]) (.agg #[.int .i64 y.op, .int .i64 y.kind, .int .i64 y.pos, .int .i64 y.attr])).run Try.prog w = .ok (.bool (sameI x y)) w := by
  have h1 : Try.prog.stoodInHeld 39 = false := by kernel_rfl
  obtain ⟨a, b, c, d⟩ := x
  obtain ⟨a2, b2, c2, d2⟩ := y
  unfold sameI
  by_cases h : a = a2 <;> by_cases h2 : b = b2 <;> by_cases h3 : c = c2 <;> by_cases h4 : d = d2 <;> simp [go_sem, h, h2, h3, h4, h1]
def twR7 (xo xk xp xa yo yk yp ya : Int) (bb oo n ci i k : Nat) (e : Bool) (w : World) : List Spec := [.is (.pointer (some ⟨w.heap.size, 2, none⟩)),
  .is (.slice (some ⟨bb, oo, none⟩) n ci),
  .is (.int .i64 (i : Nat)),
  .is (.pointer (some ⟨bb, oo + i * 4, none⟩)),
  .is (.agg #[.int .i64 xo, .int .i64 xk, .int .i64 xp, .int .i64 xa]),
  .is (.pointer (some ⟨w.heap.size, 2, none⟩)),
  .is (.slice (some ⟨bb, oo, none⟩) n ci),
  .is (.int .i64 (k : Nat)),
  .is (.pointer (some ⟨bb, oo + k * 4, none⟩)),
  .is (.agg #[.int .i64 yo, .int .i64 yk, .int .i64 yp, .int .i64 ya]),
  .is (.bool e)]

set_option maxRecDepth 100000 in
set_option maxHeartbeats 4000000 in
theorem twice_any (cd : CodeV) (w : World) (h : cd.ok w w.heap.size) :
    Calls Try.prog 18 #[cd.val] w (SaysB (fun p => p = false ↔ Once cd.li) w) := by
  obtain ⟨nr, ns, Ai, ci, li, Ak, ck, lk, Al, cl, ll⟩ := cd
  obtain ⟨ri, rk, rl, ni, nk, nl, fi, fk, fl, fr, fs⟩ := h
  simp only at ri rk rl ni nk nl fi fk fl fr fs
  have HRI := Lib.hid ri
  show Calls Try.prog 18 #[.agg #[.int .i64 nr, .int .i64 ns, .slice Ai li.length ci, .slice Ak lk.length ck, .slice Al ll.length cl]] w (SaysB (fun p => p = false ↔ Once li) w)
  clear ri rk rl nk nl fi fk fl fr fs
  generalize lk.length = n2 at *
  generalize ll.length = n3 at *
  obtain ⟨n, hn⟩ : ∃ n, li.length = n := ⟨_, rfl⟩
  rw [hn]
  have HN := Lib.hid hn
  rw [hn] at ni
  clear hn
  have kc0 := Bk.new w 26 #[.int .i64 nr, .int .i64 ns, .slice Ai n ci, .slice Ak n2 ck, .slice Al n3 cl]
  have hbe0 : Below w.heap.size w (w.alloc (.cells #[.int .i64 nr, .int .i64 ns, .slice Ai n ci, .slice Ak n2 ck, .slice Al n3 cl] 26)) := (Below.refl _ _).alloc (Nat.le_refl _) _
  have c20 : (w.alloc (.cells #[.int .i64 nr, .int .i64 ns, .slice Ai n ci, .slice Ak n2 ck, .slice Al n3 cl] 26)).cell? ⟨w.heap.size, 2, none⟩ = some (.slice Ai n ci) := kc0.cell 2
  go_enter Try.func18, Try.ntmps18
  go_wp2_with fail
  clear c20
  go_loopw [8] (fun i wr => ∃ i0 : Nat, i0 ≤ n ∧ i = .int .i64 i0 ∧ Below w.heap.size w wr ∧ Bk wr w.heap.size 26 #[.int .i64 nr, .int .i64 ns, .slice Ai n ci, .slice Ak n2 ck, .slice Al n3 cl] ∧ Hid (∀ (j q : Nat) (x : InputV), j < i0 → q < j → li[j]? = some x → li[q]? = some x → False)) (fun i _ => n - (intOf i).toNat)
  case atStart => exact ⟨0, Nat.zero_le _, rfl, hbe0, kc0, Lib.hid (fun j q x hj => by omega)⟩
  case round =>
    rename World => wz
    clear hbe0 kc0
    obtain ⟨i, hi, rfl, hbe, kc, hall⟩ := hrel
    by_cases hlt : i < n
    · as_aux_lemma =>
      go_wp2_with fail
      go_loopw [12] (fun q wr => ∃ k : Nat, k ≤ i ∧ q = .int .i64 k ∧ Below w.heap.size w wr ∧ Bk wr w.heap.size 26 #[.int .i64 nr, .int .i64 ns, .slice Ai n ci, .slice Ak n2 ck, .slice Al n3 cl] ∧ Hid (∀ (q : Nat) (x : InputV), q < k → li[i]? = some x → li[q]? = some x → False)) (fun q _ => i - (intOf q).toNat)
      case atStart => exact ⟨0, Nat.zero_le _, rfl, hbe, kc, Lib.hid (fun q x hj => by omega)⟩
      case round =>
        rename World => wl
        clear hbe kc
        obtain ⟨k, hk, rfl, hbe, kc, hin⟩ := hrel
        by_cases hlk : k < i
        · as_aux_lemma =>
          have hi' : i < li.length := by rw [HN.out]; exact hlt
          have hk' : k < li.length := by rw [HN.out]; omega
          obtain ⟨bb, oo, rfl, hb, hc⟩ := (HRI.out.below hbe).elem (f := InputV.cells) (n := 4) (fun _ => rfl) (by omega) hi'
          obtain ⟨b2, o2, hA, hb2, hc2⟩ := (HRI.out.below hbe).elem (f := InputV.cells) (n := 4) (fun _ => rfl) (by omega) hk'
          injection hA with hA; injection hA with e1 e2; subst e1; subst e2
          have hxi : li[i]? = some li[i] := List.getElem?_eq_getElem hi'
          have hyk : li[k]? = some li[k] := List.getElem?_eq_getElem hk'
          generalize li[i] = x at *
          generalize li[k] = y at *
          obtain ⟨e, he⟩ : ∃ e, sameI x y = e := ⟨_, rfl⟩
          have heq : ∀ w : World, (binOp .eql 39 (.agg #[.int .i64 x.op, .int .i64 x.kind, .int .i64 x.pos, .int .i64 x.attr]) (.agg #[.int .i64 y.op, .int .i64 y.kind, .int .i64 y.pos, .int .i64 y.attr])).run Try.prog w = .ok (.bool e) w := fun w => by rw [eql_I, he]
          have HE := Lib.hid he
          clear he
          obtain ⟨xo, xk, xp, xa⟩ := x
          obtain ⟨yo, yk, yp, ya⟩ := y
          simp only at heq
          have x0 : wl.cell? ⟨bb, oo + i * 4, none⟩ = some (.int .i64 xo) := hc 0 _ rfl
          have x1 : wl.cell? ⟨bb, oo + i * 4 + 1, none⟩ = some (.int .i64 xk) := hc 1 _ rfl
          have x2 : wl.cell? ⟨bb, oo + i * 4 + 2, none⟩ = some (.int .i64 xp) := hc 2 _ rfl
          have x3 : wl.cell? ⟨bb, oo + i * 4 + 3, none⟩ = some (.int .i64 xa) := hc 3 _ rfl
          have y0 : wl.cell? ⟨bb, oo + k * 4, none⟩ = some (.int .i64 yo) := hc2 0 _ rfl
          have y1 : wl.cell? ⟨bb, oo + k * 4 + 1, none⟩ = some (.int .i64 yk) := hc2 1 _ rfl
          have y2 : wl.cell? ⟨bb, oo + k * 4 + 2, none⟩ = some (.int .i64 yp) := hc2 2 _ rfl
          have y3 : wl.cell? ⟨bb, oo + k * 4 + 3, none⟩ = some (.int .i64 ya) := hc2 3 _ rfl
          have c2 : wl.cell? ⟨w.heap.size, 2, none⟩ = some (.slice (some ⟨bb, oo, none⟩) n ci) := kc.cell 2
          have HXI := Lib.hid hxi
          have HYK := Lib.hid hyk
          have hkn : k < n := by omega
          clear hc hc2 hxi hyk
          go_upto_region 7 with fail
          refine wp_region_b (by kernel_rfl) (fun qk => (twR7 xo xk xp xa yo yk yp ya bb oo n ci i k e w).getD qk .any) (by kernel_rfl) ?_ ?_
          · refine BOk.cons rfl [] [1] rfl rfl (by kernel_rfl) (by kernel_rfl) (fun qK qa wr hB qO qF hK => ?_) ?_
            · have e1 : qa.tmps[1]? = some (.pointer (some ⟨w.heap.size, 0, none⟩)) := qO.1.trans rfl
              clear qO qF
              go_simp
              exact hK _ _ (Below.refl _ _) rfl
            refine BOk.cons rfl [0] [] rfl rfl (by kernel_rfl) (by kernel_rfl) (fun qK qa wr hB qO qF hK => ?_) ?_
            · have e15 : qa.tmps[15]? = some (.pointer (some ⟨w.heap.size, 2, none⟩)) := fis qF.1 rfl rfl
              clear qO qF
              have hc2 := (bcell hB _ _ (World.block_lt_of_cell? _ _ c2)).trans c2
              go_simp
              exact hK _ _ (Below.refl _ _) rfl
            refine BOk.cons rfl [] [3] rfl rfl (by kernel_rfl) (by kernel_rfl) (fun qK qa wr hB qO qF hK => ?_) ?_
            · have e3 : qa.tmps[3]? = some (.int .i64 (i : Nat)) := qO.1.trans rfl
              clear qO qF
              go_simp
              exact hK _ _ (Below.refl _ _) rfl
            refine BOk.cons rfl [1, 2] [] rfl rfl (by kernel_rfl) (by kernel_rfl) (fun qK qa wr hB qO qF hK => ?_) ?_
            · have e16 : qa.tmps[16]? = some (.slice (some ⟨bb, oo, none⟩) n ci) := fis qF.1 rfl rfl
              have e17 : qa.tmps[17]? = some (.int .i64 (i : Nat)) := fis qF.2.1 rfl rfl
              clear qO qF
              go_simp
              refine hK _ _ (Below.refl _ _) ?_
              show (_ : Value) = _
              first | rfl | (simp; done) | (simp; omega)
            refine BOk.cons rfl [3] [] rfl rfl (by kernel_rfl) (by kernel_rfl) (fun qK qa wr hB qO qF hK => ?_) ?_
            · have e18 : qa.tmps[18]? = some (.pointer (some ⟨bb, oo + i * 4, none⟩)) := fis qF.1 rfl rfl
              clear qO qF
              have hx0 := (bcell hB _ _ (World.block_lt_of_cell? _ _ x0)).trans x0
              have hx1 := (bcell hB _ _ (World.block_lt_of_cell? _ _ x1)).trans x1
              have hx2 := (bcell hB _ _ (World.block_lt_of_cell? _ _ x2)).trans x2
              have hx3 := (bcell hB _ _ (World.block_lt_of_cell? _ _ x3)).trans x3
              go_simp
              exact hK _ _ (Below.refl _ _) rfl
            refine BOk.cons rfl [] [1] rfl rfl (by kernel_rfl) (by kernel_rfl) (fun qK qa wr hB qO qF hK => ?_) ?_
            · have e1 : qa.tmps[1]? = some (.pointer (some ⟨w.heap.size, 0, none⟩)) := qO.1.trans rfl
              clear qO qF
              go_simp
              exact hK _ _ (Below.refl _ _) rfl
            refine BOk.cons rfl [5] [] rfl rfl (by kernel_rfl) (by kernel_rfl) (fun qK qa wr hB qO qF hK => ?_) ?_
            · have e20 : qa.tmps[20]? = some (.pointer (some ⟨w.heap.size, 2, none⟩)) := fis qF.1 rfl rfl
              clear qO qF
              have hc2 := (bcell hB _ _ (World.block_lt_of_cell? _ _ c2)).trans c2
              go_simp
              exact hK _ _ (Below.refl _ _) rfl
            refine BOk.cons rfl [] [4] rfl rfl (by kernel_rfl) (by kernel_rfl) (fun qK qa wr hB qO qF hK => ?_) ?_
            · have e4 : qa.tmps[4]? = some (.int .i64 (k : Nat)) := qO.1.trans rfl
              clear qO qF
              go_simp
              exact hK _ _ (Below.refl _ _) rfl
            refine BOk.cons rfl [6, 7] [] rfl rfl (by kernel_rfl) (by kernel_rfl) (fun qK qa wr hB qO qF hK => ?_) ?_
            · have e21 : qa.tmps[21]? = some (.slice (some ⟨bb, oo, none⟩) n ci) := fis qF.1 rfl rfl
              have e22 : qa.tmps[22]? = some (.int .i64 (k : Nat)) := fis qF.2.1 rfl rfl
              clear qO qF
              go_simp
              refine hK _ _ (Below.refl _ _) ?_
              show (_ : Value) = _
              first | rfl | (simp; done) | (simp; omega)
            refine BOk.cons rfl [8] [] rfl rfl (by kernel_rfl) (by kernel_rfl) (fun qK qa wr hB qO qF hK => ?_) ?_
            · have e23 : qa.tmps[23]? = some (.pointer (some ⟨bb, oo + k * 4, none⟩)) := fis qF.1 rfl rfl
              clear qO qF
              have hy0 := (bcell hB _ _ (World.block_lt_of_cell? _ _ y0)).trans y0
              have hy1 := (bcell hB _ _ (World.block_lt_of_cell? _ _ y1)).trans y1
              have hy2 := (bcell hB _ _ (World.block_lt_of_cell? _ _ y2)).trans y2
              have hy3 := (bcell hB _ _ (World.block_lt_of_cell? _ _ y3)).trans y3
              go_simp
              exact hK _ _ (Below.refl _ _) rfl
            refine BOk.cons rfl [4, 9] [] rfl rfl (by kernel_rfl) (by kernel_rfl) (fun qK qa wr hB qO qF hK => ?_) ?_
            · have e19 : qa.tmps[19]? = some (.agg #[.int .i64 xo, .int .i64 xk, .int .i64 xp, .int .i64 xa]) := fis qF.1 rfl rfl
              have e24 : qa.tmps[24]? = some (.agg #[.int .i64 yo, .int .i64 yk, .int .i64 yp, .int .i64 ya]) := fis qF.2.1 rfl rfl
              clear qO qF
              go_simp
              refine hK _ _ (Below.refl _ _) ?_
              show (_ : Value) = _
              first | rfl | (simp; done) | (simp; omega)
            exact BOk.nil
          intro vals wr hl hB hR
          match vals, hl with
          | [z15, z16, z17, z18, z19, z20, z21, z22, z23, z24, z25], _ =>
          have r10 : z25 = .bool e := hR 10 _ rfl
          subst r10
          clear hR
          simp only [List.cons_append, List.nil_append, putAll, Act.put, List.setIfInBounds_toArray, List.set_cons_zero, List.set_cons_succ]
          rename World => w7
          replace hbe := hbe.trans (hB.mono hbe.size)
          replace kc := kc.old hB
          clear hB c2 x0 x1 x2 x3 y0 y1 y2 y3 heq
          cases e
          · go_wp2_with fail
            go_roundw
            case rel =>
              refine ⟨k + 1, by omega, by go_num, hbe, kc, Lib.hid fun q x hq h1 h2 => ?_⟩
              by_cases hqk : q = k
              · rw [hqk] at h2
                rw [HXI.out] at h1; rw [HYK.out] at h2
                injection h1 with h1; injection h2 with h2
                have := sameI_eq.2 (h1.trans h2.symm)
                rw [HE.out] at this
                cases this
              · exact hin.out q x (by omega) h1 h2
            case measure => simp [intOf]; omega
          · clear hall hin kc
            go_wp2_with fail
            go_ret
            refine ⟨true, rfl, ⟨fun h => (by cases h), fun ho => ?_⟩, hbe⟩
            have h1 := HXI.out
            rw [sameI_eq.1 HE.out] at h1
            have := ho i k _ h1 HYK.out
            omega
        · as_aux_lemma =>
          obtain rfl : k = i := by omega
          go_wp2_with fail
          go_roundw
          case rel =>
            refine ⟨k + 1, by omega, by go_num, hbe, kc, Lib.hid fun j q x hj hq h1 h2 => ?_⟩
            by_cases hjk : j = k
            · rw [hjk] at h1
              exact hin.out q x (by omega) h1 h2
            · exact hall.out j q x (by omega) hq h1 h2
          case measure => simp [intOf]; omega
    · as_aux_lemma =>
      obtain rfl : i = n := by omega
      clear kc HRI
      go_wp2_with fail
      go_ret
      refine ⟨false, rfl, ⟨fun _ j q x h1 h2 => ?_, fun _ => rfl⟩, hbe⟩
      have hj := (List.getElem?_eq_some_iff.1 h1).1
      have hq := (List.getElem?_eq_some_iff.1 h2).1
      rw [HN.out] at hj hq
      by_cases hjq : j = q
      · exact hjq
      · by_cases hlt2 : q < j
        · exact (hall.out j q x hj hlt2 h1 h2).elim
        · exact (hall.out q j x hq (by omega) h2 h1).elim
end Go.Proofs.Ytadblgfppnpamaa
