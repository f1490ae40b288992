/- Layer 18: a code in memory of its own. No conditions. -/
import Derived.Test.YtadblgfppnpamaaVmP
namespace Go.Proofs.Ytadblgfppnpamaa
open Go.RowKit
set_option linter.unusedVariables false
set_option linter.unusedSimpArgs false

theorem infoIn : (Try.prog.info? 39).map (fun i => (i.zero, i.size, i.bytes)) = some (some (.agg #[.int .i64 0, .int .i64 0, .int .i64 0, .int .i64 0]), 4, 32) := by kernel_rfl
theorem infoVa : (Try.prog.info? 31).map (fun i => (i.zero, i.size, i.bytes)) = some (some (.agg #[.int .i64 0, .int .u64 0]), 2, 16) := by kernel_rfl
theorem infoIs : (Try.prog.info? 43).map (fun i => (i.zero, i.size, i.bytes)) = some (some (.agg #[.int .i64 0, .int .i64 0, .int .i64 0, .int .i64 0]), 4, 32) := by kernel_rfl
theorem one_in {l : List InputV} : ∀ u ∈ l.flatMap InputV.cells, u.oneCell' = true := by
  intro u hu
  obtain ⟨x, _, hx⟩ := List.mem_flatMap.1 hu
  simp [InputV.cells] at hx
  rcases hx with rfl | rfl | rfl | rfl <;> rfl
theorem one_va {l : List V} : ∀ u ∈ l.flatMap V.cells, u.oneCell' = true := by
  intro u hu
  obtain ⟨x, _, hx⟩ := List.mem_flatMap.1 hu
  simp [V.cells] at hx
  rcases hx with rfl | rfl <;> rfl
theorem one_is {l : List InsV} : ∀ u ∈ l.flatMap InsV.cells, u.oneCell' = true := by
  intro u hu
  obtain ⟨x, _, hx⟩ := List.mem_flatMap.1 hu
  simp [InsV.cells] at hx
  rcases hx with rfl | rfl | rfl | rfl <;> rfl
/-- A code whose rows are the call's own. -/
structure Twin (w w' : World) (B : Nat) (cd c2 : CodeV) : Prop where
  nr : c2.nr = cd.nr
  ns : c2.ns = cd.ns
  li : c2.li = cd.li
  lk : c2.lk = cd.lk
  ll : c2.ll = cd.ll
  ri : w'.ownsRow B 39 4 (.slice c2.Ai c2.li.length c2.ci) c2.li.length (c2.li.flatMap InputV.cells)
  rk : w'.ownsRow B 31 2 (.slice c2.Ak c2.lk.length c2.ck) c2.lk.length (c2.lk.flatMap V.cells)
  rl : w'.ownsRow B 43 4 (.slice c2.Al c2.ll.length c2.cl) c2.ll.length (c2.ll.flatMap InsV.cells)

set_option maxRecDepth 100000 in
set_option maxHeartbeats 2000000 in
theorem twin_any (cd : CodeV) (w : World) (h : cd.ok w w.heap.size) :
    Calls Try.prog 8 #[cd.val] w fun e w' => ∃ c2 : CodeV, e = .returned c2.val ∧ Twin w w' w.heap.size cd c2 ∧ Below w.heap.size w w' := by
  obtain ⟨nr, ns, Ai, ci, li, Ak, ck, lk, Al, cl, ll⟩ := cd
  obtain ⟨ri, rk, rl, ni, nk, nl, fi, fk, fl, fr, fs⟩ := h
  simp only at ri rk rl ni nk nl fi fk fl fr fs
  obtain ⟨iI, hI, hI0, hI1, hI2⟩ := info_parts infoIn
  obtain ⟨iV, hV, hV0, hV1, hV2⟩ := info_parts infoVa
  obtain ⟨iS, hS, hS0, hS1, hS2⟩ := info_parts infoIs
  unfold CodeV.val
  have kc := (Bk.new w 26 #[.int .i64 nr, .int .i64 ns, .slice Ai li.length ci, .slice Ak lk.length ck, .slice Al ll.length cl]).alloc (.cells #[.int .i64 0, .int .i64 0, .slice none 0 0, .slice none 0 0, .slice none 0 0] 26)
  have kr := Bk.newAt (w := w.alloc (.cells #[.int .i64 nr, .int .i64 ns, .slice Ai li.length ci, .slice Ak lk.length ck, .slice Al ll.length cl] 26)) (g := w.heap.size + 1) (by simp) 26 #[.int .i64 0, .int .i64 0, .slice none 0 0, .slice none 0 0, .slice none 0 0]
  have hb0 : Below w.heap.size w ((w.alloc (.cells #[.int .i64 nr, .int .i64 ns, .slice Ai li.length ci, .slice Ak lk.length ck, .slice Al ll.length cl] 26)).alloc (.cells #[.int .i64 0, .int .i64 0, .slice none 0 0, .slice none 0 0, .slice none 0 0] 26)) := ((Below.refl _ _).alloc (Nat.le_refl _) _).alloc (by simp) _
  have KC := Lib.hid kc
  have KR := Lib.hid kr
  have HB := Lib.hid hb0
  clear kc kr hb0
  go_enter Try.func8, Try.ntmps8
  go_wp2_with (at_builtin; refine wpList_append_rd rfl _ _ 22 rfl w.heap.size 39 iI _ 4 32 Try.underlying22 hI hI0 hI1 hI2 rfl (by decide) (.slice none 0 0) 0 [] rfl (World.ownsRow_nil _ _ _ _) w.heap.size Ai li.length ci (li.flatMap InputV.cells) rfl (ri.below HB.out) (flat_len (n := 4) InputV.cells (fun _ => rfl) li) one_in (by unfold maxLen; omega) (by omega) HB.out.size ?_; intro A2 c2 w1 ho1 hg1 _; refine Hid.out ?_)
  refine Lib.hid ?_
  have hb1 := HB.out.trans ((show Below _ _ w1 from ⟨hg1.os, hg1.tape, hg1.output, hg1.size, fun k hk => hg1.block k hk (by simp [Value.ownBlock])⟩).mono HB.out.size)
  have kc1 : Bk w1 w.heap.size 26 #[.int .i64 nr, .int .i64 ns, .slice Ai li.length ci, .slice Ak lk.length ck, .slice Al ll.length cl] := KC.out.grown hg1 (by simp [Value.ownBlock])
  have kr1 : Bk w1 (w.heap.size + 1) 26 #[.int .i64 0, .int .i64 0, .slice none 0 0, .slice none 0 0, .slice none 0 0] := KR.out.grown hg1 (by simp [Value.ownBlock])
  simp only [Nat.zero_add, List.nil_append] at ho1 ⊢
  have kc1' : Bk (w1.setCell ⟨w.heap.size, 2, none⟩ (.slice A2 li.length c2)) w.heap.size 26 #[.int .i64 nr, .int .i64 ns, .slice A2 li.length c2, .slice Ak lk.length ck, .slice Al ll.length cl] := by have := kc1.put 2 (.slice A2 li.length c2); simpa using this
  have ho1' := own_set ho1 kc1 (by decide) 2 (.slice A2 li.length c2)
  have kr1' := kr1.far (p := ⟨w.heap.size, 2, none⟩) (by simp) (.slice A2 li.length c2)
  have hb1' := hb1.setCell (p := ⟨w.heap.size, 2, none⟩) (Nat.le_refl _) (.slice A2 li.length c2)
  have x2 := kc1.cell 2
  have f2 := kc1.frozen 2
  have x3 := kc1'.cell 3
  have KC1 := Lib.hid kc1'
  have KR1 := Lib.hid kr1'
  have HO1 := Lib.hid ho1'
  have HB1 := Lib.hid hb1'
  clear kc1 kr1 ho1 hb1 kc1' kr1' ho1' hb1' hg1 KC KR HB
  go_wp2_with (at_builtin; refine wpList_append_rd rfl _ _ 23 rfl w.heap.size 31 iV _ 2 16 Try.underlying23 hV hV0 hV1 hV2 rfl (by decide) (.slice none 0 0) 0 [] rfl (World.ownsRow_nil _ _ _ _) w.heap.size Ak lk.length ck (lk.flatMap V.cells) rfl (rk.below HB1.out) (flat_len (n := 2) V.cells (fun _ => rfl) lk) one_va (by unfold maxLen; omega) (by omega) HB1.out.size ?_; intro A3 c3 w2 ho2 hg2 _; refine Hid.out ?_)
  refine Lib.hid ?_
  have hb2 := HB1.out.trans ((show Below _ _ w2 from ⟨hg2.os, hg2.tape, hg2.output, hg2.size, fun k hk => hg2.block k hk (by simp [Value.ownBlock])⟩).mono HB1.out.size)
  have kc2 : Bk w2 w.heap.size 26 #[.int .i64 nr, .int .i64 ns, .slice A2 li.length c2, .slice Ak lk.length ck, .slice Al ll.length cl] := KC1.out.grown hg2 (by simp [Value.ownBlock])
  have kr2 : Bk w2 (w.heap.size + 1) 26 #[.int .i64 0, .int .i64 0, .slice none 0 0, .slice none 0 0, .slice none 0 0] := KR1.out.grown hg2 (by simp [Value.ownBlock])
  have ho12 := own_keep HO1.out (World.ownsRow_nil _ w.heap.size 31 2) (by decide) hg2
  simp only [Nat.zero_add, List.nil_append] at ho2 ⊢
  have kc2' : Bk (w2.setCell ⟨w.heap.size, 3, none⟩ (.slice A3 lk.length c3)) w.heap.size 26 #[.int .i64 nr, .int .i64 ns, .slice A2 li.length c2, .slice A3 lk.length c3, .slice Al ll.length cl] := by have := kc2.put 3 (.slice A3 lk.length c3); simpa using this
  have ho2' := own_set ho2 kc2 (by decide) 3 (.slice A3 lk.length c3)
  have ho12' := own_set ho12 kc2 (by decide) 3 (.slice A3 lk.length c3)
  have kr2' := kr2.far (p := ⟨w.heap.size, 3, none⟩) (by simp) (.slice A3 lk.length c3)
  have hb2' := hb2.setCell (p := ⟨w.heap.size, 3, none⟩) (Nat.le_refl _) (.slice A3 lk.length c3)
  clear x2 f2 x3
  have x2 := kc2.cell 3
  have f2 := kc2.frozen 3
  have x3 := kc2'.cell 4
  have KC2 := Lib.hid kc2'
  have KR2 := Lib.hid kr2'
  have HO2 := Lib.hid ho2'
  have HO12 := Lib.hid ho12'
  have HB2 := Lib.hid hb2'
  clear kc2 kr2 ho2 ho12 hb2 kc2' kr2' ho2' ho12' hb2' hg2 KC1 KR1 HO1 HB1
  go_wp2_with (at_builtin; refine wpList_append_rd rfl _ _ 24 rfl w.heap.size 43 iS _ 4 32 Try.underlying24 hS hS0 hS1 hS2 rfl (by decide) (.slice none 0 0) 0 [] rfl (World.ownsRow_nil _ _ _ _) w.heap.size Al ll.length cl (ll.flatMap InsV.cells) rfl (rl.below HB2.out) (flat_len (n := 4) InsV.cells (fun _ => rfl) ll) one_is (by unfold maxLen; omega) (by omega) HB2.out.size ?_; intro A4 c4 w3 ho3 hg3 _; refine Hid.out ?_)
  refine Lib.hid ?_
  have hb3 := HB2.out.trans ((show Below _ _ w3 from ⟨hg3.os, hg3.tape, hg3.output, hg3.size, fun k hk => hg3.block k hk (by simp [Value.ownBlock])⟩).mono HB2.out.size)
  have kc3 : Bk w3 w.heap.size 26 #[.int .i64 nr, .int .i64 ns, .slice A2 li.length c2, .slice A3 lk.length c3, .slice Al ll.length cl] := KC2.out.grown hg3 (by simp [Value.ownBlock])
  have kr3 : Bk w3 (w.heap.size + 1) 26 #[.int .i64 0, .int .i64 0, .slice none 0 0, .slice none 0 0, .slice none 0 0] := KR2.out.grown hg3 (by simp [Value.ownBlock])
  have ho13 := own_keep HO12.out (World.ownsRow_nil _ w.heap.size 43 4) (by decide) hg3
  have ho23 := own_keep HO2.out (World.ownsRow_nil _ w.heap.size 43 4) (by decide) hg3
  simp only [Nat.zero_add, List.nil_append] at ho3 ⊢
  have kc3' : Bk (w3.setCell ⟨w.heap.size, 4, none⟩ (.slice A4 ll.length c4)) w.heap.size 26 #[.int .i64 nr, .int .i64 ns, .slice A2 li.length c2, .slice A3 lk.length c3, .slice A4 ll.length c4] := by have := kc3.put 4 (.slice A4 ll.length c4); simpa using this
  have ho3' := own_set ho3 kc3 (by decide) 4 (.slice A4 ll.length c4)
  have ho13' := own_set ho13 kc3 (by decide) 4 (.slice A4 ll.length c4)
  have ho23' := own_set ho23 kc3 (by decide) 4 (.slice A4 ll.length c4)
  have kr3' := kr3.far (p := ⟨w.heap.size, 4, none⟩) (by simp) (.slice A4 ll.length c4)
  have hb3' := hb3.setCell (p := ⟨w.heap.size, 4, none⟩) (Nat.le_refl _) (.slice A4 ll.length c4)
  clear x2 f2 x3
  have x2 := kc3.cell 4
  have f2 := kc3.frozen 4
  have y0 := kc3'.cell 0
  have y1 := kc3'.cell 1
  have y2 := kc3'.cell 2
  have y3 := kc3'.cell 3
  have y4 := kc3'.cell 4
  have z0 := kr3'.cell 0
  have z1 := kr3'.cell 1
  have z2 := kr3'.cell 2
  have z3 := kr3'.cell 3
  have z4 := kr3'.cell 4
  have g0 := kr3'.frozen 0
  have g1 := kr3'.frozen 1
  have g2 := kr3'.frozen 2
  have g3 := kr3'.frozen 3
  have g4 := kr3'.frozen 4
  have KR3 := Lib.hid kr3'
  have HO1 := Lib.hid ho13'
  have HO2 := Lib.hid ho23'
  have HO3 := Lib.hid ho3'
  have HB3 := Lib.hid hb3'
  clear kc3 kr3 ho3 ho13 ho23 hb3 kc3' kr3' ho3' ho13' ho23' hb3' hg3 KC2 KR2 HO12 HB2
  go_wp2_with fail
  have kr5 : Bk ((((((w3.setCell ⟨w.heap.size, 4, none⟩ (.slice A4 ll.length c4)).setCell ⟨w.heap.size + 1, 0, none⟩ (.int .i64 nr)).setCell ⟨w.heap.size + 1, 1, none⟩ (.int .i64 ns)).setCell ⟨w.heap.size + 1, 2, none⟩ (.slice A2 li.length c2)).setCell ⟨w.heap.size + 1, 3, none⟩ (.slice A3 lk.length c3)).setCell ⟨w.heap.size + 1, 4, none⟩ (.slice A4 ll.length c4)) (w.heap.size + 1) 26 #[.int .i64 nr, .int .i64 ns, .slice A2 li.length c2, .slice A3 lk.length c3, .slice A4 ll.length c4] := by have := (((((KR3.out.put 0 (.int .i64 nr)).put 1 (.int .i64 ns)).put 2 (.slice A2 li.length c2)).put 3 (.slice A3 lk.length c3)).put 4 (.slice A4 ll.length c4)); simpa using this
  have d0 := kr5.cell 0
  have d1 := kr5.cell 1
  have d2 := kr5.cell 2
  have d3 := kr5.cell 3
  have d4 := kr5.cell 4
  exact bodyPost_ret (v := .agg #[.int .i64 nr, .int .i64 ns, .slice A2 li.length c2, .slice A3 lk.length c3, .slice A4 ll.length c4]) (by simp [results, Try.results8, go_sem, d0, d1, d2, d3, d4]) rfl ⟨⟨nr, ns, A2, c2, li, A3, c3, lk, A4, c4, ll⟩, rfl, ⟨rfl, rfl, rfl, rfl, rfl, (own_set (own_set (own_set (own_set (own_set HO1.out KR3.out (by decide) 0 (.int .i64 nr)) (KR3.out.put 0 (.int .i64 nr)) (by decide) 1 (.int .i64 ns)) ((KR3.out.put 0 (.int .i64 nr)).put 1 (.int .i64 ns)) (by decide) 2 (.slice A2 li.length c2)) (((KR3.out.put 0 (.int .i64 nr)).put 1 (.int .i64 ns)).put 2 (.slice A2 li.length c2)) (by decide) 3 (.slice A3 lk.length c3)) ((((KR3.out.put 0 (.int .i64 nr)).put 1 (.int .i64 ns)).put 2 (.slice A2 li.length c2)).put 3 (.slice A3 lk.length c3)) (by decide) 4 (.slice A4 ll.length c4)), (own_set (own_set (own_set (own_set (own_set HO2.out KR3.out (by decide) 0 (.int .i64 nr)) (KR3.out.put 0 (.int .i64 nr)) (by decide) 1 (.int .i64 ns)) ((KR3.out.put 0 (.int .i64 nr)).put 1 (.int .i64 ns)) (by decide) 2 (.slice A2 li.length c2)) (((KR3.out.put 0 (.int .i64 nr)).put 1 (.int .i64 ns)).put 2 (.slice A2 li.length c2)) (by decide) 3 (.slice A3 lk.length c3)) ((((KR3.out.put 0 (.int .i64 nr)).put 1 (.int .i64 ns)).put 2 (.slice A2 li.length c2)).put 3 (.slice A3 lk.length c3)) (by decide) 4 (.slice A4 ll.length c4)), (own_set (own_set (own_set (own_set (own_set HO3.out KR3.out (by decide) 0 (.int .i64 nr)) (KR3.out.put 0 (.int .i64 nr)) (by decide) 1 (.int .i64 ns)) ((KR3.out.put 0 (.int .i64 nr)).put 1 (.int .i64 ns)) (by decide) 2 (.slice A2 li.length c2)) (((KR3.out.put 0 (.int .i64 nr)).put 1 (.int .i64 ns)).put 2 (.slice A2 li.length c2)) (by decide) 3 (.slice A3 lk.length c3)) ((((KR3.out.put 0 (.int .i64 nr)).put 1 (.int .i64 ns)).put 2 (.slice A2 li.length c2)).put 3 (.slice A3 lk.length c3)) (by decide) 4 (.slice A4 ll.length c4))⟩, (((((HB3.out.setCell (p := ⟨w.heap.size + 1, 0, none⟩) (by simp) (.int .i64 nr)).setCell (p := ⟨w.heap.size + 1, 1, none⟩) (by simp) (.int .i64 ns)).setCell (p := ⟨w.heap.size + 1, 2, none⟩) (by simp) (.slice A2 li.length c2)).setCell (p := ⟨w.heap.size + 1, 3, none⟩) (by simp) (.slice A3 lk.length c3)).setCell (p := ⟨w.heap.size + 1, 4, none⟩) (by simp) (.slice A4 ll.length c4))⟩
end Go.Proofs.Ytadblgfppnpamaa
