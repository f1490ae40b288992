/- Layer 10: the program's twin of a match, and its list of matches put in order. No conditions. -/
import Derived.Test.YtbopndepklafgaaDoorMatW
import Derived.Test.YtbopndepklafgaaDoorSrtW
namespace Go.Proofs.YtbopndepklafgaaDoor
open Go.RowKit
set_option maxRecDepth 10000
set_option linter.unusedVariables false
set_option linter.unusedSimpArgs false

theorem key_len {t m : MatV} (h : t.key = m.key) : t.rows.length = m.rows.length := by
  have := congrArg (fun k : Int × Int × List (List Int) => k.2.2.length) h
  simpa [MatV.key, MatV.L] using this
theorem key_step {t m : MatV} (h : t.key = m.key) : t.step = m.step ∧ t.branch = m.branch ∧ t.L = m.L := by
  unfold MatV.key at h
  simp only [Prod.mk.injEq] at h
  exact h
/-- A match with rows of its own, like one that is well laid, is so. -/
theorem OwnM.ok {w w0 : World} {B B0 : Nat} {t m : MatV} (h : OwnM w B t) (hk : t.key = m.key) (hm : m.ok w0 B0) : t.ok w w.heap.size := by
  obtain ⟨h1, h2, h3⟩ := key_step hk
  refine ⟨own_rd h.rows, by rw [key_len hk]; exact hm.len, fun r hr => ⟨own_rd (h.each r hr), ?_⟩, by rw [h1]; exact hm.stepR, by rw [h2]; exact hm.branchR⟩
  have : r.l ∈ m.L := by rw [← h3]; exact List.mem_map_of_mem hr
  obtain ⟨r', hr', e⟩ := List.mem_map.1 this
  rw [← e]; exact (hm.each r' hr').len
/-- What is written in a row of matches leaves the rows of each. -/
theorem OwnM.grown {w w' : World} {B base n : Nat} {v : Value} {xs : List Value} {t : MatV} (h : OwnM w B t) (ho : w.ownsRow base 27 3 v n xs) (hg : w.grownBy w' v.ownBlock) : OwnM w' B t := ⟨own_keep h.rows ho (by decide) hg, fun r hr => own_keep (h.each r hr) ho (by decide) hg⟩
set_option maxRecDepth 100000 in
set_option maxHeartbeats 4000000 in
theorem mtwin_any (m : MatV) (w : World) (h : m.ok w w.heap.size) :
    Calls Tryd.prog 14 #[m.val] w fun r w' => ∃ t : MatV, r = .returned t.val ∧ t.key = m.key ∧ OwnM w' w.heap.size t ∧ Below w.heap.size w w' := by
  obtain ⟨iI, hI, hI0, hI1, hI2⟩ := info_parts infoI
  obtain ⟨iR, hR, hR0, hR1, hR2⟩ := info_parts infoIr
  have HMO := Lib.hid h
  have hml := h.len
  clear h
  unfold MatV.val
  go_enter Tryd.func14, Tryd.ntmps14
  have x0 := (Bk.new w 27 #[.int .i64 m.step, .int .i64 m.branch, .slice m.A m.rows.length m.c]).alloc (.cells #[.int .i64 0, .int .i64 0, .slice none 0 0] 27)
  have x1 := Bk.newAt (w := w.alloc (.cells #[.int .i64 m.step, .int .i64 m.branch, .slice m.A m.rows.length m.c] 27)) (g := w.heap.size + 1) (by simp) 27 #[.int .i64 0, .int .i64 0, .slice none 0 0]
  have hbA : Below w.heap.size w ((w.alloc (.cells #[.int .i64 m.step, .int .i64 m.branch, .slice m.A m.rows.length m.c] 27)).alloc (.cells #[.int .i64 0, .int .i64 0, .slice none 0 0] 27)) := ((Below.refl _ _).alloc (Nat.le_refl _) _).alloc (by simp) _
  have q2 := x0.cell 2
  go_wp2
  generalize (w.alloc (.cells #[.int .i64 m.step, .int .i64 m.branch, .slice m.A m.rows.length m.c] 27)).alloc (.cells #[.int .i64 0, .int .i64 0, .slice none 0 0] 27) = W1 at *
  clear q2
  have hw1 : w.heap.size + 1 < W1.heap.size := x1.lt
  go_loopw [3, 9] (fun p j wi => ∃ (q : Nat) (A' : Option Addr) (c' : Nat) (rows : List RowV), q ≤ m.rows.length ∧ p = .slice A' q c' ∧ j = .int .i64 q ∧ Below W1.heap.size W1 wi ∧ Hid (rows.map (·.l) = m.L.take q) ∧
    wi.ownsRow W1.heap.size 29 1 (.slice A' q c') q (rows.flatMap RowV.cells) ∧ Hid (∀ r ∈ rows, wi.ownsRow W1.heap.size 3 1 (.slice r.A r.l.length r.c) r.l.length (ints r.l))) (fun _ j _ => m.rows.length - (intOf j).toNat)
  case atStart => exact ⟨0, none, 0, [], Nat.zero_le _, rfl, rfl, Below.refl _ _, Lib.hid rfl, World.ownsRow_nil _ _ _ _, Lib.hid (by simp)⟩
  case round =>
    obtain ⟨q, A', c', rows, hq, rfl, rfl, hbi, hsigi, howni, heachi⟩ := hrel
    obtain ⟨wi, rfl⟩ : ∃ wi : World, wi = wr := ⟨_, rfl⟩
    have hwi := hbi.size
    have hbx : Below w.heap.size w wi := (hbA).trans (hbi.mono (by omega))
    by_cases hlq : q < m.rows.length
    · as_aux_lemma =>
      obtain ⟨b', o', hA', hb', hc'⟩ := (HMO.out.rd.below hbx).elem (n := 1) (fun _ => rfl) (by omega) hlq
      have r0 : wi.cell? ⟨b', o' + q * 1, none⟩ = some (.slice m.rows[q].A m.rows[q].l.length m.rows[q].c) := hc' 0 _ rfl
      rw [Nat.mul_one] at r0
      have hlL : q < m.L.length := by unfold MatV.L; simpa using hlq
      have e1 : m.L[q] = m.rows[q].l := by simp [MatV.L]
      have HNL : Hid (m.L.take (q + 1) = m.L.take q ++ [m.rows[q].l]) := Lib.hid (by rw [List.take_succ_eq_append_getElem hlL, e1])
      have HRR := Lib.hid ((HMO.out.each m.rows[q] (List.getElem_mem _)).rd.below hbx)
      have hrl := (HMO.out.each m.rows[q] (List.getElem_mem _)).len
      clear hc' e1
      generalize m.rows[q] = R at *
      rw [hA']
      clear hA'
      have hownE : (wi.alloc (.cells #[] 3)).ownsRow wi.heap.size 3 1 (.slice (some ⟨wi.heap.size, 0, none⟩) 0 0) 0 [] := World.ownsRow_lit wi #[] 0 (Nat.le_refl _) (by decide) rfl
      have hbE : Below wi.heap.size wi (wi.alloc (.cells #[] 3)) := (Below.refl _ _).alloc (Nat.le_refl _) _
      have hzE : wi.heap.size ≤ (wi.alloc (.cells #[] 3)).heap.size := hbE.size
      have HRR2 := Lib.hid (HRR.out.below (hbE.mono hbx.size))
      go_wp2_with (at_builtin; refine wpList_append_rd (by rfl) _ _ 29 (by rfl) wi.heap.size 3 iI _ 1 8 Tryd.underlying29 hI hI0 hI1 hI2 rfl (by decide) (.slice (some ⟨wi.heap.size, 0, none⟩) 0 0) 0 [] (by rfl) hownE w.heap.size R.A R.l.length R.c (ints R.l) (by rfl) HRR2.out (by rw [ints_len, Nat.mul_one]) ?c2 ?c3 ?c4 hzE ?_)
      case c2 => intro u hu; simp only [ints, List.mem_map] at hu; obtain ⟨z, _, rfl⟩ := hu; rfl
      case c3 => unfold maxLen; omega
      case c4 => omega
      intro A3 c3 w3 hown3 hg3 _
      have hbx3 : Below wi.heap.size wi w3 := below_own hbE hownE (Nat.le_refl _) hg3 hzE
      try simp only [Nat.zero_add, List.nil_append] at hown3
      try simp only [Nat.zero_add]
      have parts3 := own_old howni hbx3
      have HE3 : Hid (∀ r ∈ rows, w3.ownsRow W1.heap.size 3 1 (.slice r.A r.l.length r.c) r.l.length (ints r.l)) := Lib.hid fun r hr => own_old (heachi.out r hr) hbx3
      have new3 := own_mono hown3 hwi
      have hbi3 := hbi.trans (hbx3.mono hwi)
      have hw3 : W1.heap.size ≤ w3.heap.size := hbi3.size
      clear hown3 hg3 hownE hbE hzE HRR2 HRR howni heachi hbx3 r0
      have hzF : W1.heap.size ≤ (w3.alloc (.cells #[.slice A3 R.l.length c3] 29)).heap.size := by simp; omega
      go_wp2_with (at_builtin; refine wpList_append_rd (by rfl) _ _ 25 (by rfl) W1.heap.size 29 iR _ 1 24 Tryd.underlying25 hR hR0 hR1 hR2 rfl (by decide) (.slice A' q c') q _ (by rfl) (parts3.alloc _) (w3.heap.size + 1) (some ⟨w3.heap.size, 0, none⟩) 1 1 [.slice A3 R.l.length c3] (by rfl) (Rd.lit rfl _ _) (by rfl) ?c2 ?c3 ?c4 hzF ?_)
      case c2 => intro u hu; simp at hu; subst hu; rfl
      case c3 => unfold maxLen; omega
      case c4 => omega
      intro A4 c4 w4 hown4 hg4 _
      have hbi4 : Below W1.heap.size W1 w4 := below_own (hbi3.alloc hw3 _) (parts3.alloc _) (Nat.le_refl _) hg4 hzF
      have HE4 : Hid (∀ r ∈ rows ++ [(⟨A3, c3, R.l⟩ : RowV)], w4.ownsRow W1.heap.size 3 1 (.slice r.A r.l.length r.c) r.l.length (ints r.l)) := by
        refine Lib.hid fun r hr => ?_
        rcases List.mem_append.1 hr with hr | hr
        · exact own_keep ((HE3.out r hr).alloc _) (parts3.alloc _) (by decide) hg4
        · obtain rfl := List.mem_singleton.1 hr
          exact own_keep (new3.alloc _) (parts3.alloc _) (by decide) hg4
      have hown5 : w4.ownsRow W1.heap.size 29 1 (.slice A4 (q + 1) c4) (q + 1) ((rows ++ [(⟨A3, c3, R.l⟩ : RowV)]).flatMap RowV.cells) := by
        rw [List.flatMap_append]; exact hown4
      have HS : Hid ((rows ++ [(⟨A3, c3, R.l⟩ : RowV)]).map (·.l) = m.L.take (q + 1)) := Lib.hid (by rw [List.map_append, hsigi.out, HNL.out]; rfl)
      clear hown4 hg4 parts3 new3 HE3 hbi3 hzF hsigi HNL
      go_wp2
      go_roundw
      case rel => exact ⟨q + 1, A4, c4, rows ++ [(⟨A3, c3, R.l⟩ : RowV)], by omega, by first | rfl | trivial, by go_num, hbi4, HS, hown5, HE4⟩
      case measure => simp [intOf]; omega
    · as_aux_lemma =>
      obtain rfl : q = m.rows.length := by omega
      have hrl : rows.length = m.rows.length := by
        have := congrArg List.length hsigi.out
        rw [List.length_map, List.length_take] at this
        simp [MatV.L] at this
        exact this
      have hL : m.L.take m.rows.length = m.L := List.take_of_length_le (by simp [MatV.L])
      have HKEY : Hid ((⟨m.step, m.branch, A', c', rows⟩ : MatV).key = m.key) := Lib.hid (by
        unfold MatV.key
        have : (⟨m.step, m.branch, A', c', rows⟩ : MatV).L = m.L := by rw [← hL]; exact hsigi.out
        rw [this])
      clear hL hsigi
      have q0 := x0.old hbi
      have q1 := x1.old hbi
      clear x0 x1
      have d0 := q0.cell 0
      have d1 := q0.cell 1
      have d2 := q0.cell 2
      have f2 := q0.frozen 2
      have q5 : Bk (wi.setCell ⟨w.heap.size, 2, none⟩ (.slice A' m.rows.length c')) w.heap.size 27 #[.int .i64 m.step, .int .i64 m.branch, .slice A' m.rows.length c'] := q0.put 2 _
      have q6 : Bk (wi.setCell ⟨w.heap.size, 2, none⟩ (.slice A' m.rows.length c')) (w.heap.size + 1) 27 #[.int .i64 0, .int .i64 0, .slice none 0 0] := q1.far (by show w.heap.size + 1 ≠ w.heap.size; omega) _
      have p5 := own_set howni q0 (by decide) 2 (.slice A' m.rows.length c')
      have HE5 : Hid (∀ r ∈ rows, (wi.setCell ⟨w.heap.size, 2, none⟩ (.slice A' m.rows.length c')).ownsRow W1.heap.size 3 1 (.slice r.A r.l.length r.c) r.l.length (ints r.l)) := Lib.hid fun r hr => own_set (heachi.out r hr) q0 (by decide) 2 _
      have hb5 : Below w.heap.size w (wi.setCell ⟨w.heap.size, 2, none⟩ (.slice A' m.rows.length c')) := hbx.setCell (by show w.heap.size ≤ w.heap.size; omega) _
      go_upto_region 8 with fail
      clear d0 d1 d2 f2 q0 q1 howni heachi hbi hbx hbA
      generalize wi.setCell ⟨w.heap.size, 2, none⟩ (.slice A' m.rows.length c') = W5 at *
      have d0 := q5.cell 0
      have d1 := q5.cell 1
      have d2 := q5.cell 2
      have n0 := q6.cell 0
      have n1 := q6.cell 1
      have n2 := q6.cell 2
      have g0 := q6.frozen 0
      have g1 := q6.frozen 1
      have g2 := q6.frozen 2
      have q7 : Bk (((W5.setCell ⟨w.heap.size + 1, 0, none⟩ (.int .i64 m.step)).setCell ⟨w.heap.size + 1, 1, none⟩ (.int .i64 m.branch)).setCell ⟨w.heap.size + 1, 2, none⟩ (.slice A' m.rows.length c')) (w.heap.size + 1) 27 #[.int .i64 m.step, .int .i64 m.branch, .slice A' m.rows.length c'] := ((q6.put 0 _).put 1 _).put 2 _
      have c0 := q7.cell 0
      have c1 := q7.cell 1
      have c2 := q7.cell 2
      have hb7 : Below w.heap.size w (((W5.setCell ⟨w.heap.size + 1, 0, none⟩ (.int .i64 m.step)).setCell ⟨w.heap.size + 1, 1, none⟩ (.int .i64 m.branch)).setCell ⟨w.heap.size + 1, 2, none⟩ (.slice A' m.rows.length c')) := ((hb5.setCell (by simp) _).setCell (by simp) _).setCell (by simp) _
      have p7 := own_set (own_set (own_set p5 q6 (by decide) 0 (.int .i64 m.step)) (q6.put 0 _) (by decide) 1 (.int .i64 m.branch)) ((q6.put 0 _).put 1 _) (by decide) 2 (.slice A' m.rows.length c')
      have HE7 : Hid (∀ r ∈ rows, (((W5.setCell ⟨w.heap.size + 1, 0, none⟩ (.int .i64 m.step)).setCell ⟨w.heap.size + 1, 1, none⟩ (.int .i64 m.branch)).setCell ⟨w.heap.size + 1, 2, none⟩ (.slice A' m.rows.length c')).ownsRow W1.heap.size 3 1 (.slice r.A r.l.length r.c) r.l.length (ints r.l)) :=
        Lib.hid fun r hr => own_set (own_set (own_set (HE5.out r hr) q6 (by decide) 0 (.int .i64 m.step)) (q6.put 0 _) (by decide) 1 (.int .i64 m.branch)) ((q6.put 0 _).put 1 _) (by decide) 2 (.slice A' m.rows.length c')
      clear p5 HE5 hb5 q5 q6
      go_wp2
      refine bodyPost_ret (v := .agg #[.int .i64 m.step, .int .i64 m.branch, .slice A' m.rows.length c']) (by simp [results, Tryd.results14, go_sem, c0, c1, c2]) rfl ?_
      refine ⟨⟨m.step, m.branch, A', c', rows⟩, ?_, HKEY.out, ⟨?_, fun r hr => own_mono (HE7.out r hr) (by omega)⟩, hb7⟩
      · show _ = Ending.returned (.agg #[.int .i64 m.step, .int .i64 m.branch, .slice A' rows.length c'])
        rw [hrl]
      · show World.ownsRow _ w.heap.size 29 1 (.slice A' rows.length c') rows.length (rows.flatMap RowV.cells)
        rw [hrl]
        exact own_mono p7 (by omega)
end Go.Proofs.YtbopndepklafgaaDoor
