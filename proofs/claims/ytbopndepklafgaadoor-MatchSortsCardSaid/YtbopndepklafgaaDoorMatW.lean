/- Layer 10: matches in memory of their own, by the document. No conditions. -/
import Derived.Test.YtbopndepklafgaaDoorMatE
import Derived.Test.YtbopndepklafgaaDoorMatS
namespace Go.Proofs.YtbopndepklafgaaDoor
open Go.RowKit
set_option maxRecDepth 10000
set_option linter.unusedVariables false
set_option linter.unusedSimpArgs false

theorem infoIr : (Tryd.prog.info? 29).map (fun i => (i.zero, i.size, i.bytes)) = some (some (.slice none 0 0), 1, 24) := by kernel_rfl
theorem infoMr : (Tryd.prog.info? 27).map (fun i => (i.zero, i.size, i.bytes)) = some (some (.agg #[.int .i64 0, .int .i64 0, .slice none 0 0]), 3, 40) := by kernel_rfl
/-- A match whose rows are the call's own, from B on. -/
structure OwnM (w : World) (B : Nat) (t : MatV) : Prop where
  rows : w.ownsRow B 29 1 (.slice t.A t.rows.length t.c) t.rows.length (t.rows.flatMap RowV.cells)
  each : ∀ r ∈ t.rows, w.ownsRow B 3 1 (.slice r.A r.l.length r.c) r.l.length (ints r.l)
theorem OwnM.old {w w' : World} {B : Nat} {t : MatV} (h : OwnM w B t) (hb : Below w.heap.size w w') : OwnM w' B t := ⟨own_old h.rows hb, fun r hr => own_old (h.each r hr) hb⟩
theorem mat_len (t : MatV) : t.cells.length = 3 := rfl
set_option maxRecDepth 100000 in
set_option maxHeartbeats 8000000 in
theorem twin_any (ms : List MatV) (A0 : Option Addr) (c0 : Nat) (w : World) (hrd : Rd w w.heap.size A0 (ms.flatMap MatV.cells)) (hok : ∀ m ∈ ms, m.ok w w.heap.size) (hlen : ms.length ≤ 3518437208880) :
    Calls Tryd.prog 5 #[.slice A0 ms.length c0] w fun r w' => ∃ (A : Option Addr) (c : Nat) (ts : List MatV), r = .returned (.slice A ms.length c) ∧ ts.map (·.key) = ms.map (·.key) ∧
      w'.ownsRow w.heap.size 27 3 (.slice A ms.length c) ms.length (ts.flatMap MatV.cells) ∧ (∀ t ∈ ts, OwnM w' w.heap.size t) ∧ Below w.heap.size w w' := by
  obtain ⟨iI, hI, hI0, hI1, hI2⟩ := info_parts infoI
  obtain ⟨iR, hR, hR0, hR1, hR2⟩ := info_parts infoIr
  obtain ⟨iM, hM, hM0, hM1, hM2⟩ := info_parts infoMr
  have HRD := Lib.hid hrd
  have HOK := Lib.hid hok
  clear hrd hok
  go_enter Tryd.func5, Tryd.ntmps5
  go_wp2
  go_loopw [3, 11] (fun o i wr => ∃ (k : Nat) (A : Option Addr) (c : Nat) (ts : List MatV), k ≤ ms.length ∧ o = .slice A k c ∧ i = .int .i64 k ∧ Below w.heap.size w wr ∧ Hid (ts.map (·.key) = (ms.take k).map (·.key)) ∧
    wr.ownsRow w.heap.size 27 3 (.slice A k c) k (ts.flatMap MatV.cells) ∧ Hid (∀ t ∈ ts, OwnM wr w.heap.size t)) (fun _ i _ => ms.length - (intOf i).toNat)
  case atStart => exact ⟨0, none, 0, [], Nat.zero_le _, rfl, rfl, Below.refl _ _, Lib.hid rfl, World.ownsRow_nil _ _ _ _, Lib.hid (by simp)⟩
  case round =>
    obtain ⟨k, A, c, ts, hk, rfl, rfl, hbel, hsig, hown, heach⟩ := hrel
    obtain ⟨wo, rfl⟩ : ∃ wo : World, wo = wr := ⟨_, rfl⟩
    by_cases hlt : k < ms.length
    · as_aux_lemma =>
      obtain ⟨b, o, hA, hb, hc⟩ := (HRD.out.below hbel).elem (n := 3) mat_len (by omega) hlt
      have r0 : wo.cell? ⟨b, o + k * 3, none⟩ = some (.int .i64 ms[k].step) := hc 0 _ rfl
      have r1 : wo.cell? ⟨b, o + k * 3 + 1, none⟩ = some (.int .i64 ms[k].branch) := hc 1 _ rfl
      have r2 : wo.cell? ⟨b, o + k * 3 + 2, none⟩ = some (.slice ms[k].A ms[k].rows.length ms[k].c) := hc 2 _ rfl
      have HMO := Lib.hid (HOK.out ms[k] (List.getElem_mem _))
      have HNX : Hid ((ms.take (k + 1)).map (·.key) = (ms.take k).map (·.key) ++ [ms[k].key]) := Lib.hid (by rw [List.take_succ_eq_append_getElem hlt, List.map_append]; rfl)
      clear hc
      generalize ms[k] = m at *
      have hml := HMO.out.len
      rw [hA]
      clear hA
      have hws := hbel.size
      have q0 := Bk.new wo 27 #[.int .i64 m.step, .int .i64 m.branch, .slice m.A m.rows.length m.c]
      have hbA : Below wo.heap.size wo (wo.alloc (.cells #[.int .i64 m.step, .int .i64 m.branch, .slice m.A m.rows.length m.c] 27)) := (Below.refl _ _).alloc (Nat.le_refl _) _
      have q2 := q0.cell 2
      go_wp2
      generalize wo.alloc (.cells #[.int .i64 m.step, .int .i64 m.branch, .slice m.A m.rows.length m.c] 27) = W1 at *
      clear r0 r1 r2 q2
      have hw1 : wo.heap.size < W1.heap.size := q0.lt
      go_loopw [6, 18] (fun p j wi => ∃ (q : Nat) (A' : Option Addr) (c' : Nat) (rows : List RowV), q ≤ m.rows.length ∧ p = .slice A' q c' ∧ j = .int .i64 q ∧ Below W1.heap.size W1 wi ∧ Hid (rows.map (·.l) = m.L.take q) ∧
        wi.ownsRow W1.heap.size 29 1 (.slice A' q c') q (rows.flatMap RowV.cells) ∧ Hid (∀ r ∈ rows, wi.ownsRow W1.heap.size 3 1 (.slice r.A r.l.length r.c) r.l.length (ints r.l))) (fun _ j _ => m.rows.length - (intOf j).toNat)
      case atStart => exact ⟨0, none, 0, [], Nat.zero_le _, rfl, rfl, Below.refl _ _, Lib.hid rfl, World.ownsRow_nil _ _ _ _, Lib.hid (by simp)⟩
      case round =>
        obtain ⟨q, A', c', rows, hq, rfl, rfl, hbi, hsigi, howni, heachi⟩ := hrel
        obtain ⟨wi, rfl⟩ : ∃ wi : World, wi = wr := ⟨_, rfl⟩
        have hwi := hbi.size
        have hbx : Below w.heap.size w wi := (hbel.trans (hbA.mono hws)).trans (hbi.mono (by omega))
        by_cases hlq : q < m.rows.length
        · as_aux_lemma =>
          obtain ⟨b', o', hA', hb', hc'⟩ := (HMO.out.rd.below hbx).elem (n := 1) (fun _ => rfl) (by omega) hlq
          have r0 : wi.cell? ⟨b', o' + q * 1, none⟩ = some (.slice m.rows[q].A m.rows[q].l.length m.rows[q].c) := hc' 0 _ rfl
          rw [Nat.mul_one] at r0
          have hlL : q < m.L.length := by unfold MatV.L; simpa using hlq
          have e1 : m.L[q] = m.rows[q].l := by simp [MatV.L]
          have HNL : Hid (m.L.take (q + 1) = m.L.take q ++ [m.rows[q].l]) := Lib.hid (by rw [List.take_succ_eq_append_getElem hlL, e1])
          have HRR := Lib.hid ((HMO.out.each m.rows[q] (List.getElem_mem _)).rd.below hbx)
          have hrl := (HMO.out.each m.rows[q] (List.getElem_mem _)).len
          clear hc' e1
          generalize m.rows[q] = R at *
          rw [hA']
          clear hA'
          have hownE : (wi.alloc (.cells #[] 3)).ownsRow wi.heap.size 3 1 (.slice (some ⟨wi.heap.size, 0, none⟩) 0 0) 0 [] := World.ownsRow_lit wi #[] 0 (Nat.le_refl _) (by decide) rfl
          have hbE : Below wi.heap.size wi (wi.alloc (.cells #[] 3)) := (Below.refl _ _).alloc (Nat.le_refl _) _
          have hzE : wi.heap.size ≤ (wi.alloc (.cells #[] 3)).heap.size := hbE.size
          have HRR2 := Lib.hid (HRR.out.below (hbE.mono hbx.size))
          go_wp2_with (at_builtin; refine wpList_append_rd (by rfl) _ _ 29 (by rfl) wi.heap.size 3 iI _ 1 8 Tryd.underlying29 hI hI0 hI1 hI2 rfl (by decide) (.slice (some ⟨wi.heap.size, 0, none⟩) 0 0) 0 [] (by rfl) hownE w.heap.size R.A R.l.length R.c (ints R.l) (by rfl) HRR2.out (by rw [ints_len, Nat.mul_one]) ?c2 ?c3 ?c4 hzE ?_)
          case c2 => intro u hu; simp only [ints, List.mem_map] at hu; obtain ⟨z, _, rfl⟩ := hu; rfl
          case c3 => unfold maxLen; omega
          case c4 => omega
          intro A3 c3 w3 hown3 hg3 _
          have hbx3 : Below wi.heap.size wi w3 := below_own hbE hownE (Nat.le_refl _) hg3 hzE
          try simp only [Nat.zero_add, List.nil_append] at hown3
          try simp only [Nat.zero_add]
          have parts3 := own_old howni hbx3
          have HE3 : Hid (∀ r ∈ rows, w3.ownsRow W1.heap.size 3 1 (.slice r.A r.l.length r.c) r.l.length (ints r.l)) := Lib.hid fun r hr => own_old (heachi.out r hr) hbx3
          have new3 := own_mono hown3 hwi
          have hbi3 := hbi.trans (hbx3.mono hwi)
          have hw3 : W1.heap.size ≤ w3.heap.size := hbi3.size
          clear hown3 hg3 hownE hbE hzE HRR2 HRR howni heachi hbx3 r0
          have hzF : W1.heap.size ≤ (w3.alloc (.cells #[.slice A3 R.l.length c3] 29)).heap.size := by simp; omega
          go_wp2_with (at_builtin; refine wpList_append_rd (by rfl) _ _ 25 (by rfl) W1.heap.size 29 iR _ 1 24 Tryd.underlying25 hR hR0 hR1 hR2 rfl (by decide) (.slice A' q c') q _ (by rfl) (parts3.alloc _) (w3.heap.size + 1) (some ⟨w3.heap.size, 0, none⟩) 1 1 [.slice A3 R.l.length c3] (by rfl) (Rd.lit rfl _ _) (by rfl) ?c2 ?c3 ?c4 hzF ?_)
          case c2 => intro u hu; simp at hu; subst hu; rfl
          case c3 => unfold maxLen; omega
          case c4 => omega
          intro A4 c4 w4 hown4 hg4 _
          have hbi4 : Below W1.heap.size W1 w4 := below_own (hbi3.alloc hw3 _) (parts3.alloc _) (Nat.le_refl _) hg4 hzF
          have HE4 : Hid (∀ r ∈ rows ++ [(⟨A3, c3, R.l⟩ : RowV)], w4.ownsRow W1.heap.size 3 1 (.slice r.A r.l.length r.c) r.l.length (ints r.l)) := by
            refine Lib.hid fun r hr => ?_
            rcases List.mem_append.1 hr with hr | hr
            · exact own_keep ((HE3.out r hr).alloc _) (parts3.alloc _) (by decide) hg4
            · obtain rfl := List.mem_singleton.1 hr
              exact own_keep (new3.alloc _) (parts3.alloc _) (by decide) hg4
          have hown5 : w4.ownsRow W1.heap.size 29 1 (.slice A4 (q + 1) c4) (q + 1) ((rows ++ [(⟨A3, c3, R.l⟩ : RowV)]).flatMap RowV.cells) := by
            rw [List.flatMap_append]; exact hown4
          have HS : Hid ((rows ++ [(⟨A3, c3, R.l⟩ : RowV)]).map (·.l) = m.L.take (q + 1)) := Lib.hid (by rw [List.map_append, hsigi.out, HNL.out]; rfl)
          clear hown4 hg4 parts3 new3 HE3 hbi3 hzF hsigi HNL
          go_wp2
          go_roundw
          case rel => exact ⟨q + 1, A4, c4, rows ++ [(⟨A3, c3, R.l⟩ : RowV)], by omega, by first | rfl | trivial, by go_num, hbi4, HS, hown5, HE4⟩
          case measure => simp [intOf]; omega
        · as_aux_lemma =>
          obtain rfl : q = m.rows.length := by omega
          have hrl : rows.length = m.rows.length := by
            have := congrArg List.length hsigi.out
            rw [List.length_map, List.length_take] at this
            simp [MatV.L] at this
            exact this
          have hL : m.L.take m.rows.length = m.L := List.take_of_length_le (by simp [MatV.L])
          have HKEY : Hid ((⟨m.step, m.branch, A', c', rows⟩ : MatV).key = m.key) := Lib.hid (by
            unfold MatV.key
            have : (⟨m.step, m.branch, A', c', rows⟩ : MatV).L = m.L := by rw [← hL]; exact hsigi.out
            rw [this])
          clear hL hsigi
          have q1 := q0.old hbi
          have d0 := q1.cell 0
          have d1 := q1.cell 1
          have d2 := q1.cell 2
          have f2 := q1.frozen 2
          have q5 : Bk (wi.setCell ⟨wo.heap.size, 2, none⟩ (.slice A' m.rows.length c')) wo.heap.size 27 #[.int .i64 m.step, .int .i64 m.branch, .slice A' m.rows.length c'] := q1.put 2 _
          have p5 := own_set howni q1 (by decide) 2 (.slice A' m.rows.length c')
          have HE5 : Hid (∀ r ∈ rows, (wi.setCell ⟨wo.heap.size, 2, none⟩ (.slice A' m.rows.length c')).ownsRow W1.heap.size 3 1 (.slice r.A r.l.length r.c) r.l.length (ints r.l)) := Lib.hid fun r hr => own_set (heachi.out r hr) q1 (by decide) 2 _
          have hb5 : Below wo.heap.size wo (wi.setCell ⟨wo.heap.size, 2, none⟩ (.slice A' m.rows.length c')) := (hbA.trans (hbi.mono (by omega))).setCell (by show wo.heap.size ≤ wo.heap.size; omega) _
          go_upto_region 12 with fail
          clear d0 d1 d2 f2 q1 howni heachi hbi hbx q0 hbA
          generalize wi.setCell ⟨wo.heap.size, 2, none⟩ (.slice A' m.rows.length c') = W5 at *
          have hown5 := own_old hown hb5
          have HT5 : Hid (∀ t ∈ ts, OwnM W5 w.heap.size t) := Lib.hid fun t ht => (heach.out t ht).old hb5
          have d0 := q5.cell 0
          have d1 := q5.cell 1
          have d2 := q5.cell 2
          have hbel5 := hbel.trans (hb5.mono hws)
          have hw5 : w.heap.size ≤ W5.heap.size := hbel5.size
          have hzF : w.heap.size ≤ (W5.alloc (.cells #[.int .i64 m.step, .int .i64 m.branch, .slice A' m.rows.length c'] 27)).heap.size := by simp; omega
          clear hown heach hb5 hbel
          go_wp2_with (at_builtin; refine wpList_append_rd (by rfl) _ _ 22 (by rfl) w.heap.size 27 iM _ 3 40 Tryd.underlying22 hM hM0 hM1 hM2 rfl (by decide) (.slice A k c) k _ (by rfl) (hown5.alloc _) (W5.heap.size + 1) (some ⟨W5.heap.size, 0, none⟩) 1 1 [.int .i64 m.step, .int .i64 m.branch, .slice A' m.rows.length c'] (by rfl) (Rd.lit rfl _ _) (by rfl) ?c2 ?c3 ?c4 hzF ?_)
          case c2 => intro u hu; simp at hu; rcases hu with rfl | rfl | rfl <;> rfl
          case c3 => unfold maxLen; omega
          case c4 => omega
          intro A6 c6 w6 hown6 hg6 _
          have hbel6 : Below w.heap.size w w6 := below_own (hbel5.alloc hw5 _) (hown5.alloc _) (Nat.le_refl _) hg6 hzF
          have HT6 : Hid (∀ t ∈ ts ++ [(⟨m.step, m.branch, A', c', rows⟩ : MatV)], OwnM w6 w.heap.size t) := by
            refine Lib.hid fun t ht => ?_
            rcases List.mem_append.1 ht with ht | ht
            · exact ⟨own_keep ((HT5.out t ht).rows.alloc _) (hown5.alloc _) (by decide) hg6, fun r hr => own_keep (((HT5.out t ht).each r hr).alloc _) (hown5.alloc _) (by decide) hg6⟩
            · obtain rfl := List.mem_singleton.1 ht
              refine ⟨?_, fun r hr => own_mono (own_keep ((HE5.out r hr).alloc _) (hown5.alloc _) (by decide) hg6) (by omega)⟩
              show w6.ownsRow w.heap.size 29 1 (.slice A' rows.length c') rows.length (rows.flatMap RowV.cells)
              rw [hrl]
              exact own_mono (own_keep (p5.alloc _) (hown5.alloc _) (by decide) hg6) (by omega)
          have hown7 : w6.ownsRow w.heap.size 27 3 (.slice A6 (k + 1) c6) (k + 1) ((ts ++ [(⟨m.step, m.branch, A', c', rows⟩ : MatV)]).flatMap MatV.cells) := by
            rw [List.flatMap_append]
            show w6.ownsRow w.heap.size 27 3 (.slice A6 (k + 1) c6) (k + 1) (ts.flatMap MatV.cells ++ [.int .i64 m.step, .int .i64 m.branch, .slice A' rows.length c'])
            rw [hrl]
            exact hown6
          have HS : Hid ((ts ++ [(⟨m.step, m.branch, A', c', rows⟩ : MatV)]).map (·.key) = (ms.take (k + 1)).map (·.key)) := Lib.hid (by
            rw [List.map_append, hsig.out, HNX.out]
            show _ ++ [(⟨m.step, m.branch, A', c', rows⟩ : MatV).key] = _
            rw [HKEY.out])
          clear hown6 hg6 hown5 p5 HE5 HT5 hbel5 hzF hsig HNX HKEY d0 d1 d2 q5
          go_wp2
          go_roundw
          case rel => exact ⟨k + 1, A6, c6, ts ++ [(⟨m.step, m.branch, A', c', rows⟩ : MatV)], by omega, by first | rfl | trivial, by go_num, hbel6, HS, hown7, HT6⟩
          case measure => simp [intOf]; omega
    · as_aux_lemma =>
      obtain rfl : k = ms.length := by omega
      rw [List.take_length] at hsig
      go_wp2
      go_ret
      first | exact ⟨A, c, ts, rfl, hsig.out, hown, heach.out, hbel⟩ | exact ⟨A, c, rfl, ts, hsig.out, hown, heach.out, hbel⟩ | exact ⟨A, c, rfl, ⟨ts, hsig.out, hown, heach.out⟩, hbel⟩ | (trace_state; exact ⟨A, c, ts, rfl, hsig.out, hown, heach.out, hbel⟩)
end Go.Proofs.YtbopndepklafgaaDoor
