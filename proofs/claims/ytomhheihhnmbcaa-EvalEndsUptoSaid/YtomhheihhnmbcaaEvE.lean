/- Layer 9: the document's least and greatest. No conditions. -/
import Derived.Test.YtomhheihhnmbcaaEvD
import Derived.Deep.QuietTactic
import Derived.BigQuiet
namespace Go.Proofs.Ytomhheihhnmbcaa
open Go.RowKit
set_option linter.unusedVariables false
set_option linter.unusedSimpArgs false

def endStep (most : Bool) (best v : V) : V :=
  if v.k = 4 then ⟨best.k, rpickN best.b v.b most⟩
  else if (if most = true then decide (wrap64 best.b < wrap64 v.b) else decide (wrap64 v.b < wrap64 best.b)) = true then v else best
def endOk (k : Int) (v : V) : Bool := decide (v.k = k) && (decide (v.k = 1) || decide (v.k = 4))
def endV (most : Bool) : List V → V
  | [] => none0
  | x :: l => if (x :: l).all (endOk x.k) = true then (x :: l).foldl (endStep most) x else none0
theorem endV_cons (most : Bool) (x : V) (l : List V) : endV most (x :: l) = if (x :: l).all (endOk x.k) = true then (x :: l).foldl (endStep most) x else none0 := rfl
theorem rpick_lt (a b : Nat) (most : Bool) (ha : a < 18446744073709551616) (hb : b < 18446744073709551616) : rpickN a b most < 18446744073709551616 := by
  unfold rpickN nanC; repeat' split
  all_goals omega
theorem endStep_fits {most : Bool} {a b : V} (ha : a.fits) (hb : b.fits) : (endStep most a b).fits := by
  unfold endStep
  split
  · exact rpick_lt _ _ _ ha hb
  split
  all_goals (split <;> assumption)
theorem foldEnd_fits {most : Bool} : ∀ {l : List V} {x : V}, x.fits → (∀ y ∈ l, y.fits) → (l.foldl (endStep most) x).fits
  | [], x, hx, _ => hx
  | y :: l, x, hx, h => by rw [List.foldl_cons]; exact foldEnd_fits (endStep_fits hx (h y (by simp))) (fun z hz => h z (by simp [hz]))

set_option maxRecDepth 100000 in
set_option maxHeartbeats 4000000 in
theorem rend_any (x : V) (l0 : List V) (l : List V) (hl0 : l = x :: l0) (most : Bool) (b o c : Nat) (w : World) (hb : b < w.heap.size) (hc : ∀ (j : Nat) (u : Value), (l.flatMap V.cells)[j]? = some u → w.cell? ⟨b, o + j, none⟩ = some u) (hf : ∀ x ∈ l, x.fits) (hl : l.length ≤ 1048577) (hlc : l.length ≤ c) :
    Calls Try.prog 56 #[.slice (some ⟨b, o, none⟩) l.length c, .bool most] w fun e w' => e = .returned (endV most l).v ∧ Below w.heap.size w w' := by
  have at_ : ∀ (w' : World), Below w.heap.size w w' → ∀ (k : Nat) (h : k < l.length), w'.cell? ⟨b, o + k * 2, none⟩ = some (.int .i64 l[k].k) ∧ w'.cell? ⟨b, o + k * 2 + 1, none⟩ = some (.int .u64 l[k].b) := by
    intro w' hw k h
    have e0 := flat_at (n := 2) V.cells (fun _ => rfl) l k 0 h (by omega)
    have e1 := flat_at (n := 2) V.cells (fun _ => rfl) l k 1 h (by omega)
    exact ⟨(bcell hw _ _ hb).trans (hc _ _ e0), (bcell hw _ _ hb).trans (by have := hc _ _ e1; rwa [← Nat.add_assoc] at this)⟩
  have hx0 : 0 < l.length := by rw [hl0]; simp
  have ex : l[0] = x := by subst hl0; rfl
  have at0 : ∀ (w' : World), Below w.heap.size w w' → w'.cell? ⟨b, o, none⟩ = some (.int .i64 x.k) ∧ w'.cell? ⟨b, o + 1, none⟩ = some (.int .u64 x.b) := by
    intro w' hw
    have := at_ w' hw 0 hx0
    rw [ex, Nat.zero_mul, Nat.add_zero] at this
    exact this
  have AT := Lib.hid at_
  have AT0 := Lib.hid at0
  have HF := Lib.hid hf
  clear at_ at0 hc hf ex
  generalize hR : endV most l = R
  have HR := Lib.hid hR
  clear hR
  have HL0 := Lib.hid hl0
  clear hl0
  obtain ⟨q0, q1⟩ := AT0.out _ ((Below.refl _ _).alloc (Nat.le_refl _) (.cells #[.int .i64 0, .int .u64 0] 46))
  go_enter Try.func56, Try.ntmps56
  go_wp2_with fail
  go_loopw [13] (fun i wr => ∃ (k : Nat), k ≤ l.length ∧ i = .int .i64 k ∧ Below w.heap.size w wr ∧ Bk wr w.heap.size 46 #[.int .i64 0, .int .u64 0] ∧
      Bk wr (w.heap.size + 1) 46 #[.int .i64 ((l.take k).foldl (endStep most) x).k, .int .u64 ((l.take k).foldl (endStep most) x).b] ∧ Hid ((l.take k).all (endOk x.k) = true)) (fun i _ => l.length - (intOf i).toNat)
  case atStart =>
    refine ⟨0, Nat.zero_le _, rfl, ((Below.refl _ _).alloc (Nat.le_refl _) _).alloc (by simp) _, (Bk.new _ _ _).alloc _, ?_, Lib.hid (by simp)⟩
    exact Bk.newAt (by simp) _ _
  case round =>
    obtain ⟨k, hk, rfl, hbel, hb0, hb1, hall⟩ := hrel
    by_cases hlt : k < l.length
    · obtain ⟨c0, c1⟩ := AT.out _ hbel k hlt
      have hbs : (l.take k).foldl (endStep most) x = (l.take k).foldl (endStep most) x := rfl
      have hfit : ((l.take k).foldl (endStep most) x).fits := foldEnd_fits (HF.out x (by rw [HL0.out]; simp)) (fun y hy => HF.out y (List.mem_of_mem_take hy))
      have hnext : (l.take (k + 1)).foldl (endStep most) x = endStep most ((l.take k).foldl (endStep most) x) l[k] := by rw [List.take_succ_eq_append_getElem hlt, List.foldl_append]; rfl
      have hyf := HF.out l[k] (List.getElem_mem hlt)
      have hallN : endOk x.k l[k] = true → (l.take (k + 1)).all (endOk x.k) = true := by intro h; rw [List.take_succ_eq_append_getElem hlt, List.all_append, hall.out]; simp [h]
      have hbad : endOk x.k l[k] = false → R = none0 := by
        intro h
        rw [← HR.out, HL0.out, endV_cons, if_neg]
        intro ha
        rw [← HL0.out] at ha
        have := List.all_eq_true.1 ha l[k] (List.getElem_mem hlt)
        rw [h] at this; cases this
      have HN := Lib.hid hnext
      have HAN := Lib.hid hallN
      have HB := Lib.hid hbad
      clear hnext hallN hbad hbs
      generalize hB : (l.take k).foldl (endStep most) x = Bs at *
      generalize hY : l[k] = Y at *
      obtain ⟨q0, q1⟩ := AT0.out _ (hbel.alloc (by have := hbel.size; omega) (.cells #[.int .i64 Y.k, .int .u64 Y.b] 46))
      have hz := hb1.lt
      have r0 : (wr.alloc (.cells #[.int .i64 Y.k, .int .u64 Y.b] 46)).cell? ⟨wr.heap.size, 0, none⟩ = some (.int .i64 Y.k) := (Bk.new wr 46 #[.int .i64 Y.k, .int .u64 Y.b]).cell 0
      have r1 : (wr.alloc (.cells #[.int .i64 Y.k, .int .u64 Y.b] 46)).cell? ⟨wr.heap.size, 1, none⟩ = some (.int .u64 Y.b) := (Bk.new wr 46 #[.int .i64 Y.k, .int .u64 Y.b]).cell 1
      by_cases hk1 : (Y.k != x.k) = true
      · as_aux_lemma =>
        have hR0 : R = none0 := HB.out (by unfold endOk; have : ¬ Y.k = x.k := by simpa using hk1
                                           simp [this])
        go_wp2_with fail
        go_quiet (fail)
        have kr : Bk ((wr.alloc (.cells #[.int .i64 Y.k, .int .u64 Y.b] 46)).drewN nq) w.heap.size 46 #[.int .i64 0, .int .u64 0] := hb0.alloc _
        have hbe : Below w.heap.size w ((wr.alloc (.cells #[.int .i64 Y.k, .int .u64 Y.b] 46)).drewN nq) := below_drewN (hbel.alloc (by omega) _) _
        obtain ⟨e0, e1, f0, f1⟩ := vcells kr
        obtain ⟨d0, d1, _, _⟩ := vcells (vput kr (.int .i64 0) (.int .u64 0))
        clear kr c0 c1 q0 q1 r0 r1
        go_wp2_with fail
        exact bodyPost_ret (v := .agg #[.int .i64 0, .int .u64 0]) (by simp [results, Try.results56, go_sem, d0, d1]) rfl ⟨by rw [hR0]; rfl, (hbe.setCell (Nat.le_refl _) _).setCell (Nat.le_refl _) _⟩
      · have hk1 : (Y.k != x.k) = false := by simpa using hk1
        have hkk : Y.k = x.k := by simpa using hk1
        by_cases hk4 : Y.k = 4
        · as_aux_lemma =>
          have g2 : (Y.k != 1) = true := by rw [bne_iff_ne]; omega
          have g3 : (Y.k != 4) = false := by rw [bne_eq_false_iff_eq]; exact hk4
          have g4 : (Y.k == 4) = true := by rw [beq_iff_eq]; exact hk4
          have hst : endStep most Bs Y = ⟨Bs.k, rpickN Bs.b Y.b most⟩ := if_pos hk4
          have hok : endOk x.k Y = true := by unfold endOk; rw [← hkk, hk4]; rfl
          have hpick := rpick_any Bs.b Y.b most hfit hyf
          generalize rpickN Bs.b Y.b most = pk at *
          have hP := Lib.hid hpick
          have HK4 := Lib.hid hk4
          have HKK := Lib.hid hkk
          clear hpick hk4 hkk
          go_wp2_with fail
          go_quiet (fail)
          have kr0 : Bk ((wr.alloc (.cells #[.int .i64 Y.k, .int .u64 Y.b] 46)).drewN nq) w.heap.size 46 #[.int .i64 0, .int .u64 0] := hb0.alloc _
          have kr : Bk ((wr.alloc (.cells #[.int .i64 Y.k, .int .u64 Y.b] 46)).drewN nq) (w.heap.size + 1) 46 #[.int .i64 Bs.k, .int .u64 Bs.b] := hb1.alloc _
          have kv : Bk ((wr.alloc (.cells #[.int .i64 Y.k, .int .u64 Y.b] 46)).drewN nq) wr.heap.size 46 #[.int .i64 Y.k, .int .u64 Y.b] := Bk.new _ _ _
          have hbe : Below w.heap.size w ((wr.alloc (.cells #[.int .i64 Y.k, .int .u64 Y.b] 46)).drewN nq) := below_drewN (hbel.alloc (by omega) _) _
          obtain ⟨e0, e1, f0, f1⟩ := vcells kr
          obtain ⟨v0, v1, _, _⟩ := vcells kv
          clear c0 c1 q0 q1 r0 r1
          go_wp2_with fail
          refine (hP.out _).mono ?_
          rintro e w' ⟨rfl, rfl⟩
          go_wp2_with fail
          go_roundw
          case rel =>
            refine ⟨k + 1, by omega, by go_num, hbe.setCell (by simp) _, kr0.far (by simp) _, ?_, Lib.hid (HAN.out hok)⟩
            rw [HN.out, hst]
            exact kr.put 1 _
          case measure => simp [intOf]; omega
        · by_cases hk1' : Y.k = 1
          · have g2 : (Y.k != 1) = false := by rw [bne_eq_false_iff_eq]; exact hk1'
            have g4 : (Y.k == 4) = false := by rw [beq_eq_false_iff_ne]; exact hk4
            have hok : endOk x.k Y = true := by unfold endOk; rw [← hkk, hk1']; rfl
            have hst : endStep most Bs Y = if (if most = true then decide (wrap64 Bs.b < wrap64 Y.b) else decide (wrap64 Y.b < wrap64 Bs.b)) = true then Y else Bs := if_neg hk4
            have HS := Lib.hid hst
            clear hkk hk4 hk1' hst
            go_wp2_with fail
            go_quiet (fail)
            have kr0 : Bk ((wr.alloc (.cells #[.int .i64 Y.k, .int .u64 Y.b] 46)).drewN nq) w.heap.size 46 #[.int .i64 0, .int .u64 0] := hb0.alloc _
            have kr : Bk ((wr.alloc (.cells #[.int .i64 Y.k, .int .u64 Y.b] 46)).drewN nq) (w.heap.size + 1) 46 #[.int .i64 Bs.k, .int .u64 Bs.b] := hb1.alloc _
            have kv : Bk ((wr.alloc (.cells #[.int .i64 Y.k, .int .u64 Y.b] 46)).drewN nq) wr.heap.size 46 #[.int .i64 Y.k, .int .u64 Y.b] := Bk.new _ _ _
            have hbe : Below w.heap.size w ((wr.alloc (.cells #[.int .i64 Y.k, .int .u64 Y.b] 46)).drewN nq) := below_drewN (hbel.alloc (by omega) _) _
            obtain ⟨e0, e1, f0, f1⟩ := vcells kr
            obtain ⟨v0, v1, _, _⟩ := vcells kv
            clear c0 c1 q0 q1 r0 r1
            have hst := HS.out
            clear HS
            by_cases hc : (if most = true then decide (wrap64 Bs.b < wrap64 Y.b) else decide (wrap64 Y.b < wrap64 Bs.b)) = true
            · rw [if_pos hc] at hst
              have hst := Lib.hid hst
              cases most
              · as_aux_lemma =>
                simp at hc
                go_wp2_with fail
                go_roundw
                case rel =>
                  refine ⟨k + 1, by omega, by go_num, (hbe.setCell (by simp) _).setCell (by simp) _, (kr0.far (by simp) _).far (by simp) _, ?_, Lib.hid (HAN.out hok)⟩
                  rw [HN.out, hst.out]
                  exact (kr.put 0 _).put 1 _
                case measure => simp [intOf]; omega
              · as_aux_lemma =>
                simp at hc
                go_wp2_with fail
                go_roundw
                case rel =>
                  refine ⟨k + 1, by omega, by go_num, (hbe.setCell (by simp) _).setCell (by simp) _, (kr0.far (by simp) _).far (by simp) _, ?_, Lib.hid (HAN.out hok)⟩
                  rw [HN.out, hst.out]
                  exact (kr.put 0 _).put 1 _
                case measure => simp [intOf]; omega
            · rw [if_neg hc] at hst
              have hst := Lib.hid hst
              cases most
              · as_aux_lemma =>
                simp at hc
                go_wp2_with fail
                go_roundw
                case rel =>
                  refine ⟨k + 1, by omega, by go_num, hbe, kr0, ?_, Lib.hid (HAN.out hok)⟩
                  rw [HN.out, hst.out]
                  exact kr
                case measure => simp [intOf]; omega
              · as_aux_lemma =>
                rw [if_pos rfl] at hc
                have hc := of_decide_eq_false (Bool.eq_false_iff.2 hc)
                have hc : decide (wrap64 Bs.b < wrap64 Y.b) = false := decide_eq_false hc
                go_wp2_with fail
                go_roundw
                case rel =>
                  refine ⟨k + 1, by omega, by go_num, hbe, kr0, ?_, Lib.hid (HAN.out hok)⟩
                  rw [HN.out, hst.out]
                  exact kr
                case measure => simp [intOf]; omega
          · as_aux_lemma =>
            have g2 : (Y.k != 1) = true := by rw [bne_iff_ne]; exact hk1'
            have g3 : (Y.k != 4) = true := by rw [bne_iff_ne]; exact hk4
            have hR0 : R = none0 := HB.out (by unfold endOk; simp [hk1', hk4])
            clear hkk hk4 hk1'
            go_wp2_with fail
            go_quiet (fail)
            have kr : Bk ((wr.alloc (.cells #[.int .i64 Y.k, .int .u64 Y.b] 46)).drewN nq) w.heap.size 46 #[.int .i64 0, .int .u64 0] := hb0.alloc _
            have hbe : Below w.heap.size w ((wr.alloc (.cells #[.int .i64 Y.k, .int .u64 Y.b] 46)).drewN nq) := below_drewN (hbel.alloc (by omega) _) _
            obtain ⟨e0, e1, f0, f1⟩ := vcells kr
            obtain ⟨d0, d1, _, _⟩ := vcells (vput kr (.int .i64 0) (.int .u64 0))
            clear kr c0 c1 q0 q1 r0 r1
            go_wp2_with fail
            exact bodyPost_ret (v := .agg #[.int .i64 0, .int .u64 0]) (by simp [results, Try.results56, go_sem, d0, d1]) rfl ⟨by rw [hR0]; rfl, (hbe.setCell (Nat.le_refl _) _).setCell (Nat.le_refl _) _⟩
    · as_aux_lemma =>
      obtain rfl : k = l.length := by omega
      rw [List.take_length] at hb1 hall
      have hRv : R = l.foldl (endStep most) x := by
        have := HR.out
        rw [← this, HL0.out, endV_cons, if_pos]
        rw [← HL0.out]; exact hall.out
      rw [← hRv] at hb1
      clear hRv hall
      obtain ⟨e0, e1, f0, f1⟩ := vcells hb0
      obtain ⟨v0, v1, _, _⟩ := vcells hb1
      obtain ⟨d0, d1, _, _⟩ := vcells (vput hb0 (.int .i64 R.k) (.int .u64 R.b))
      go_wp2_with fail
      exact bodyPost_ret (v := .agg #[.int .i64 R.k, .int .u64 R.b]) (by simp [results, Try.results56, go_sem, d0, d1]) rfl ⟨rfl, (hbel.setCell (Nat.le_refl _) _).setCell (Nat.le_refl _) _⟩
end Go.Proofs.Ytomhheihhnmbcaa
