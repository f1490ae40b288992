/- Layer 10: which of two matches is ahead, by the program. No conditions. -/
import Derived.Test.YtbopndepklafgaaDoorMatA
import Derived.Deep.Cut
import Derived.Test.YtbopndepklafgaaDoorShW
namespace Go.Proofs.YtbopndepklafgaaDoor
open Go.RowKit
set_option maxRecDepth 10000
set_option linter.unusedVariables false
set_option linter.unusedSimpArgs false

/-- Rows of ints, compared. -/
def cmpL : List Int → List Int → Int
  | x :: a, y :: b => if Lib.compareInt x y = 0 then cmpL a b else Lib.compareInt x y
  | [], [] => 0
  | [], _ :: _ => -1
  | _ :: _, [] => 1
theorem cmp_drop (a b : List Int) (k : Nat) (ha : k < a.length) (hb : k < b.length) : cmpL (a.drop k) (b.drop k) = if Lib.compareInt a[k] b[k] = 0 then cmpL (a.drop (k + 1)) (b.drop (k + 1)) else Lib.compareInt a[k] b[k] := by
  rw [List.drop_eq_getElem_cons ha, List.drop_eq_getElem_cons hb]; rfl
theorem cmp_left (a b : List Int) (k : Nat) (ha : k < a.length) (hb : b.length ≤ k) : cmpL (a.drop k) (b.drop k) = 1 := by
  rw [List.drop_eq_getElem_cons ha, List.drop_eq_nil_of_le hb]; rfl
theorem cmp_right (a b : List Int) (k : Nat) (ha : a.length ≤ k) (hb : k < b.length) : cmpL (a.drop k) (b.drop k) = -1 := by
  rw [List.drop_eq_getElem_cons hb, List.drop_eq_nil_of_le ha]; rfl
theorem cmp_end (a b : List Int) (k : Nat) (ha : a.length ≤ k) (hb : b.length ≤ k) : cmpL (a.drop k) (b.drop k) = 0 := by
  rw [List.drop_eq_nil_of_le hb, List.drop_eq_nil_of_le ha]; rfl
def ordL : List (List Int) → List (List Int) → Int
  | x :: a, y :: b => if cmpL x y = 0 then ordL a b else cmpL x y
  | [], [] => 0
  | [], _ :: _ => -1
  | _ :: _, [] => 1
theorem ord_drop (a b : List (List Int)) (k : Nat) (ha : k < a.length) (hb : k < b.length) : ordL (a.drop k) (b.drop k) = if cmpL a[k] b[k] = 0 then ordL (a.drop (k + 1)) (b.drop (k + 1)) else cmpL a[k] b[k] := by
  rw [List.drop_eq_getElem_cons ha, List.drop_eq_getElem_cons hb]; rfl
theorem ord_end (a b : List (List Int)) (k : Nat) (h : a.length ≤ k ∨ b.length ≤ k) (ha : k ≤ a.length) (hb : k ≤ b.length) : ordL (a.drop k) (b.drop k) = Lib.compareInt a.length b.length := by
  by_cases h1 : k < a.length
  · rw [List.drop_eq_getElem_cons h1, List.drop_eq_nil_of_le (show b.length ≤ k by omega)]
    show (1 : Int) = _
    unfold Lib.compareInt
    rw [if_neg (by omega), if_pos (by omega)]
  · by_cases h2 : k < b.length
    · rw [List.drop_eq_getElem_cons h2, List.drop_eq_nil_of_le (show a.length ≤ k by omega)]
      show (-1 : Int) = _
      unfold Lib.compareInt
      rw [if_pos (by omega)]
    · rw [List.drop_eq_nil_of_le (by omega), List.drop_eq_nil_of_le (by omega)]
      show (0 : Int) = _
      unfold Lib.compareInt
      rw [if_neg (by omega), if_neg (by omega)]
def orderB (s b : Int) (L : List (List Int)) (s' b' : Int) (L' : List (List Int)) : Int :=
  if Lib.compareInt s s' = 0 then (if Lib.compareInt b b' = 0 then ordL L L' else Lib.compareInt b b') else Lib.compareInt s s'
def MatV.ord (m m' : MatV) : Int := orderB m.step m.branch m.L m'.step m'.branch m'.L

set_option maxRecDepth 100000 in
set_option maxHeartbeats 2000000 in
theorem cmpr_any (a b : RowV) (w : World) (ha : a.ok w w.heap.size) (hb : b.ok w w.heap.size) :
    Calls Tryd.prog 24 #[.slice a.A a.l.length a.c, .slice b.A b.l.length b.c] w fun r w' => r = .returned (.int .i64 (cmpL a.l b.l)) ∧ w' = w := by
  have HA := Lib.hid ha.rd
  have HB := Lib.hid hb.rd
  have hal := ha.len
  have hbl := hb.len
  obtain ⟨aA, ac, al⟩ := a
  obtain ⟨bA, bc, bl⟩ := b
  simp only at HA HB hal hbl ⊢
  clear ha hb
  obtain ⟨RES, hres⟩ : ∃ RES, cmpL al bl = RES := ⟨_, rfl⟩
  rw [hres]
  have HR := Lib.hid hres
  have HS := Lib.hid hres
  clear hres
  go_enter Tryd.func24, Tryd.ntmps24
  go_wp2
  go_loopw [11] (fun i wr => ∃ k : Nat, k ≤ al.length ∧ k ≤ bl.length ∧ i = .int .i64 k ∧ wr = w ∧ Hid (cmpL al bl = cmpL (al.drop k) (bl.drop k))) (fun i _ => al.length - (intOf i).toNat)
  case atStart => exact ⟨0, Nat.zero_le _, Nat.zero_le _, rfl, rfl, rfl⟩
  case round =>
    obtain ⟨k, hk, hk2, rfl, rfl, hrec⟩ := hrel
    by_cases hlt : k < al.length
    · obtain ⟨b1, o1, hA1, hb1, hc1⟩ := HA.out.elem1 hlt
      by_cases hlt2 : k < bl.length
      · as_aux_lemma =>
        obtain ⟨b2, o2, hA2, hb2, hc2⟩ := HB.out.elem1 hlt2
        have HN := Lib.hid ((HR.out.symm.trans hrec.out).trans (cmp_drop al bl k hlt hlt2))
        clear hrec HR
        rw [hA1, hA2]
        generalize al[k] = x at *
        generalize bl[k] = y at *
        go_wp2_with fail
        refine (Tryd.cmp_Compare_int x y _).mono ?_
        rintro r w2 ⟨rfl, rfl⟩
        generalize Lib.compareInt x y = z at *
        by_cases hz : z = 0
        · subst hz
          rw [if_pos rfl] at HN
          have HQ : Hid (cmpL al bl = cmpL (al.drop (k + 1)) (bl.drop (k + 1))) := Lib.hid (by rw [HS.out]; exact HN.out)
          go_wp2
          go_roundw
          case rel => exact ⟨k + 1, by omega, by omega, by go_num, by first | rfl | trivial, HQ⟩
          case measure => simp [intOf]; omega
        · rw [if_neg hz] at HN
          have hz2 : (z != 0) = true := by simpa using hz
          go_wp2
          go_ret
          exact ⟨ret_int HN.out.symm, rfl⟩
      · as_aux_lemma =>
        have HN := Lib.hid ((HR.out.symm.trans hrec.out).trans (cmp_left al bl k hlt (by omega)))
        clear hrec HR
        rw [hA1]
        generalize al[k] = x at *
        go_wp2
        go_ret
        exact ⟨ret_int HN.out.symm, rfl⟩
    · as_aux_lemma =>
      obtain rfl : k = al.length := by omega
      by_cases hlt2 : al.length < bl.length
      · have HN := Lib.hid ((HR.out.symm.trans hrec.out).trans (cmp_right al bl _ (Nat.le_refl _) hlt2))
        have hI : (al.length : Int) < (bl.length : Int) := by omega
        clear hrec HR
        go_wp2
        go_ret
        exact ⟨ret_int HN.out.symm, rfl⟩
      · have HN := Lib.hid ((HR.out.symm.trans hrec.out).trans (cmp_end al bl _ (Nat.le_refl _) (by omega)))
        have hI : ¬ (al.length : Int) < (bl.length : Int) := by omega
        clear hrec HR
        go_wp2
        go_ret
        exact ⟨ret_int HN.out.symm, rfl⟩
def ordR10 (m m' : MatV) (R1 R2 : RowV) (ab ao bb bo k : Nat) (w : World) : List Spec := [.is (.pointer (some ⟨w.heap.size, 2, none⟩)),
  .is (.slice (some ⟨ab, ao, none⟩) m.rows.length m.c),
  .is (.int .i64 (k : Nat)),
  .is (.pointer (some ⟨ab, ao + k, none⟩)),
  .is (.slice R1.A R1.l.length R1.c),
  .is (.pointer (some ⟨w.heap.size + 1, 2, none⟩)),
  .is (.slice (some ⟨bb, bo, none⟩) m'.rows.length m'.c),
  .is (.int .i64 (k : Nat)),
  .is (.pointer (some ⟨bb, bo + k, none⟩)),
  .is (.slice R2.A R2.l.length R2.c),
  .is (.int .i64 (cmpL R1.l R2.l)),
  .is (.int .i64 (cmpL R1.l R2.l))]
set_option maxRecDepth 100000 in
set_option maxHeartbeats 4000000 in
theorem ord_any (m m' : MatV) (w : World) (h : m.ok w w.heap.size) (h' : m'.ok w w.heap.size) :
    Calls Tryd.prog 13 #[m.val, m'.val] w fun r w' => r = .returned (.int .i64 (m.ord m')) ∧ Below w.heap.size w w' := by
  have HM := Lib.hid h
  have HM' := Lib.hid h'
  have hl := h.len
  have hl' := h'.len
  have x0 := (Bk.new w 27 #[.int .i64 m.step, .int .i64 m.branch, .slice m.A m.rows.length m.c]).alloc (.cells #[.int .i64 m'.step, .int .i64 m'.branch, .slice m'.A m'.rows.length m'.c] 27)
  have x1 := Bk.newAt (w := w.alloc (.cells #[.int .i64 m.step, .int .i64 m.branch, .slice m.A m.rows.length m.c] 27)) (g := w.heap.size + 1) (by simp) 27 #[.int .i64 m'.step, .int .i64 m'.branch, .slice m'.A m'.rows.length m'.c]
  have hbW : Below w.heap.size w ((w.alloc (.cells #[.int .i64 m.step, .int .i64 m.branch, .slice m.A m.rows.length m.c] 27)).alloc (.cells #[.int .i64 m'.step, .int .i64 m'.branch, .slice m'.A m'.rows.length m'.c] 27)) := ((Below.refl _ _).alloc (Nat.le_refl _) _).alloc (by simp) _
  clear h h'
  obtain ⟨RES, hres⟩ : ∃ RES, m.ord m' = RES := ⟨_, rfl⟩
  rw [hres]
  unfold MatV.ord orderB at hres
  have HR := Lib.hid hres
  clear hres
  unfold MatV.val
  go_enter Tryd.func13, Tryd.ntmps13
  have a0 := x0.cell 0
  have b0 := x1.cell 0
  go_wp2_with fail
  generalize (w.alloc (.cells #[.int .i64 m.step, .int .i64 m.branch, .slice m.A m.rows.length m.c] 27)).alloc (.cells #[.int .i64 m'.step, .int .i64 m'.branch, .slice m'.A m'.rows.length m'.c] 27) = W at *
  refine (Tryd.cmp_Compare_int _ _ _).mono ?_
  rintro r w2 ⟨rfl, rfl⟩
  clear a0 b0
  generalize Lib.compareInt m.step m'.step = z at *
  by_cases hz : z = 0
  case neg =>
    have hz2 : (z != 0) = true := by simpa using hz
    rw [if_neg hz] at HR
    go_wp2
    go_ret
    exact ⟨ret_int HR.out, hbW⟩
  subst hz
  rw [if_pos rfl] at HR
  have a1 := x0.cell 1
  have b1 := x1.cell 1
  go_wp2_with fail
  refine (Tryd.cmp_Compare_int _ _ _).mono ?_
  rintro r w3 ⟨rfl, rfl⟩
  clear a1 b1
  generalize Lib.compareInt m.branch m'.branch = z at *
  by_cases hz : z = 0
  case neg =>
    have hz2 : (z != 0) = true := by simpa using hz
    rw [if_neg hz] at HR
    go_wp2
    go_ret
    exact ⟨ret_int HR.out, hbW⟩
  subst hz
  rw [if_pos rfl] at HR
  have a2 := x0.cell 2
  have b2 := x1.cell 2
  have hmin : min (m.rows.length : Int) (m'.rows.length : Int) = ((min m.rows.length m'.rows.length : Nat) : Int) := by omega
  go_wp2
  clear a2 b2
  obtain ⟨N, hN⟩ : ∃ N, min m.rows.length m'.rows.length = N := ⟨_, rfl⟩
  rw [hN]
  have HN := Lib.hid hN
  clear hN hmin
  have hNl : N ≤ m.rows.length ∧ N ≤ m'.rows.length := by have := HN.out; omega
  obtain ⟨hN1, hN2⟩ := hNl
  go_loopw [32] (fun i wr => ∃ k : Nat, k ≤ N ∧ i = .int .i64 k ∧ Below w3.heap.size w3 wr ∧ Hid (ordL m.L m'.L = ordL (m.L.drop k) (m'.L.drop k))) (fun i _ => N - (intOf i).toNat)
  case atStart => exact ⟨0, Nat.zero_le _, rfl, Below.refl _ _, rfl⟩
  case round =>
    obtain ⟨k, hk, rfl, hbel, hrec⟩ := hrel
    obtain ⟨wl, rfl⟩ : ∃ wl : World, wl = wr := ⟨_, rfl⟩
    have hbe := hbW.trans (hbel.mono hbW.size)
    have y0 := x0.old hbel
    have y1 := x1.old hbel
    by_cases hlt : k < N
    · as_aux_lemma =>
      have hlt1 : k < m.rows.length := by omega
      have hlt2 : k < m'.rows.length := by omega
      obtain ⟨ab, ao, hA, hab, hac⟩ := (HM.out.rd.below hbe).elem (n := 1) (fun _ => rfl) (by omega) hlt1
      obtain ⟨bb, bo, hB', hbb, hbc⟩ := (HM'.out.rd.below hbe).elem (n := 1) (fun _ => rfl) (by omega) hlt2
      have r0 : wl.cell? ⟨ab, ao + k * 1, none⟩ = some (.slice m.rows[k].A m.rows[k].l.length m.rows[k].c) := hac 0 _ rfl
      have q0 : wl.cell? ⟨bb, bo + k * 1, none⟩ = some (.slice m'.rows[k].A m'.rows[k].l.length m'.rows[k].c) := hbc 0 _ rfl
      rw [Nat.mul_one] at r0 q0
      have hnx := ord_drop m.L m'.L k (by unfold MatV.L; simpa using hlt1) (by unfold MatV.L; simpa using hlt2)
      have e1 : m.L[k]'(by unfold MatV.L; simpa using hlt1) = m.rows[k].l := by simp [MatV.L]
      have e2 : m'.L[k]'(by unfold MatV.L; simpa using hlt2) = m'.rows[k].l := by simp [MatV.L]
      rw [e1, e2] at hnx
      have HNX := Lib.hid (hrec.out.trans hnx)
      have hR1 := Lib.hid (((HM.out.each m.rows[k] (List.getElem_mem _)).keep hbe hbe.size))
      have hR2 := Lib.hid (((HM'.out.each m'.rows[k] (List.getElem_mem _)).keep hbe hbe.size))
      clear hnx hrec hac hbc e1 e2
      generalize m.rows[k] = R1 at *
      generalize m'.rows[k] = R2 at *
      have s2 := y0.cell 2
      have u2 := y1.cell 2
      have hkI : (k : Int) < (m.rows.length : Int) := by omega
      have hkI2 : (k : Int) < (m'.rows.length : Int) := by omega
      rw [hA] at s2
      rw [hB'] at u2
      go_upto_region 10 with fail
      refine wp_region_b (by kernel_rfl) (fun qk => (ordR10 m m' R1 R2 ab ao bb bo k w).getD qk .any) (by kernel_rfl) ?_ ?_
      · refine BOk.cons rfl [] [2] rfl rfl (by kernel_rfl) (by kernel_rfl) (fun qK qa wr hB qO qF hK => ?_) ?_
        · have e2 : qa.tmps[2]? = some (.pointer (some ⟨w.heap.size, 0, none⟩)) := qO.1.trans rfl
          clear qO qF
          go_simp
          exact hK _ _ (Below.refl _ _) rfl
        refine BOk.cons rfl [0] [] rfl rfl (by kernel_rfl) (by kernel_rfl) (fun qK qa wr hB qO qF hK => ?_) ?_
        · have e35 : qa.tmps[35]? = some (.pointer (some ⟨w.heap.size, 2, none⟩)) := fis qF.1 rfl rfl
          clear qO qF
          have hs2 := (bcell hB _ _ (World.block_lt_of_cell? _ _ s2)).trans s2
          go_simp
          exact hK _ _ (Below.refl _ _) rfl
        refine BOk.cons rfl [] [7] rfl rfl (by kernel_rfl) (by kernel_rfl) (fun qK qa wr hB qO qF hK => ?_) ?_
        · have e7 : qa.tmps[7]? = some (.int .i64 (k : Nat)) := qO.1.trans rfl
          clear qO qF
          go_simp
          exact hK _ _ (Below.refl _ _) rfl
        refine BOk.cons rfl [1, 2] [] rfl rfl (by kernel_rfl) (by kernel_rfl) (fun qK qa wr hB qO qF hK => ?_) ?_
        · have e36 : qa.tmps[36]? = some (.slice (some ⟨ab, ao, none⟩) m.rows.length m.c) := fis qF.1 rfl rfl
          have e37 : qa.tmps[37]? = some (.int .i64 (k : Nat)) := fis qF.2.1 rfl rfl
          clear qO qF
          go_simp
          exact hK _ _ (Below.refl _ _) rfl
        refine BOk.cons rfl [3] [] rfl rfl (by kernel_rfl) (by kernel_rfl) (fun qK qa wr hB qO qF hK => ?_) ?_
        · have e38 : qa.tmps[38]? = some (.pointer (some ⟨ab, ao + k, none⟩)) := fis qF.1 rfl rfl
          clear qO qF
          have hr0 := (bcell hB _ _ (World.block_lt_of_cell? _ _ r0)).trans r0
          go_simp
          exact hK _ _ (Below.refl _ _) rfl
        refine BOk.cons rfl [] [3] rfl rfl (by kernel_rfl) (by kernel_rfl) (fun qK qa wr hB qO qF hK => ?_) ?_
        · have e3 : qa.tmps[3]? = some (.pointer (some ⟨w.heap.size + 1, 0, none⟩)) := qO.1.trans rfl
          clear qO qF
          go_simp
          exact hK _ _ (Below.refl _ _) rfl
        refine BOk.cons rfl [5] [] rfl rfl (by kernel_rfl) (by kernel_rfl) (fun qK qa wr hB qO qF hK => ?_) ?_
        · have e40 : qa.tmps[40]? = some (.pointer (some ⟨w.heap.size + 1, 2, none⟩)) := fis qF.1 rfl rfl
          clear qO qF
          have hu2 := (bcell hB _ _ (World.block_lt_of_cell? _ _ u2)).trans u2
          go_simp
          exact hK _ _ (Below.refl _ _) rfl
        refine BOk.cons rfl [] [7] rfl rfl (by kernel_rfl) (by kernel_rfl) (fun qK qa wr hB qO qF hK => ?_) ?_
        · have e7 : qa.tmps[7]? = some (.int .i64 (k : Nat)) := qO.1.trans rfl
          clear qO qF
          go_simp
          exact hK _ _ (Below.refl _ _) rfl
        refine BOk.cons rfl [6, 7] [] rfl rfl (by kernel_rfl) (by kernel_rfl) (fun qK qa wr hB qO qF hK => ?_) ?_
        · have e41 : qa.tmps[41]? = some (.slice (some ⟨bb, bo, none⟩) m'.rows.length m'.c) := fis qF.1 rfl rfl
          have e42 : qa.tmps[42]? = some (.int .i64 (k : Nat)) := fis qF.2.1 rfl rfl
          clear qO qF
          go_simp
          exact hK _ _ (Below.refl _ _) rfl
        refine BOk.cons rfl [8] [] rfl rfl (by kernel_rfl) (by kernel_rfl) (fun qK qa wr hB qO qF hK => ?_) ?_
        · have e43 : qa.tmps[43]? = some (.pointer (some ⟨bb, bo + k, none⟩)) := fis qF.1 rfl rfl
          clear qO qF
          have hq0 := (bcell hB _ _ (World.block_lt_of_cell? _ _ q0)).trans q0
          go_simp
          exact hK _ _ (Below.refl _ _) rfl
        refine BOk.cons rfl [4, 9] [] rfl rfl (by kernel_rfl) (by kernel_rfl) (fun qK qa wr hB qO qF hK => ?_) ?_
        · have e39 : qa.tmps[39]? = some (.slice R1.A R1.l.length R1.c) := fis qF.1 rfl rfl
          have e44 : qa.tmps[44]? = some (.slice R2.A R2.l.length R2.c) := fis qF.2.1 rfl rfl
          clear qO qF
          go_simp
          go_at_call 24
          refine (cmpr_any R1 R2 _ (hR1.out.old hB) (hR2.out.old hB)).mono ?_
          rintro e9 w9 ⟨rfl, rfl⟩
          exact hK _ _ (Below.refl _ _) rfl
        refine BOk.cons rfl [10] [] rfl rfl (by kernel_rfl) (by kernel_rfl) (fun qK qa wr hB qO qF hK => ?_) ?_
        · have e45 : qa.tmps[45]? = some (.int .i64 (cmpL R1.l R2.l)) := fis qF.1 rfl rfl
          clear qO qF
          go_simp
          exact hK _ _ (Below.refl _ _) rfl
        exact BOk.nil
      intro vals wr hl hB hR
      match vals, hl with
      | [z35, z36, z37, z38, z39, z40, z41, z42, z43, z44, z45, z8], _ =>
      have r11 : z8 = .int .i64 (cmpL R1.l R2.l) := hR 11 _ rfl
      subst r11
      clear hR
      simp only [List.cons_append, List.nil_append, putAll, Act.put, List.setIfInBounds_toArray, List.set_cons_zero, List.set_cons_succ]
      clear s2 u2 r0 q0
      have hbf := hbel.trans (hB.mono hbel.size)
      clear hB y0 y1 hbe hbel
      generalize cmpL R1.l R2.l = z at *
      by_cases hz : z = 0
      · subst hz
        rw [if_pos rfl] at HNX
        go_wp2
        go_roundw
        case rel => exact ⟨k + 1, by omega, by go_num, hbf, HNX⟩
        case measure => simp [intOf]; omega
      · have hz2 : (z != 0) = true := by simpa using hz
        rw [if_neg hz] at HNX
        go_wp2
        go_ret
        exact ⟨ret_int (HNX.out.symm.trans HR.out), hbW.trans (hbf.mono hbW.size)⟩
    · as_aux_lemma =>
      obtain rfl : k = N := by omega
      have hnx := ord_end m.L m'.L k (by unfold MatV.L; simp; have := HN.out; omega) (by unfold MatV.L; simpa using hN1) (by unfold MatV.L; simpa using hN2)
      have HNX := Lib.hid ((hrec.out.trans hnx).symm.trans HR.out)
      clear hnx hrec
      have e1 : m.L.length = m.rows.length := by simp [MatV.L]
      have e2 : m'.L.length = m'.rows.length := by simp [MatV.L]
      rw [e1, e2] at HNX
      clear e1 e2
      have s2 := y0.cell 2
      have u2 := y1.cell 2
      go_wp2_with fail
      refine (Tryd.cmp_Compare_int _ _ _).mono ?_
      rintro r w4 ⟨rfl, rfl⟩
      clear s2 u2
      go_wp2
      go_ret
      exact ⟨ret_int HNX.out, hbe⟩
end Go.Proofs.YtbopndepklafgaaDoor
