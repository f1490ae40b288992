/- Layer 10: which of two matches is ahead, by the document. No conditions. -/
import Derived.Test.YtbopndepklafgaaDoorMatF
namespace Go.Proofs.YtbopndepklafgaaDoor
open Go.RowKit
set_option maxRecDepth 10000
set_option linter.unusedVariables false
set_option linter.unusedSimpArgs false

set_option maxRecDepth 100000 in
theorem num_any (x y : Int) (w : World) : Calls Tryd.prog 26 #[.int .i64 x, .int .i64 y] w fun r w' => r = .returned (.int .i64 (Lib.compareInt x y)) ∧ w' = w := by
  unfold Lib.compareInt
  by_cases h1 : x < y
  · rw [if_pos h1]
    go_enter Tryd.func26, Tryd.ntmps26
    go_wp2
    go_ret
    exact ⟨rfl, rfl⟩
  · rw [if_neg h1]
    by_cases h2 : x > y
    · rw [if_pos h2]
      have h3 : y < x := h2
      go_enter Tryd.func26, Tryd.ntmps26
      go_wp2
      go_ret
      exact ⟨rfl, rfl⟩
    · rw [if_neg h2]
      have h3 : ¬ y < x := h2
      go_enter Tryd.func26, Tryd.ntmps26
      go_wp2
      go_ret
      exact ⟨rfl, rfl⟩
theorem cmp_fin (a b : List Int) (k : Nat) (h : a.length ≤ k ∨ b.length ≤ k) (ha : k ≤ a.length) (hb : k ≤ b.length) : cmpL (a.drop k) (b.drop k) = Lib.compareInt a.length b.length := by
  unfold Lib.compareInt
  by_cases h1 : k < a.length
  · rw [cmp_left a b k h1 (by omega), if_neg (by omega), if_pos (by omega)]
  · by_cases h2 : k < b.length
    · rw [cmp_right a b k (by omega) h2, if_pos (by omega)]
    · rw [cmp_end a b k (by omega) (by omega), if_neg (by omega), if_neg (by omega)]
def orElse (c z : Int) : Int := if c = 0 then z else c
theorem or_zero (z : Int) : orElse 0 z = z := rfl
theorem or_self (c : Int) (h : ¬ c = 0) (z : Int) : orElse c z = c := by unfold orElse; rw [if_neg h]
def rorR7 (m m' : MatV) (R1 R2 : RowV) (ab ao bb bo k : Nat) (w : World) : List Spec := [.is (.pointer (some ⟨w.heap.size, 2, none⟩)),
  .is (.slice (some ⟨ab, ao, none⟩) m.rows.length m.c),
  .is (.int .i64 (k : Nat)),
  .is (.pointer (some ⟨ab, ao + k, none⟩)),
  .is (.slice R1.A R1.l.length R1.c),
  .is (.pointer (some ⟨w.heap.size + 1, 2, none⟩)),
  .is (.slice (some ⟨bb, bo, none⟩) m'.rows.length m'.c),
  .is (.int .i64 (k : Nat)),
  .is (.pointer (some ⟨bb, bo + k, none⟩)),
  .is (.slice R2.A R2.l.length R2.c),
  .is (.slice R1.A R1.l.length R1.c),
  .is (.slice R2.A R2.l.length R2.c)]
def rorR11 (R1 R2 : RowV) (b1 o1 b2 o2 j : Nat) (x y : Int) : List Spec := [.is (.slice (some ⟨b1, o1, none⟩) R1.l.length R1.c),
  .is (.int .i64 (j : Nat)),
  .is (.pointer (some ⟨b1, o1 + j, none⟩)),
  .is (.int .i64 x),
  .is (.slice (some ⟨b2, o2, none⟩) R2.l.length R2.c),
  .is (.int .i64 (j : Nat)),
  .is (.pointer (some ⟨b2, o2 + j, none⟩)),
  .is (.int .i64 y),
  .is (.int .i64 (Lib.compareInt x y)),
  .is (.int .i64 (Lib.compareInt x y))]
set_option maxRecDepth 100000 in
set_option maxHeartbeats 8000000 in
theorem rord_any (m m' : MatV) (w : World) (h : m.ok w w.heap.size) (h' : m'.ok w w.heap.size) :
    Calls Tryd.prog 16 #[m.val, m'.val] w fun r w' => r = .returned (.int .i64 (m.ord m')) ∧ Below w.heap.size w w' := by
  have HM := Lib.hid h
  have HM' := Lib.hid h'
  have hl := h.len
  have hl' := h'.len
  have x0 := (Bk.new w 27 #[.int .i64 m.step, .int .i64 m.branch, .slice m.A m.rows.length m.c]).alloc (.cells #[.int .i64 m'.step, .int .i64 m'.branch, .slice m'.A m'.rows.length m'.c] 27)
  have x1 := Bk.newAt (w := w.alloc (.cells #[.int .i64 m.step, .int .i64 m.branch, .slice m.A m.rows.length m.c] 27)) (g := w.heap.size + 1) (by simp) 27 #[.int .i64 m'.step, .int .i64 m'.branch, .slice m'.A m'.rows.length m'.c]
  have hbW : Below w.heap.size w ((w.alloc (.cells #[.int .i64 m.step, .int .i64 m.branch, .slice m.A m.rows.length m.c] 27)).alloc (.cells #[.int .i64 m'.step, .int .i64 m'.branch, .slice m'.A m'.rows.length m'.c] 27)) := ((Below.refl _ _).alloc (Nat.le_refl _) _).alloc (by simp) _
  clear h h'
  obtain ⟨RES, hres⟩ : ∃ RES, m.ord m' = RES := ⟨_, rfl⟩
  rw [hres]
  unfold MatV.ord orderB at hres
  have HR : Hid (orElse (orElse (Lib.compareInt m.step m'.step) (Lib.compareInt m.branch m'.branch)) (ordL m.L m'.L) = RES) := Lib.hid (by
    rw [← hres]; unfold orElse
    by_cases e1 : Lib.compareInt m.step m'.step = 0
    · rw [if_pos e1, if_pos e1]
    · rw [if_neg e1, if_neg e1, if_neg e1])
  clear hres
  unfold MatV.val
  go_enter Tryd.func16, Tryd.ntmps16
  have a0 := x0.cell 0
  have b0 := x1.cell 0
  go_wp2_with fail
  generalize (w.alloc (.cells #[.int .i64 m.step, .int .i64 m.branch, .slice m.A m.rows.length m.c] 27)).alloc (.cells #[.int .i64 m'.step, .int .i64 m'.branch, .slice m'.A m'.rows.length m'.c] 27) = W at *
  refine (num_any _ _ _).mono ?_
  rintro r w2 ⟨rfl, rfl⟩
  clear a0 b0
  generalize Lib.compareInt m.step m'.step = z at *
  by_cases hz : z = 0
  case' pos =>
    subst hz
    rw [or_zero] at HR
    have a1 := x0.cell 1
    have b1 := x1.cell 1
    go_wp2_with fail
    refine (num_any _ _ _).mono ?_
    rintro r w3 ⟨rfl, rfl⟩
    clear a1 b1
    generalize Lib.compareInt m.branch m'.branch = z at *
    go_wp2
  case' neg =>
    have hz2 : (z == 0) = false := by simpa using hz
    rw [or_self z hz] at HR
    go_wp2
    clear hz2 hz
    obtain ⟨w3, rfl⟩ : ∃ w3 : World, w3 = w2 := ⟨_, rfl⟩
  all_goals
    go_loopw [5, 6] (fun cc i wr => ∃ (k : Nat) (c : Int), k ≤ m.rows.length ∧ k ≤ m'.rows.length ∧ cc = .int .i64 c ∧ i = .int .i64 k ∧ Below w3.heap.size w3 wr ∧ Hid (orElse c (ordL (m.L.drop k) (m'.L.drop k)) = RES) ∧ Hid (c = 0 ∨ ¬ c = 0)) (fun _ i _ => m.rows.length - (intOf i).toNat)
    case atStart => exact ⟨0, z, Nat.zero_le _, Nat.zero_le _, rfl, rfl, Below.refl _ _, HR, Lib.hid (by omega)⟩
    case round =>
      clear HR
      obtain ⟨k, c, hk, hk', rfl, rfl, hbel, hrec, -⟩ := hrel
      obtain ⟨wl, rfl⟩ : ∃ wl : World, wl = wr := ⟨_, rfl⟩
      have hbe := hbW.trans (hbel.mono hbW.size)
      have y0 := x0.old hbel
      have y1 := x1.old hbel
      have s2 := y0.cell 2
      have u2 := y1.cell 2
      by_cases hc : c = 0
      case neg =>
        as_aux_lemma =>
        have hc2 : (c == 0) = false := by simpa using hc
        rw [or_self c hc] at hrec
        go_wp2
        go_ret
        exact ⟨ret_int hrec.out, hbe⟩
      subst hc
      rw [or_zero] at hrec
      by_cases hlt : k < m.rows.length ∧ k < m'.rows.length
      case neg =>
        as_aux_lemma =>
        have hnx := ord_end m.L m'.L k (by simp [MatV.L]; omega) (by simpa [MatV.L] using hk) (by simpa [MatV.L] using hk')
        have e1 : m.L.length = m.rows.length := by simp [MatV.L]
        have e2 : m'.L.length = m'.rows.length := by simp [MatV.L]
        rw [e1, e2] at hnx
        have HNX := Lib.hid (hnx.symm.trans hrec.out)
        clear hnx hrec e1 e2
        by_cases hlt1 : k < m.rows.length
        case' pos =>
          have hkI : (k : Int) < (m.rows.length : Int) := by omega
          have hkI2 : ¬ (k : Int) < (m'.rows.length : Int) := by omega
          clear hlt hlt1
        case' neg =>
          have hkI : ¬ (k : Int) < (m.rows.length : Int) := by omega
          have hkI2 : 0 ≤ (0 : Int) := by omega
          clear hlt hlt1
        all_goals
          go_wp2_with fail
          refine (num_any _ _ _).mono ?_
          rintro r w4 ⟨rfl, rfl⟩
          clear hkI hkI2 s2 u2
          go_wp2
          go_ret
          exact ⟨ret_int HNX.out, hbe⟩
      · as_aux_lemma =>
        obtain ⟨hlt1, hlt2⟩ := hlt
        obtain ⟨ab, ao, hA, hab, hac⟩ := (HM.out.rd.below hbe).elem (n := 1) (fun _ => rfl) (by omega) hlt1
        obtain ⟨bb, bo, hB', hbb, hbc⟩ := (HM'.out.rd.below hbe).elem (n := 1) (fun _ => rfl) (by omega) hlt2
        have r0 : wl.cell? ⟨ab, ao + k * 1, none⟩ = some (.slice m.rows[k].A m.rows[k].l.length m.rows[k].c) := hac 0 _ rfl
        have q0 : wl.cell? ⟨bb, bo + k * 1, none⟩ = some (.slice m'.rows[k].A m'.rows[k].l.length m'.rows[k].c) := hbc 0 _ rfl
        rw [Nat.mul_one] at r0 q0
        have hnx := ord_drop m.L m'.L k (by unfold MatV.L; simpa using hlt1) (by unfold MatV.L; simpa using hlt2)
        have e1 : m.L[k]'(by unfold MatV.L; simpa using hlt1) = m.rows[k].l := by simp [MatV.L]
        have e2 : m'.L[k]'(by unfold MatV.L; simpa using hlt2) = m'.rows[k].l := by simp [MatV.L]
        rw [e1, e2] at hnx
        have HNX : Hid (orElse (cmpL m.rows[k].l m'.rows[k].l) (ordL (m.L.drop (k + 1)) (m'.L.drop (k + 1))) = RES) := Lib.hid (hnx.symm.trans hrec.out)
        have hR1 := Lib.hid (((HM.out.each m.rows[k] (List.getElem_mem _)).keep hbe hbe.size))
        have hR2 := Lib.hid (((HM'.out.each m'.rows[k] (List.getElem_mem _)).keep hbe hbe.size))
        clear hnx hrec hac hbc e1 e2
        generalize m.rows[k] = R1 at *
        generalize m'.rows[k] = R2 at *
        have hkI : (k : Int) < (m.rows.length : Int) := by omega
        have hkI2 : (k : Int) < (m'.rows.length : Int) := by omega
        have hrl1 := hR1.out.len
        have hrl2 := hR2.out.len
        rw [hA] at s2
        rw [hB'] at u2
        clear hA hB'
        go_upto_region 7 with fail
        refine wp_region_b (by kernel_rfl) (fun qk => (rorR7 m m' R1 R2 ab ao bb bo k w).getD qk .any) (by kernel_rfl) ?_ ?_
        · refine BOk.cons rfl [] [2] rfl rfl (by kernel_rfl) (by kernel_rfl) (fun qK qa wr hB qO qF hK => ?_) ?_
          · have e2 : qa.tmps[2]? = some (.pointer (some ⟨w.heap.size, 0, none⟩)) := qO.1.trans rfl
            clear qO qF
            go_simp
            exact hK _ _ (Below.refl _ _) rfl
          refine BOk.cons rfl [0] [] rfl rfl (by kernel_rfl) (by kernel_rfl) (fun qK qa wr hB qO qF hK => ?_) ?_
          · have e40 : qa.tmps[40]? = some (.pointer (some ⟨w.heap.size, 2, none⟩)) := fis qF.1 rfl rfl
            clear qO qF
            have hs2 := (bcell hB _ _ (World.block_lt_of_cell? _ _ s2)).trans s2
            go_simp
            exact hK _ _ (Below.refl _ _) rfl
          refine BOk.cons rfl [] [6] rfl rfl (by kernel_rfl) (by kernel_rfl) (fun qK qa wr hB qO qF hK => ?_) ?_
          · have e6 : qa.tmps[6]? = some (.int .i64 (k : Nat)) := qO.1.trans rfl
            clear qO qF
            go_simp
            exact hK _ _ (Below.refl _ _) rfl
          refine BOk.cons rfl [1, 2] [] rfl rfl (by kernel_rfl) (by kernel_rfl) (fun qK qa wr hB qO qF hK => ?_) ?_
          · have e41 : qa.tmps[41]? = some (.slice (some ⟨ab, ao, none⟩) m.rows.length m.c) := fis qF.1 rfl rfl
            have e42 : qa.tmps[42]? = some (.int .i64 (k : Nat)) := fis qF.2.1 rfl rfl
            clear qO qF
            go_simp
            exact hK _ _ (Below.refl _ _) rfl
          refine BOk.cons rfl [3] [] rfl rfl (by kernel_rfl) (by kernel_rfl) (fun qK qa wr hB qO qF hK => ?_) ?_
          · have e43 : qa.tmps[43]? = some (.pointer (some ⟨ab, ao + k, none⟩)) := fis qF.1 rfl rfl
            clear qO qF
            have hr0 := (bcell hB _ _ (World.block_lt_of_cell? _ _ r0)).trans r0
            go_simp
            exact hK _ _ (Below.refl _ _) rfl
          refine BOk.cons rfl [] [3] rfl rfl (by kernel_rfl) (by kernel_rfl) (fun qK qa wr hB qO qF hK => ?_) ?_
          · have e3 : qa.tmps[3]? = some (.pointer (some ⟨w.heap.size + 1, 0, none⟩)) := qO.1.trans rfl
            clear qO qF
            go_simp
            exact hK _ _ (Below.refl _ _) rfl
          refine BOk.cons rfl [5] [] rfl rfl (by kernel_rfl) (by kernel_rfl) (fun qK qa wr hB qO qF hK => ?_) ?_
          · have e45 : qa.tmps[45]? = some (.pointer (some ⟨w.heap.size + 1, 2, none⟩)) := fis qF.1 rfl rfl
            clear qO qF
            have hu2 := (bcell hB _ _ (World.block_lt_of_cell? _ _ u2)).trans u2
            go_simp
            exact hK _ _ (Below.refl _ _) rfl
          refine BOk.cons rfl [] [6] rfl rfl (by kernel_rfl) (by kernel_rfl) (fun qK qa wr hB qO qF hK => ?_) ?_
          · have e6 : qa.tmps[6]? = some (.int .i64 (k : Nat)) := qO.1.trans rfl
            clear qO qF
            go_simp
            exact hK _ _ (Below.refl _ _) rfl
          refine BOk.cons rfl [6, 7] [] rfl rfl (by kernel_rfl) (by kernel_rfl) (fun qK qa wr hB qO qF hK => ?_) ?_
          · have e46 : qa.tmps[46]? = some (.slice (some ⟨bb, bo, none⟩) m'.rows.length m'.c) := fis qF.1 rfl rfl
            have e47 : qa.tmps[47]? = some (.int .i64 (k : Nat)) := fis qF.2.1 rfl rfl
            clear qO qF
            go_simp
            exact hK _ _ (Below.refl _ _) rfl
          refine BOk.cons rfl [8] [] rfl rfl (by kernel_rfl) (by kernel_rfl) (fun qK qa wr hB qO qF hK => ?_) ?_
          · have e48 : qa.tmps[48]? = some (.pointer (some ⟨bb, bo + k, none⟩)) := fis qF.1 rfl rfl
            clear qO qF
            have hq0 := (bcell hB _ _ (World.block_lt_of_cell? _ _ q0)).trans q0
            go_simp
            exact hK _ _ (Below.refl _ _) rfl
          refine BOk.cons rfl [4] [] rfl rfl (by kernel_rfl) (by kernel_rfl) (fun qK qa wr hB qO qF hK => ?_) ?_
          · have e44 : qa.tmps[44]? = some (.slice R1.A R1.l.length R1.c) := fis qF.1 rfl rfl
            clear qO qF
            go_simp
            exact hK _ _ (Below.refl _ _) rfl
          refine BOk.cons rfl [9] [] rfl rfl (by kernel_rfl) (by kernel_rfl) (fun qK qa wr hB qO qF hK => ?_) ?_
          · have e49 : qa.tmps[49]? = some (.slice R2.A R2.l.length R2.c) := fis qF.1 rfl rfl
            clear qO qF
            go_simp
            exact hK _ _ (Below.refl _ _) rfl
          exact BOk.nil
        intro vals wr hl hB hR
        match vals, hl with
        | [z40, z41, z42, z43, z44, z45, z46, z47, z48, z49, z7, z8], _ =>
        have r10 : z7 = .slice R1.A R1.l.length R1.c := hR 10 _ rfl
        subst r10
        have r11 : z8 = .slice R2.A R2.l.length R2.c := hR 11 _ rfl
        subst r11
        clear hR
        simp only [List.cons_append, List.nil_append, putAll, Act.put, List.setIfInBounds_toArray, List.set_cons_zero, List.set_cons_succ]
        clear s2 u2 r0 q0 hkI hkI2
        have hbf := hbel.trans (hB.mono hbel.size)
        have hS1 := Lib.hid (hR1.out.old hB)
        have hS2 := Lib.hid (hR2.out.old hB)
        have HCM : Hid (cmpL R1.l R2.l = orElse 0 (cmpL (R1.l.drop 0) (R2.l.drop 0))) := Lib.hid rfl
        clear hB y0 y1 hbe hbel hR1 hR2
        obtain ⟨wk, rfl⟩ : ∃ wk : World, wk = wr := ⟨_, rfl⟩
        go_wp2
        go_loopw [5, 9] (fun cc i wr => ∃ (j : Nat) (c : Int), j ≤ R1.l.length ∧ j ≤ R2.l.length ∧ cc = .int .i64 c ∧ i = .int .i64 j ∧ Below wk.heap.size wk wr ∧ Hid (cmpL R1.l R2.l = orElse c (cmpL (R1.l.drop j) (R2.l.drop j)))) (fun _ i _ => R1.l.length - (intOf i).toNat)
        case atStart => exact ⟨0, 0, Nat.zero_le _, Nat.zero_le _, rfl, rfl, Below.refl _ _, HCM⟩
        case round =>
          clear HCM
          obtain ⟨j, c, hj, hj', rfl, rfl, hbi, hrc⟩ := hrel
          obtain ⟨wi, rfl⟩ : ∃ wi : World, wi = wr := ⟨_, rfl⟩
          have hbg := hbf.trans (hbi.mono hbf.size)
          by_cases hc : c = 0
          case neg =>
            as_aux_lemma =>
            have hc2 : (c == 0) = false := by simpa using hc
            rw [or_self c hc] at hrc
            rw [hrc.out] at HNX
            clear hrc
            go_wp2
            go_roundw
            case rel => exact ⟨k + 1, c, by omega, by omega, rfl, by go_num, hbg, HNX, Lib.hid (by omega)⟩
            case measure => simp [intOf]; omega
          subst hc
          rw [or_zero] at hrc
          by_cases hlj : j < R1.l.length ∧ j < R2.l.length
          case neg =>
            rw [cmp_fin _ _ j (by omega) hj hj'] at hrc
            rw [hrc.out] at HNX
            clear hrc
            by_cases hlj1 : j < R1.l.length
            case' pos =>
              have hjI : (j : Int) < (R1.l.length : Int) := by omega
              have hjI2 : ¬ (j : Int) < (R2.l.length : Int) := by omega
              clear hlj hlj1
            case' neg =>
              have hjI : ¬ (j : Int) < (R1.l.length : Int) := by omega
              have hjI2 : 0 ≤ (0 : Int) := by omega
              clear hlj hlj1
            all_goals
              obtain ⟨c, hcc⟩ : ∃ c, Lib.compareInt (R1.l.length : Int) (R2.l.length : Int) = c := ⟨_, rfl⟩
              rw [hcc] at HNX
              have HNM : Hid (∀ W : World, Calls Tryd.prog 26 #[.int .i64 (R1.l.length : Int), .int .i64 (R2.l.length : Int)] W fun r w' => r = .returned (.int .i64 c) ∧ w' = W) := Lib.hid fun W => by
                have h := num_any (R1.l.length : Int) (R2.l.length : Int) W
                rw [hcc] at h
                exact h
              clear hcc
              go_wp2_with fail
              refine (HNM.out _).mono ?_
              rintro r w4 ⟨rfl, rfl⟩
              clear hjI hjI2 HNM
              go_wp2
              go_roundw
              case rel => first | exact ⟨k + 1, c, by omega, by omega, rfl, by go_num, hbg, HNX, Lib.hid (by omega)⟩ | exact ⟨k + 1, by omega, by omega, by go_num, hbg, HNX, Lib.hid (by omega)⟩ | exact ⟨k + 1, by omega, by omega, by omega, hbg, HNX, Lib.hid (by omega)⟩ | exact ⟨k + 1, by omega, by omega, by omega, HNX, Lib.hid (by omega)⟩ | exact ⟨k + 1, by omega, by omega, by omega, HNX⟩ | (refine ⟨k + 1, by omega, by omega, by omega, hbg, HNX, ?_⟩; exact Lib.hid (by omega))
              case measure => simp [intOf]; omega
          · as_aux_lemma =>
            obtain ⟨hlj1, hlj2⟩ := hlj
            obtain ⟨b1, o1, hA1, hb1, hc1⟩ := (hS1.out.rd.below hbi).elem1 hlj1
            obtain ⟨b2, o2, hA2, hb2, hc2⟩ := (hS2.out.rd.below hbi).elem1 hlj2
            have hnx := cmp_drop R1.l R2.l j hlj1 hlj2
            have HN2 : Hid (cmpL R1.l R2.l = orElse (Lib.compareInt R1.l[j] R2.l[j]) (cmpL (R1.l.drop (j + 1)) (R2.l.drop (j + 1)))) := Lib.hid (hrc.out.trans hnx)
            clear hnx hrc
            rw [hA1, hA2]
            generalize R1.l[j] = x at *
            generalize R2.l[j] = y at *
            have hjI : (j : Int) < (R1.l.length : Int) := by omega
            have hjI2 : (j : Int) < (R2.l.length : Int) := by omega
            go_upto_region 11 with fail
            refine wp_region_b (by kernel_rfl) (fun qk => (rorR11 R1 R2 b1 o1 b2 o2 j x y).getD qk .any) (by kernel_rfl) ?_ ?_
            · refine BOk.cons rfl [] [7] rfl rfl (by kernel_rfl) (by kernel_rfl) (fun qK qa wr hB qO qF hK => ?_) ?_
              · have e7 : qa.tmps[7]? = some (.slice (some ⟨b1, o1, none⟩) R1.l.length R1.c) := qO.1.trans rfl
                clear qO qF
                go_simp
                exact hK _ _ (Below.refl _ _) rfl
              refine BOk.cons rfl [] [9] rfl rfl (by kernel_rfl) (by kernel_rfl) (fun qK qa wr hB qO qF hK => ?_) ?_
              · have e9 : qa.tmps[9]? = some (.int .i64 (j : Nat)) := qO.1.trans rfl
                clear qO qF
                go_simp
                exact hK _ _ (Below.refl _ _) rfl
              refine BOk.cons rfl [0, 1] [] rfl rfl (by kernel_rfl) (by kernel_rfl) (fun qK qa wr hB qO qF hK => ?_) ?_
              · have e66 : qa.tmps[66]? = some (.slice (some ⟨b1, o1, none⟩) R1.l.length R1.c) := fis qF.1 rfl rfl
                have e67 : qa.tmps[67]? = some (.int .i64 (j : Nat)) := fis qF.2.1 rfl rfl
                clear qO qF
                go_simp
                exact hK _ _ (Below.refl _ _) rfl
              refine BOk.cons rfl [2] [] rfl rfl (by kernel_rfl) (by kernel_rfl) (fun qK qa wr hB qO qF hK => ?_) ?_
              · have e68 : qa.tmps[68]? = some (.pointer (some ⟨b1, o1 + j, none⟩)) := fis qF.1 rfl rfl
                clear qO qF
                have hhc1 := (bcell hB _ _ (World.block_lt_of_cell? _ _ hc1)).trans hc1
                go_simp
                exact hK _ _ (Below.refl _ _) rfl
              refine BOk.cons rfl [] [8] rfl rfl (by kernel_rfl) (by kernel_rfl) (fun qK qa wr hB qO qF hK => ?_) ?_
              · have e8 : qa.tmps[8]? = some (.slice (some ⟨b2, o2, none⟩) R2.l.length R2.c) := qO.1.trans rfl
                clear qO qF
                go_simp
                exact hK _ _ (Below.refl _ _) rfl
              refine BOk.cons rfl [] [9] rfl rfl (by kernel_rfl) (by kernel_rfl) (fun qK qa wr hB qO qF hK => ?_) ?_
              · have e9 : qa.tmps[9]? = some (.int .i64 (j : Nat)) := qO.1.trans rfl
                clear qO qF
                go_simp
                exact hK _ _ (Below.refl _ _) rfl
              refine BOk.cons rfl [4, 5] [] rfl rfl (by kernel_rfl) (by kernel_rfl) (fun qK qa wr hB qO qF hK => ?_) ?_
              · have e70 : qa.tmps[70]? = some (.slice (some ⟨b2, o2, none⟩) R2.l.length R2.c) := fis qF.1 rfl rfl
                have e71 : qa.tmps[71]? = some (.int .i64 (j : Nat)) := fis qF.2.1 rfl rfl
                clear qO qF
                go_simp
                exact hK _ _ (Below.refl _ _) rfl
              refine BOk.cons rfl [6] [] rfl rfl (by kernel_rfl) (by kernel_rfl) (fun qK qa wr hB qO qF hK => ?_) ?_
              · have e72 : qa.tmps[72]? = some (.pointer (some ⟨b2, o2 + j, none⟩)) := fis qF.1 rfl rfl
                clear qO qF
                have hhc2 := (bcell hB _ _ (World.block_lt_of_cell? _ _ hc2)).trans hc2
                go_simp
                exact hK _ _ (Below.refl _ _) rfl
              refine BOk.cons rfl [3, 7] [] rfl rfl (by kernel_rfl) (by kernel_rfl) (fun qK qa wr hB qO qF hK => ?_) ?_
              · have e69 : qa.tmps[69]? = some (.int .i64 x) := fis qF.1 rfl rfl
                have e73 : qa.tmps[73]? = some (.int .i64 y) := fis qF.2.1 rfl rfl
                clear qO qF
                go_simp
                go_at_call 26
                refine (num_any x y _).mono ?_
                rintro e9 w9 ⟨rfl, rfl⟩
                exact hK _ _ (Below.refl _ _) rfl
              refine BOk.cons rfl [8] [] rfl rfl (by kernel_rfl) (by kernel_rfl) (fun qK qa wr hB qO qF hK => ?_) ?_
              · have e74 : qa.tmps[74]? = some (.int .i64 (Lib.compareInt x y)) := fis qF.1 rfl rfl
                clear qO qF
                go_simp
                exact hK _ _ (Below.refl _ _) rfl
              exact BOk.nil
            intro vals wr hl hB hR
            match vals, hl with
            | [y66, y67, y68, y69, y70, y71, y72, y73, y74, y5], _ =>
            have r9 : y5 = .int .i64 (Lib.compareInt x y) := hR 9 _ rfl
            subst r9
            clear hR
            simp only [List.cons_append, List.nil_append, putAll, Act.put, List.setIfInBounds_toArray, List.set_cons_zero, List.set_cons_succ]
            clear hc1 hc2 hjI hjI2
            have hbj := hbi.trans (hB.mono hbi.size)
            clear hB
            generalize Lib.compareInt x y = c at *
            go_wp2
            go_roundw
            case rel => first | exact ⟨j + 1, c, by omega, by omega, rfl, by go_num, hbj, HN2⟩ | exact ⟨j + 1, by omega, by omega, by go_num, hbj, HN2⟩ | exact ⟨j + 1, by omega, by omega, by omega, hbj, HN2⟩ | exact ⟨j + 1, by omega, by omega, by omega, HN2⟩
            case measure => simp [intOf]; omega
end Go.Proofs.YtbopndepklafgaaDoor
