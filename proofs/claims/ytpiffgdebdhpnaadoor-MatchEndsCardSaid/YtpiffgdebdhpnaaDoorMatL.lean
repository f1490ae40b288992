/- Layer 10: the line of a match, by the document. No conditions. -/
import Derived.Test.YtpiffgdebdhpnaaDoorMatG
import Derived.Test.YtpiffgdebdhpnaaDoorMatU
namespace Go.Proofs.YtpiffgdebdhpnaaDoor
open Go.RowKit
set_option maxRecDepth 10000
set_option linter.unusedVariables false
set_option linter.unusedSimpArgs false

theorem cat2 (a b : List UInt8) : bytes a ++ bytes b = bytes (a ++ b) := by rw [cat_bytes, bytes_list, bytes_list]
theorem lit_bytes (l : List UInt8) : (⟨l.toArray⟩ : ByteArray) = bytes l := rfl
def rliR3 (m : MatV) (w : World) : List Spec := [.is (.pointer (some ⟨w.heap.size, 0, none⟩)),
  .is (.int .i64 m.step),
  .is (.string (bytes (Lib.itoa m.step))),
  .is (.string (bytes (Lib.itoa m.step) ++ ⟨#[32]⟩)),
  .is (.pointer (some ⟨w.heap.size, 1, none⟩)),
  .is (.int .i64 m.branch),
  .is (.string (bytes (Lib.itoa m.branch))),
  .is (.string (bytes (Lib.itoa m.step) ++ ⟨#[32]⟩ ++ bytes (Lib.itoa m.branch))),
  .is (.string (bytes (Lib.itoa m.step) ++ ⟨#[32]⟩ ++ bytes (Lib.itoa m.branch) ++ ⟨#[58]⟩)),
  .is (.string (bytes (Lib.itoa m.step) ++ ⟨#[32]⟩ ++ bytes (Lib.itoa m.branch) ++ ⟨#[58]⟩))]
set_option maxRecDepth 100000 in
set_option maxHeartbeats 8000000 in
theorem rline_any (m : MatV) (w : World) (h : m.okB w w.heap.size) :
    Calls Tryd.prog 14 #[m.val] w fun r w' => r = .returned (.string (bytes (lineT m.step m.branch m.L))) ∧ Below w.heap.size w w' := by
  have hW : Below w.heap.size w (w.alloc (.cells #[.int .i64 m.step, .int .i64 m.branch, .slice m.A m.rows.length m.c] 24)) := (Below.refl _ _).alloc (Nat.le_refl _) _
  have x0 := Bk.new w 24 #[.int .i64 m.step, .int .i64 m.branch, .slice m.A m.rows.length m.c]
  have HG1 := Lib.hid (rgood_any m maxI _ (h.ok.old hW) h.rows h.row)
  have hst := h.ok.stepR
  have hbr := h.ok.branchR
  have HM := Lib.hid h.ok
  have HTOT := Lib.hid h.tot
  have hml := h.rows
  clear h
  unfold lineT
  unfold MatV.val at *
  obtain ⟨g, hg⟩ : ∃ g, goodB m.step m.branch maxI m.L = g := ⟨_, rfl⟩
  have HGd := Lib.hid hg
  rw [hg] at HG1 ⊢
  obtain ⟨TT, hTT⟩ : ∃ TT, (if g = true then lineL m.step m.branch m.L else []) = TT := ⟨_, rfl⟩
  rw [hTT]
  have HTT := Lib.hid hTT
  clear hTT hg
  unfold maxI at HG1
  have s0 := x0.cell 0
  have s1 := x0.cell 1
  have s2 := x0.cell 2
  go_enter Tryd.func14, Tryd.ntmps14
  go_wp2_with fail
  refine HG1.out.mono ?_
  rintro r w2 ⟨rfl, hb2⟩
  have hb3 := hW.trans (hb2.mono hW.size)
  have y0 := x0.old hb2
  clear x0 hb2 hW HG1 s0 s1 s2
  cases g
  · go_wp2
    go_ret
    exact ⟨by rw [← HTT.out]; rfl, hb3⟩
  rw [if_pos rfl] at HTT
  have s0 := y0.cell 0
  have s1 := y0.cell 1
  have hLS := itoa_len m.step hst
  have hLB := itoa_len m.branch hbr
  have HR := Lib.hid (good_range HGd.out hst.2)
  have HLEN : Hid ((lineL m.step m.branch m.L).length ≤ 42 + 21 * 1048576) := Lib.hid (by
    have h1 := line_len m.step m.branch m.L hst hbr HR.out
    have h2 := HTOT.out
    omega)
  have hcat1 : ¬ 9223372036854775807 < (bytes (Lib.itoa m.step)).size + 1 := by rw [bytes_size]; omega
  have hcat2 : ¬ 9223372036854775807 < (bytes (Lib.itoa m.step)).size + 1 + (bytes (Lib.itoa m.branch)).size := by rw [bytes_size, bytes_size]; omega
  have hcat3 : ¬ 9223372036854775807 < (bytes (Lib.itoa m.step)).size + 1 + (bytes (Lib.itoa m.branch)).size + 1 := by rw [bytes_size, bytes_size]; omega
  go_upto_region 3 with fail
  refine wp_region_b (by kernel_rfl) (fun qk => (rliR3 m w).getD qk .any) (by kernel_rfl) ?_ ?_
  · refine BOk.cons rfl [] [1] rfl rfl (by kernel_rfl) (by kernel_rfl) (fun qK qa wr hB qO qF hK => ?_) ?_
    · have e1 : qa.tmps[1]? = some (.pointer (some ⟨w.heap.size, 0, none⟩)) := qO.1.trans rfl
      clear qO qF
      go_simp
      exact hK _ _ (Below.refl _ _) rfl
    refine BOk.cons rfl [0] [] rfl rfl (by kernel_rfl) (by kernel_rfl) (fun qK qa wr hB qO qF hK => ?_) ?_
    · have e11 : qa.tmps[11]? = some (.pointer (some ⟨w.heap.size, 0, none⟩)) := fis qF.1 rfl rfl
      clear qO qF
      have hs0 := (bcell hB _ _ (World.block_lt_of_cell? _ _ s0)).trans s0
      go_simp
      exact hK _ _ (Below.refl _ _) rfl
    refine BOk.cons rfl [1] [] rfl rfl (by kernel_rfl) (by kernel_rfl) (fun qK qa wr hB qO qF hK => ?_) ?_
    · have e12 : qa.tmps[12]? = some (.int .i64 m.step) := fis qF.1 rfl rfl
      clear qO qF
      go_simp
      go_at_call 27
      refine (dec_any m.step hst _).mono ?_
      rintro e9 w9 ⟨rfl, hb9⟩
      exact hK _ _ hb9 rfl
    refine BOk.cons rfl [2] [] rfl rfl (by kernel_rfl) (by kernel_rfl) (fun qK qa wr hB qO qF hK => ?_) ?_
    · have e13 : qa.tmps[13]? = some (.string (bytes (Lib.itoa m.step))) := fis qF.1 rfl rfl
      clear qO qF
      go_simp
      exact hK _ _ (Below.refl _ _) (by first | rfl | (show (_ : Value) = _; simp; done))
    refine BOk.cons rfl [] [1] rfl rfl (by kernel_rfl) (by kernel_rfl) (fun qK qa wr hB qO qF hK => ?_) ?_
    · have e1 : qa.tmps[1]? = some (.pointer (some ⟨w.heap.size, 0, none⟩)) := qO.1.trans rfl
      clear qO qF
      go_simp
      exact hK _ _ (Below.refl _ _) rfl
    refine BOk.cons rfl [4] [] rfl rfl (by kernel_rfl) (by kernel_rfl) (fun qK qa wr hB qO qF hK => ?_) ?_
    · have e15 : qa.tmps[15]? = some (.pointer (some ⟨w.heap.size, 1, none⟩)) := fis qF.1 rfl rfl
      clear qO qF
      have hs1 := (bcell hB _ _ (World.block_lt_of_cell? _ _ s1)).trans s1
      go_simp
      exact hK _ _ (Below.refl _ _) rfl
    refine BOk.cons rfl [5] [] rfl rfl (by kernel_rfl) (by kernel_rfl) (fun qK qa wr hB qO qF hK => ?_) ?_
    · have e16 : qa.tmps[16]? = some (.int .i64 m.branch) := fis qF.1 rfl rfl
      clear qO qF
      go_simp
      go_at_call 27
      refine (dec_any m.branch hbr _).mono ?_
      rintro e9 w9 ⟨rfl, hb9⟩
      exact hK _ _ hb9 rfl
    refine BOk.cons rfl [3, 6] [] rfl rfl (by kernel_rfl) (by kernel_rfl) (fun qK qa wr hB qO qF hK => ?_) ?_
    · have e14 : qa.tmps[14]? = some (.string (bytes (Lib.itoa m.step) ++ ⟨#[32]⟩)) := fis qF.1 rfl rfl
      have e17 : qa.tmps[17]? = some (.string (bytes (Lib.itoa m.branch))) := fis qF.2.1 rfl rfl
      clear qO qF
      go_simp
      exact hK _ _ (Below.refl _ _) (by first | rfl | (show (_ : Value) = _; simp; done))
    refine BOk.cons rfl [7] [] rfl rfl (by kernel_rfl) (by kernel_rfl) (fun qK qa wr hB qO qF hK => ?_) ?_
    · have e18 : qa.tmps[18]? = some (.string (bytes (Lib.itoa m.step) ++ ⟨#[32]⟩ ++ bytes (Lib.itoa m.branch))) := fis qF.1 rfl rfl
      clear qO qF
      go_simp
      exact hK _ _ (Below.refl _ _) (by first | rfl | (show (_ : Value) = _; simp; done))
    refine BOk.cons rfl [8] [] rfl rfl (by kernel_rfl) (by kernel_rfl) (fun qK qa wr hB qO qF hK => ?_) ?_
    · have e19 : qa.tmps[19]? = some (.string (bytes (Lib.itoa m.step) ++ ⟨#[32]⟩ ++ bytes (Lib.itoa m.branch) ++ ⟨#[58]⟩)) := fis qF.1 rfl rfl
      clear qO qF
      go_simp
      exact hK _ _ (Below.refl _ _) rfl
    exact BOk.nil
  intro vals wr hl hB hR
  match vals, hl with
  | [y11, y12, y13, y14, y15, y16, y17, y18, y19, y3], _ =>
  have r9 : y3 = .string (bytes (Lib.itoa m.step) ++ ⟨#[32]⟩ ++ bytes (Lib.itoa m.branch) ++ ⟨#[58]⟩) := hR 9 _ rfl
  subst r9
  clear hR
  simp only [List.cons_append, List.nil_append, putAll, Act.put, List.setIfInBounds_toArray, List.set_cons_zero, List.set_cons_succ]
  clear hcat1 hcat2 hcat3
  have hbr' := hb3.trans (hB.mono hb3.size)
  have z0 := y0.old hB
  have q2 := z0.cell 2
  have hsz := hB.size
  clear s0 s1 hB y0
  have hstr : bytes (Lib.itoa m.step) ++ ⟨#[32]⟩ ++ bytes (Lib.itoa m.branch) ++ ⟨#[58]⟩ = bytes (headL m.step m.branch) := by
    have e1 : (⟨#[32]⟩ : ByteArray) = bytes [32] := rfl
    have e2 : (⟨#[58]⟩ : ByteArray) = bytes [58] := rfl
    rw [e1, e2, cat2, cat2, cat2]
    simp [headL]
  rw [hstr]
  clear hstr
  obtain ⟨H0, hH0⟩ : ∃ H0, headL m.step m.branch = H0 := ⟨_, rfl⟩
  rw [hH0]
  have HLN : Hid (H0.length + (restL 0 m.L).length ≤ 42 + 21 * 1048576) := Lib.hid (by
    have h1 := HLEN.out
    unfold lineL at h1
    rw [hH0, List.length_append] at h1
    exact h1)
  have HTL : Hid (H0 ++ restL 0 m.L = TT) := Lib.hid (by rw [← hH0]; exact HTT.out)
  clear HTT HLEN hH0 HGd HTOT
  go_wp2
  clear q2 z0
  go_loopw [3, 23] (fun s i wr => ∃ (k : Nat) (T : List UInt8), k ≤ m.rows.length ∧ s = .string (bytes T) ∧ i = .int .i64 k ∧ Below w.heap.size w wr ∧ Hid (T = H0 ++ restL 0 (m.L.take k))) (fun _ i _ => m.rows.length - (intOf i).toNat)
  case atStart => exact ⟨0, H0, Nat.zero_le _, rfl, rfl, hbr', Lib.hid (by simp [restL])⟩
  case round =>
    clear hbr'
    obtain ⟨k, T, hk, rfl, rfl, hbel, hT⟩ := hrel
    obtain ⟨wl, rfl⟩ : ∃ wl : World, wl = wr := ⟨_, rfl⟩
    by_cases hlk : k < m.rows.length
    · as_aux_lemma =>
      obtain ⟨vb, vo, hA, hvb, hvc⟩ := (HM.out.rd.below hbel).elem (n := 1) (fun _ => rfl) (by omega) hlk
      have r0 : wl.cell? ⟨vb, vo + k * 1, none⟩ = some (.slice m.rows[k].A m.rows[k].l.length m.rows[k].c) := hvc 0 _ rfl
      rw [Nat.mul_one] at r0
      have hkL : k < m.L.length := by unfold MatV.L; simpa using hlk
      have e1 : m.L[k] = m.rows[k].l := by simp [MatV.L]
      have hnx := rest_snoc m.L k hkL
      have hle := rest_take m.L (k + 1)
      have hrg := HR.out m.L[k] (List.getElem_mem _)
      rw [e1] at hnx hrg
      have HRG := Lib.hid hrg
      have HRD := Lib.hid (HM.out.each m.rows[k] (List.getElem_mem _)).rd
      have hrl := (HM.out.each m.rows[k] (List.getElem_mem _)).len
      have hsum : T.length + ((if 0 < k then [59] else [] : List UInt8).length + (numsL m.rows[k].l).length) ≤ 42 + 21 * 1048576 := by
        have h1 := congrArg List.length hnx
        have h2 := congrArg List.length hT.out
        have h3 := HLN.out
        simp only [List.length_append] at h1 h2
        omega
      have HNX : Hid (H0 ++ restL 0 (m.L.take (k + 1)) = T ++ ((if 0 < k then [59] else []) ++ numsL m.rows[k].l)) := Lib.hid (by rw [hnx, ← List.append_assoc, ← hT.out])
      clear hnx hle hrg e1 hvc hT
      generalize m.rows[k] = R at *
      rw [hA]
      clear hA
      obtain ⟨T0, hT0⟩ : ∃ T0, T ++ (if 0 < k then [59] else [] : List UInt8) = T0 := ⟨_, rfl⟩
      have HNX2 : Hid (H0 ++ restL 0 (m.L.take (k + 1)) = T0 ++ numsL R.l) := Lib.hid (by rw [HNX.out, ← List.append_assoc, hT0])
      have HS0 : Hid (T0.length + (numsL R.l).length ≤ 42 + 21 * 1048576) := Lib.hid (by have h1 := congrArg List.length hT0; rw [List.length_append] at h1; omega)
      clear HNX
      by_cases hk0 : 0 < k
      case' pos =>
        have hkI : (0 : Int) < (k : Int) := by omega
        rw [if_pos hk0] at hT0 hsum
        have hc0 : bytes T ++ ⟨#[59]⟩ = bytes T0 := by
          have e2 : (⟨#[59]⟩ : ByteArray) = bytes [59] := rfl
          rw [e2, cat2, hT0]
        have hs0 : ¬ 9223372036854775807 < (bytes T).size + 1 := by rw [bytes_size]; omega
        clear hT0 hsum
        go_wp2
        clear hc0 hs0
      case' neg =>
        have hkI : ¬ (0 : Int) < (k : Int) := by omega
        rw [if_neg hk0, List.append_nil] at hT0
        clear hsum
        subst T
        go_wp2
      all_goals
        clear r0
        go_loopw [3, 34] (fun s i wr => ∃ (j : Nat) (T' : List UInt8), j ≤ R.l.length ∧ s = .string (bytes T') ∧ i = .int .i64 j ∧ Below w.heap.size w wr ∧ Hid (T' = T0 ++ numsL (R.l.take j))) (fun _ i _ => R.l.length - (intOf i).toNat)
        case atStart => exact ⟨0, _, Nat.zero_le _, rfl, rfl, hbel, Lib.hid (by simp [numsL])⟩
        case round =>
          clear hbel
          obtain ⟨j, T', hj, rfl, rfl, hbi, hT'⟩ := hrel
          by_cases hlj : j < R.l.length
          · as_aux_lemma =>
            obtain ⟨b', o', hA', hb', hc'⟩ := (HRD.out.below hbi).elem1 hlj
            have hnx2 := nums_snoc R.l j hlj
            have hrg2 := HRG.out R.l[j] (List.getElem_mem _)
            have hle2 := nums_take R.l (j + 1)
            have hlT : T'.length + (Lib.itoa R.l[j]).length + 1 ≤ 42 + 21 * 1048576 := by
              have h1 := congrArg List.length hnx2
              have h2 := congrArg List.length hT'.out
              have h3 := HS0.out
              simp only [List.length_append, List.length_cons] at h1 h2
              omega
            have HN2 : Hid (T' ++ 32 :: Lib.itoa R.l[j] = T0 ++ numsL (R.l.take (j + 1))) := Lib.hid (by rw [hnx2, ← List.append_assoc, ← hT'.out])
            clear hnx2 hle2 hT'
            rw [hA']
            clear hA'
            generalize R.l[j] = x at *
            have HD := Lib.hid (dec_any x hrg2)
            generalize Lib.itoa x = X at *
            go_wp2_with fail
            refine (HD.out wr).mono ?_
            rintro r w5 ⟨rfl, hb5⟩
            have hbe5 := hbi.trans (hb5.mono hbi.size)
            have hc1 : (⟨#[32]⟩ : ByteArray) ++ bytes X = bytes (32 :: X) := by
              have e2 : (⟨#[32]⟩ : ByteArray) = bytes [32] := rfl
              rw [e2, cat2]; rfl
            have hc2 : bytes T' ++ bytes (32 :: X) = bytes (T' ++ 32 :: X) := cat2 _ _
            have hs1 : ¬ 9223372036854775807 < 1 + (bytes X).size := by rw [bytes_size]; omega
            have hs2 : ¬ 9223372036854775807 < (bytes T').size + (bytes (32 :: X)).size := by rw [bytes_size, bytes_size, List.length_cons]; omega
            clear hb5 hbi HD hlT hrg2
            go_wp2
            go_roundw
            case rel => exact ⟨j + 1, _, by omega, by first | rfl | trivial, by go_num, hbe5, HN2⟩
            case measure => simp [intOf]; omega
          · as_aux_lemma =>
            obtain rfl : j = R.l.length := by omega
            rw [List.take_length] at hT'
            have HT9 : Hid (T' = H0 ++ restL 0 (m.L.take (k + 1))) := Lib.hid (by rw [HNX2.out]; exact hT'.out)
            clear hT'
            go_wp2
            go_roundw
            case rel => exact ⟨k + 1, T', by omega, rfl, by go_num, hbi, HT9⟩
            case measure => simp [intOf]; omega
    · as_aux_lemma =>
      obtain rfl : k = m.rows.length := by omega
      rw [List.take_of_length_le (by simp [MatV.L])] at hT
      have hTT : T = TT := hT.out.trans HTL.out
      clear hT
      subst hTT
      go_wp2
      go_ret
      exact ⟨rfl, hbel⟩
end Go.Proofs.YtpiffgdebdhpnaaDoor
