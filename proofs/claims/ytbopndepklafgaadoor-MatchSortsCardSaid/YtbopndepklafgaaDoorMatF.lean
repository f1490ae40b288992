/- Layer 10: the law's own example. No conditions. -/
import Derived.Test.YtbopndepklafgaaDoorMatE
import Derived.Test.YtbopndepklafgaaDoorMatB
namespace Go.Proofs.YtbopndepklafgaaDoor
open Go.RowKit
set_option maxRecDepth 10000
set_option linter.unusedVariables false
set_option linter.unusedSimpArgs false

theorem dec_len : ∀ (k n : Nat), n < 10 ^ (k + 1) → (Lib.decDigits n).length ≤ k + 1
  | 0, n, h => by rw [dec_small n (by omega)]; simp
  | k + 1, n, h => by
    by_cases h1 : n < 10
    · rw [dec_small n h1]; simp
    · rw [dec_more n h1, List.length_append]
      have := dec_len k (n / 10) (by rw [Nat.pow_succ] at h; omega)
      simp; omega
theorem itoa_len (n : Int) (h : -9223372036854775808 ≤ n ∧ n ≤ 9223372036854775807) : (Lib.itoa n).length ≤ 20 := by
  have h1 := dec_len 18 n.natAbs (by omega)
  have h2 := dec_len 18 n.toNat (by omega)
  unfold Lib.itoa
  split
  · simp; omega
  · omega
theorem itoa_d (n : Nat) (h : n < 10) : Lib.itoa (n : Int) = [dgt n] := by
  unfold Lib.itoa
  rw [if_neg (by omega), Int.toNat_natCast, dec_small n h]
def SS : ByteArray := ⟨#[50, 32, 48, 58, 32, 48, 59, 32, 49, 32, 50]⟩
def LL : List (List Int) := [[0], [1, 2]]
theorem cut_S : Lib.cut SS.data.toList [58] = ([50, 32, 48], [32, 48, 59, 32, 49, 32, 50], true) := by decide +kernel
theorem spl_S1 : splitL (bytes [50, 32, 48]) sp = [⟨#[50]⟩, ⟨#[48]⟩] := by decide +kernel
theorem spl_S2 : splitL (bytes [32, 48, 59, 32, 49, 32, 50]) semi = [⟨#[32, 48]⟩, ⟨#[32, 49, 32, 50]⟩] := by decide +kernel
theorem spl_S3 : splitL ⟨#[32, 48]⟩ sp = [⟨#[]⟩, ⟨#[48]⟩] := by decide +kernel
theorem spl_S4 : splitL ⟨#[32, 49, 32, 50]⟩ sp = [⟨#[]⟩, ⟨#[49]⟩, ⟨#[50]⟩] := by decide +kernel
theorem at0 : atoiV ⟨#[48]⟩ = 0 := by decide +kernel
theorem at1 : atoiV ⟨#[49]⟩ = 1 := by decide +kernel
theorem at2 : atoiV ⟨#[50]⟩ = 2 := by decide +kernel
theorem parts_S : (splitL (bytes [32, 48, 59, 32, 49, 32, 50]) semi).map partP = LL := by
  rw [spl_S2]
  simp only [List.map_cons, List.map_nil, partP, spl_S3, spl_S4, List.drop_succ_cons, List.drop_zero, at0, at1, at2]
  rfl
theorem good_S3 : goodB 2 0 3 LL = true := by decide +kernel
theorem good_S2 : goodB 2 0 2 LL = false := by decide +kernel
theorem good_S : goodB 2 0 maxI LL = true := by decide +kernel
theorem ord_S : orderB 2 0 LL 2 0 [[0], [2]] = -1 := by decide +kernel
theorem it0 : Lib.itoa 0 = [48] := itoa_d 0 (by omega)
theorem it1 : Lib.itoa 1 = [49] := itoa_d 1 (by omega)
theorem it2 : Lib.itoa 2 = [50] := itoa_d 2 (by omega)
theorem line_S : lineT 2 0 LL = [50, 32, 48, 58, 32, 48, 59, 32, 49, 32, 50] := by
  unfold lineT
  rw [if_pos good_S]
  simp [lineL, headL, LL, restL, numsL, it0, it1, it2]
theorem lineL_S : (lineL 2 0 LL).length = 11 := by
  have h := line_S
  unfold lineT at h
  rw [if_pos good_S] at h
  rw [h]; rfl
theorem small_S : Small SS := by
  refine ⟨by decide, ?_, ?_, ?_, ?_, ?_⟩
  · rw [cut_S]; decide
  · rw [cut_S]; decide
  · rw [cut_S]
    show ∀ x ∈ splitL (bytes [50, 32, 48]) sp, _
    rw [spl_S1]
    intro x hx
    simp at hx
    rcases hx with rfl | rfl <;> decide
  · rw [cut_S]
    show ∀ x ∈ splitL (bytes [32, 48, 59, 32, 49, 32, 50]) semi, _
    rw [spl_S2]
    intro x hx
    simp at hx
    rcases hx with rfl | rfl
    · rw [spl_S3]
      refine ⟨by decide, fun y hy => ?_⟩
      simp at hy
      rcases hy with rfl | rfl <;> decide
    · rw [spl_S4]
      refine ⟨by decide, fun y hy => ?_⟩
      simp at hy
      rcases hy with rfl | rfl | rfl <;> decide
  · rw [cut_S]
    intro st br h1 h2
    show (lineL st br ((splitL (bytes [32, 48, 59, 32, 49, 32, 50]) semi).map partP)).length ≤ _
    rw [parts_S]
    have h3 := itoa_len st h1
    have h4 := itoa_len br h2
    simp [lineL, headL, LL, restL, numsL, it0, it1, it2]
    omega
theorem parse_S : parseM SS = some (2, 0, LL) := by
  unfold parseM
  rw [cut_S, if_pos rfl]
  show bodyM SS [32, 48, 59, 32, 49, 32, 50] (splitL (bytes [50, 32, 48]) sp) = _
  rw [spl_S1]
  unfold bodyM
  simp only
  rw [if_neg (by decide), parts_S, at2, at0, line_S, if_pos (by rfl)]

theorem mat_lit {W : World} {g0 g1 g2 t1 t2 : Nat} {l1 l2 : List Int} {st br : Int} {c0 c1 c2 : Nat} (b2 : Bk W g2 t2 #[.slice (some ⟨g0, 0, none⟩) l1.length c0, .slice (some ⟨g1, 0, none⟩) l2.length c1]) (b0 : Bk W g0 t1 (ints l1).toArray) (b1 : Bk W g1 t1 (ints l2).toArray)
    (h1 : l1.length ≤ 100) (h2 : l2.length ≤ 100) (hst : -9223372036854775808 ≤ st ∧ st ≤ 9223372036854775807) (hbr : -9223372036854775808 ≤ br ∧ br ≤ 9223372036854775807) :
    (⟨st, br, some ⟨g2, 0, none⟩, c2, [⟨some ⟨g0, 0, none⟩, c0, l1⟩, ⟨some ⟨g1, 0, none⟩, c1, l2⟩]⟩ : MatV).ok W W.heap.size := by
  refine ⟨Rd.bk b2 b2.lt, by simp, fun r hr => ?_, hst, hbr⟩
  simp only [List.mem_cons, List.not_mem_nil, or_false] at hr
  rcases hr with rfl | rfl
  · exact ⟨Rd.bk b0 b0.lt, by show l1.length ≤ _; omega⟩
  · exact ⟨Rd.bk b1 b1.lt, by show l2.length ≤ _; omega⟩
set_option maxRecDepth 100000 in
set_option maxHeartbeats 2000000 in
theorem two_any (w : World) : Calls Tryd.prog 11 #[] w fun r w' => ∃ m : MatV, r = .returned m.val ∧ m.ok w' w'.heap.size ∧ Below w.heap.size w w' ∧ (m.step, m.branch, m.L) = ((2 : Int), (0 : Int), LL) := by
  go_enter Tryd.func11, Tryd.ntmps11
  go_wp2
  have k0 := (((Bk.new w 27 #[.int .i64 2, .int .i64 0, .slice (some ⟨w.heap.size + 1 + 1 + 1, 0, none⟩) 2 2]).alloc (.cells #[.int .i64 0] 3)).alloc (.cells #[.int .i64 1, .int .i64 2] 3)).alloc (.cells #[.slice (some ⟨w.heap.size + 1, 0, none⟩) 1 1, .slice (some ⟨w.heap.size + 1 + 1, 0, none⟩) 2 2] 29)
  have c0 := k0.cell 0
  have c1 := k0.cell 1
  have c2 := k0.cell 2
  refine bodyPost_ret (v := .agg #[.int .i64 2, .int .i64 0, .slice (some ⟨w.heap.size + 1 + 1 + 1, 0, none⟩) 2 2]) (by simp [results, Tryd.results11, go_sem, c0, c1, c2]) rfl ?_
  refine ⟨⟨2, 0, some ⟨w.heap.size + 1 + 1 + 1, 0, none⟩, 2, [⟨some ⟨w.heap.size + 1, 0, none⟩, 1, [0]⟩, ⟨some ⟨w.heap.size + 1 + 1, 0, none⟩, 2, [1, 2]⟩]⟩, rfl, mat_lit (t1 := 3) (t2 := 29) ?_ ?_ ?_ (by decide) (by decide) (by decide) (by decide), ?_, rfl⟩
  · exact Bk.newAt (by simp) _ _
  · exact ((Bk.newAt (by simp) _ _).alloc _).alloc _
  · exact (Bk.newAt (by simp) _ _).alloc _
  · exact ((((Below.refl _ _).alloc (Nat.le_refl _) _).alloc (by simp) _).alloc (by simp; omega) _).alloc (by simp; omega) _
set_option maxRecDepth 100000 in
set_option maxHeartbeats 4000000 in
theorem awake_any (w : World) (hE : Env w) : Calls Tryd.prog 4 #[] w fun r w' => r = .returned (.bool true) ∧ Below w.heap.size w w' := by
  have HE := Lib.hid hE
  have HP := Lib.hid (parse_any SS w hE small_S)
  clear hE
  go_enter Tryd.func4, Tryd.ntmps4
  go_wp2_with fail
  refine HP.out.mono ?_
  rintro r w1 ⟨m, ok, rfl, hm, hb1, hok, hms⟩
  rw [parse_S] at hok hms
  obtain rfl : ok = true := hok
  obtain ⟨st, br, A, c, rows⟩ := m
  simp only [Option.getD, Prod.mk.injEq] at hms
  obtain ⟨rfl, rfl, hL⟩ := hms
  have HM := Lib.hid hm
  have HL := Lib.hid hL
  clear hm hL HP
  unfold MatV.val
  go_upto_region 2 with fail
  have k1 := Bk.new w1 27 #[.int .i64 2, .int .i64 0, .slice A rows.length c]
  have hbW : Below w1.heap.size w1 (w1.alloc (.cells #[.int .i64 2, .int .i64 0, .slice A rows.length c] 27)) := (Below.refl _ _).alloc (Nat.le_refl _) _
  generalize w1.alloc (.cells #[.int .i64 2, .int .i64 0, .slice A rows.length c] 27) = W at *
  have hbe := hb1.trans (hbW.mono hb1.size)
  go_wp2_with fail
  refine (two_any W).mono ?_
  rintro r w2 ⟨m2, rfl, hm2, hb2, h2⟩
  obtain ⟨st2, br2, A2, c2, rows2⟩ := m2
  simp only [Prod.mk.injEq] at h2
  obtain ⟨rfl, rfl, hL2⟩ := h2
  have hbe2 := hbe.trans (hb2.mono hbe.size)
  have k2 := k1.old hb2
  have hln := line_any ⟨2, 0, A2, c2, rows2⟩ w2 hm2 (HE.out.old hbe2).tab (fun _ => by show (lineL 2 0 (⟨2, 0, A2, c2, rows2⟩ : MatV).L).length ≤ _; rw [hL2, lineL_S]; omega)
  rw [hL2] at hln
  simp only [line_S] at hln
  unfold MatV.val at hln ⊢
  have HLN : Hid (Calls Tryd.prog 10 #[.agg #[.int .i64 2, .int .i64 0, .slice A2 rows2.length c2]] w2 fun r w' => r = .returned (.string ⟨#[50, 32, 48, 58, 32, 48, 59, 32, 49, 32, 50]⟩) ∧ Below w2.heap.size w2 w') := Lib.hid hln
  have HM2 := Lib.hid (HM.out.old (hbW.trans (hb2.mono hbW.size)))
  clear hln hm2 hL2 hb2 k1 hbe hb1 hbW
  go_wp2_with fail
  refine HLN.out.mono ?_
  rintro r w3 ⟨rfl, hb3⟩
  have hbe3 := hbe2.trans (hb3.mono hbe2.size)
  have k3 := k2.old hb3
  have hm3 := HM2.out.old hb3
  have HM3 := Lib.hid hm3
  have hg := good_any _ 3 w3 hm3
  rw [HL.out] at hg
  simp only [good_S3] at hg
  unfold MatV.val at hg
  have HG := Lib.hid hg
  clear hg hm3 k2 hbe2 hb3 HLN HM2
  have v0 := k3.cell 0
  have v1 := k3.cell 1
  have v2 := k3.cell 2
  go_wp2_with fail
  refine HG.out.mono ?_
  rintro r w4 ⟨rfl, hb4⟩
  have hbe4 := hbe3.trans (hb4.mono hbe3.size)
  have k4 := k3.old hb4
  have hm4 := HM3.out.old hb4
  have HM4 := Lib.hid hm4
  have hg := good_any _ 2 w4 hm4
  rw [HL.out] at hg
  simp only [good_S2] at hg
  unfold MatV.val at hg
  have HG2 := Lib.hid hg
  clear hg hm4 k3 hbe3 hb4 HG HM3 v0 v1 v2
  have v0 := k4.cell 0
  have v1 := k4.cell 1
  have v2 := k4.cell 2
  go_wp2_with fail
  refine HG2.out.mono ?_
  rintro r w5 ⟨rfl, hb5⟩
  have hbe5 := hbe4.trans (hb5.mono hbe4.size)
  have k5 := k4.old hb5
  have HM5 := Lib.hid (HM4.out.old hb5)
  clear k4 hbe4 hb5 HG2 HM4 v0 v1 v2
  have v0 := k5.cell 0
  have v1 := k5.cell 1
  have v2 := k5.cell 2
  go_wp2_with fail
  have hX : Below w5.heap.size w5 (((w5.alloc (.cells #[.int .i64 0] 3)).alloc (.cells #[.int .i64 2] 3)).alloc (.cells #[.slice (some ⟨w5.heap.size, 0, none⟩) 1 1, .slice (some ⟨w5.heap.size + 1, 0, none⟩) 1 1] 29)) := (((Below.refl _ _).alloc (Nat.le_refl _) _).alloc (by simp) _).alloc (by simp; omega) _
  have hm6 := HM5.out.old hX
  have hm7 : (⟨2, 0, some ⟨w5.heap.size + 1 + 1, 0, none⟩, 2, [⟨some ⟨w5.heap.size, 0, none⟩, 1, [0]⟩, ⟨some ⟨w5.heap.size + 1, 0, none⟩, 1, [2]⟩]⟩ : MatV).ok _ _ := mat_lit (t1 := 3) (t2 := 29) (W := ((w5.alloc (.cells #[.int .i64 0] 3)).alloc (.cells #[.int .i64 2] 3)).alloc (.cells #[.slice (some ⟨w5.heap.size, 0, none⟩) 1 1, .slice (some ⟨w5.heap.size + 1, 0, none⟩) 1 1] 29)) (Bk.newAt (by simp) _ _) (((Bk.newAt rfl _ _).alloc _).alloc _) ((Bk.newAt (by simp) _ _).alloc _) (by decide) (by decide) (by decide) (by decide)
  have ho := ord_any _ _ _ hm6 hm7
  have e1 : MatV.ord ⟨2, 0, A, c, rows⟩ ⟨2, 0, some ⟨w5.heap.size + 1 + 1, 0, none⟩, 2, [⟨some ⟨w5.heap.size, 0, none⟩, 1, [0]⟩, ⟨some ⟨w5.heap.size + 1, 0, none⟩, 1, [2]⟩]⟩ = -1 := by
    unfold MatV.ord
    rw [HL.out]
    exact ord_S
  rw [e1] at ho
  refine Calls.mono ho ?_
  rintro r w7 ⟨rfl, hb7⟩
  have hfin := hbe5.trans ((hX.trans (hb7.mono hX.size)).mono hbe5.size)
  clear ho e1 hm6 hm7 hX hb7 hbe5 v0 v1 v2 k5
  go_wp2
  go_ret
  exact ⟨rfl, hfin⟩
end Go.Proofs.YtbopndepklafgaaDoor
