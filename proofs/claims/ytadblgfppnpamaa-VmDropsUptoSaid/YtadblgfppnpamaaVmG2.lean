/- Layer 18: which instruction may stand where, by the program, further. No conditions. -/
import Derived.Test.YtadblgfppnpamaaVmG
namespace Go.Proofs.Ytadblgfppnpamaa
open Go.RowKit
set_option linter.unusedVariables false
set_option linter.unusedSimpArgs false

set_option maxRecDepth 100000 in
set_option maxHeartbeats 4000000 in
theorem right_52 (dst a b : Int) (ha : I64 a) (hb : I64 b) (B : Nat) (m : ChkV) (cd : CodeV) (k : Nat) (f g : Int → Bool) (w : World) (h : Chk w B m cd k f g) :
    Calls Try.prog 28 #[.pointer (some ⟨m.kk, 0, none⟩), .agg #[.int .i64 52, .int .i64 dst, .int .i64 a, .int .i64 b]] w fun e w' => e = .returned (.bool (((((dst == 0)) && ((b == 0))) && (f a)))) ∧ Below w.heap.size w w' := by
  obtain ⟨kk, rm, sm⟩ := m
  obtain ⟨nr, ns, Ai, ci, li, Ak, ck, lk, Al, cl, ll⟩ := cd
  have hb0 : Below w.heap.size w (w.alloc (.cells #[.int .i64 52, .int .i64 dst, .int .i64 a, .int .i64 b] 43)) := (Below.refl _ _).alloc (Nat.le_refl _) _
  have kx := Bk.new w 43 #[.int .i64 52, .int .i64 dst, .int .i64 a, .int .i64 b]
  have hk := h.old hb0
  have x0 := kx.cell 0
  have x1 := kx.cell 1
  have x2 := kx.cell 2
  have x3 := kx.cell 3
  have k0 : (w.alloc (.cells #[.int .i64 52, .int .i64 dst, .int .i64 a, .int .i64 b] 43)).cell? ⟨kk, 0, none⟩ = some (.int .i64 nr) := hk.mb.cell 0
  have k1 : (w.alloc (.cells #[.int .i64 52, .int .i64 dst, .int .i64 a, .int .i64 b] 43)).cell? ⟨kk, 1, none⟩ = some (.int .i64 ns) := hk.mb.cell 1
  have k2 : (w.alloc (.cells #[.int .i64 52, .int .i64 dst, .int .i64 a, .int .i64 b] 43)).cell? ⟨kk, 2, none⟩ = some (.slice Ai li.length ci) := hk.mb.cell 2
  have k3 : (w.alloc (.cells #[.int .i64 52, .int .i64 dst, .int .i64 a, .int .i64 b] 43)).cell? ⟨kk, 3, none⟩ = some (.slice Ak lk.length ck) := hk.mb.cell 3
  have k5 : (w.alloc (.cells #[.int .i64 52, .int .i64 dst, .int .i64 a, .int .i64 b] 43)).cell? ⟨kk, 5, none⟩ = some (.map (some rm)) := hk.mb.cell 5
  have k6 : (w.alloc (.cells #[.int .i64 52, .int .i64 dst, .int .i64 a, .int .i64 b] 43)).cell? ⟨kk, 6, none⟩ = some (.map (some sm)) := hk.mb.cell 6
  have HK := Lib.hid hk
  have KX := Lib.hid kx
  have HR := Lib.hid hk.rr
  have HS := Lib.hid hk.ss
  have HB := Lib.hid hb0
  obtain ⟨wt, hwt⟩ : ∃ wt, (decide (0 ≤ dst) && decide (dst < nr)) = wt := ⟨_, rfl⟩
  show Calls _ _ _ _ fun e w' => e = .returned (.bool (((((dst == 0)) && ((b == 0))) && (f a)))) ∧ _
  have HW := Lib.hid hwt
  clear hk h kx hb0 hwt
  go_enter Try.func28, Try.ntmps28
  go_wp2_with fail
  refine wp_region_b (by kernel_rfl) (fun qk => (rt1 52 dst a b nr ns Ai Ak Al li.length lk.length ll.length ci ck cl rm sm kk f g true w).getD qk .any) (by kernel_rfl) ?_ ?_
  · refine BOk.cons rfl [] [3] rfl rfl (by kernel_rfl) (by kernel_rfl) (fun qK qa wr hB qO qF hK => ?_) ?_
    · have e3 : qa.tmps[3]? = some (.pointer (some ⟨w.heap.size, 0, none⟩)) := qO.1.trans rfl
      clear qO qF
      go_simp
      exact hK _ _ (Below.refl _ _) rfl
    refine BOk.cons rfl [0] [] rfl rfl (by kernel_rfl) (by kernel_rfl) (fun qK qa wr hB qO qF hK => ?_) ?_
    · have e6 : qa.tmps[6]? = some (.pointer (some ⟨w.heap.size, 1, none⟩)) := fis qF.1 rfl rfl
      clear qO qF
      have hx1 := (bcell hB _ _ (World.block_lt_of_cell? _ _ x1)).trans x1
      go_simp
      exact hK _ _ (Below.refl _ _) rfl
    refine BOk.cons rfl [1] [] rfl rfl (by kernel_rfl) (by kernel_rfl) (fun qK qa wr hB qO qF hK => ?_) ?_
    · have e7 : qa.tmps[7]? = some (.int .i64 dst) := fis qF.1 rfl rfl
      clear qO qF
      go_simp
      refine hK _ _ (Below.refl _ _) ?_
      show (_ : Value) = _
      first | rfl | (simp; done) | (simp; omega) | (congr 1; simp; done) | (congr 1; rw [decide_eq_decide]; omega)
    refine BOk.cons rfl [2] [] rfl rfl (by kernel_rfl) (by kernel_rfl) (fun qK qa wr hB qO qF hK => ?_) ?_
    · have e8 : qa.tmps[8]? = some (.bool (decide (0 ≤ dst))) := fis qF.1 rfl rfl
      clear qO qF
      go_simp
      exact hK _ _ (Below.refl _ _) (by first | rfl | (show (_ : Value) = _; simp_all; done))
    refine BOk.optT rfl [] [3] rfl 3 true rfl rfl rfl rfl (by kernel_rfl) (by kernel_rfl) (by kernel_rfl) (fun hp hc hP qK qa wr hB qO qF hK => ?_) ?_
    · have e3 : qa.tmps[3]? = some (.pointer (some ⟨w.heap.size, 0, none⟩)) := qO.1.trans rfl
      clear qO qF
      go_simp
      exact hK _ _ (Below.refl _ _) rfl
    refine BOk.optT rfl [4] [] rfl 3 true rfl rfl rfl rfl (by kernel_rfl) (by kernel_rfl) (by kernel_rfl) (fun hp hc hP qK qa wr hB qO qF hK => ?_) ?_
    · have e10 : qa.tmps[10]? = some (.pointer (some ⟨w.heap.size, 1, none⟩)) := fif qF.1 rfl hP rfl
      clear qO qF
      have hx1 := (bcell hB _ _ (World.block_lt_of_cell? _ _ x1)).trans x1
      go_simp
      exact hK _ _ (Below.refl _ _) rfl
    refine BOk.optT rfl [] [0] rfl 3 true rfl rfl rfl rfl (by kernel_rfl) (by kernel_rfl) (by kernel_rfl) (fun hp hc hP qK qa wr hB qO qF hK => ?_) ?_
    · have e0 : qa.tmps[0]? = some (.pointer (some ⟨kk, 0, none⟩)) := qO.1.trans rfl
      clear qO qF
      go_simp
      exact hK _ _ (Below.refl _ _) rfl
    refine BOk.optT rfl [6] [] rfl 3 true rfl rfl rfl rfl (by kernel_rfl) (by kernel_rfl) (by kernel_rfl) (fun hp hc hP qK qa wr hB qO qF hK => ?_) ?_
    · have e12 : qa.tmps[12]? = some (.pointer (some ⟨kk, 0, none⟩)) := fif qF.1 rfl hP rfl
      clear qO qF
      go_simp
      exact hK _ _ (Below.refl _ _) rfl
    refine BOk.optT rfl [7] [] rfl 3 true rfl rfl rfl rfl (by kernel_rfl) (by kernel_rfl) (by kernel_rfl) (fun hp hc hP qK qa wr hB qO qF hK => ?_) ?_
    · have e13 : qa.tmps[13]? = some (.pointer (some ⟨kk, 0, none⟩)) := fif qF.1 rfl hP rfl
      clear qO qF
      go_simp
      exact hK _ _ (Below.refl _ _) rfl
    refine BOk.optT rfl [8] [] rfl 3 true rfl rfl rfl rfl (by kernel_rfl) (by kernel_rfl) (by kernel_rfl) (fun hp hc hP qK qa wr hB qO qF hK => ?_) ?_
    · have e14 : qa.tmps[14]? = some (.pointer (some ⟨kk, 0, none⟩)) := fif qF.1 rfl hP rfl
      clear qO qF
      go_simp
      exact hK _ _ (Below.refl _ _) rfl
    refine BOk.optT rfl [9] [] rfl 3 true rfl rfl rfl rfl (by kernel_rfl) (by kernel_rfl) (by kernel_rfl) (fun hp hc hP qK qa wr hB qO qF hK => ?_) ?_
    · have e15 : qa.tmps[15]? = some (.pointer (some ⟨kk, 0, none⟩)) := fif qF.1 rfl hP rfl
      clear qO qF
      have hk0 := (bcell hB _ _ (World.block_lt_of_cell? _ _ k0)).trans k0
      go_simp
      exact hK _ _ (Below.refl _ _) rfl
    refine BOk.optT rfl [5, 10] [] rfl 3 true rfl rfl rfl rfl (by kernel_rfl) (by kernel_rfl) (by kernel_rfl) (fun hp hc hP qK qa wr hB qO qF hK => ?_) ?_
    · have e11 : qa.tmps[11]? = some (.int .i64 dst) := fif qF.1 rfl hP rfl
      have e16 : qa.tmps[16]? = some (.int .i64 nr) := fif qF.2.1 rfl hP rfl
      clear qO qF
      go_simp
      refine hK _ _ (Below.refl _ _) ?_
      show (_ : Value) = _
      first | rfl | (simp; done) | (simp; omega) | (congr 1; simp; done) | (congr 1; rw [decide_eq_decide]; omega)
    refine BOk.cons rfl [3, 11] [] rfl rfl (by kernel_rfl) (by kernel_rfl) (fun qK qa wr hB qO qF hK => ?_) ?_
    · have e9 : qa.tmps[9]? = some (.bool (decide (0 ≤ dst))) := fis qF.1 rfl rfl
      obtain ⟨u17, e17, r11⟩ := qF.2.1
      have r11 : u17 = (bif (true && ((decide (0 ≤ dst)) == true)) then .bool (decide (dst < nr)) else undef) := r11
      clear qO qF
      rcases (Bool.eq_false_or_eq_true ((decide (0 ≤ dst)))).symm with hcc | hcc
      · rw [hcc] at e9
        go_simp
        exact hK _ _ (Below.refl _ _) (by show (_ : Value) = _; first | (rw [hcc]; first | rfl | (simp; done)) | (simp_all; done))
      · rw [hcc] at e9
        have e17 : qa.tmps[17]? = some (.bool ((decide (dst < nr)))) := (show u17 = .bool ((decide (dst < nr))) from r11.trans (by (first | rw [hcc] | skip); first | rfl | (rw [hP]; rfl))) ▸ e17
        go_simp
        exact hK _ _ (Below.refl _ _) (by show (_ : Value) = _; first | (rw [hcc]; first | rfl | (simp; done)) | (simp_all; done))
    refine BOk.cons rfl [12] [] rfl rfl (by kernel_rfl) (by kernel_rfl) (fun qK qa wr hB qO qF hK => ?_) ?_
    · have e18 : qa.tmps[18]? = some (.bool ((decide (0 ≤ dst)) && (decide (dst < nr)))) := fis qF.1 rfl rfl
      clear qO qF
      go_simp
      exact hK _ _ (Below.refl _ _) (by first | rfl | (show (_ : Value) = _; simp_all; done))
    exact BOk.nil
  intro vals wr hl hB hR
  match vals, hl with
  | [z1_6, z1_7, z1_8, z1_9, z1_10, z1_11, z1_12, z1_13, z1_14, z1_15, z1_16, z1_17, z1_18, z1_5], _ =>
  have r13 : z1_5 = .bool ((decide (0 ≤ dst)) && (decide (dst < nr))) := hR 13 _ rfl
  subst r13
  clear hR
  simp only [List.cons_append, List.nil_append, putAll, Act.put, List.setIfInBounds_toArray, List.set_cons_zero, List.set_cons_succ]
  rw [HW.out]
  have HK := Lib.hid (HK.out.old hB)
  have KX := Lib.hid (KX.out.old hB)
  have HB := Lib.hid (HB.out.trans (hB.mono HB.out.size))
  have HR := Lib.hid HK.out.rr
  have HS := Lib.hid HK.out.ss
  clear x0 x1 x2 x3 k0 k1 k2 k3 k5 k6 hB
  have x0 : wr.cell? ⟨w.heap.size, 0, none⟩ = some (.int .i64 52) := KX.out.cell 0
  have x1 : wr.cell? ⟨w.heap.size, 1, none⟩ = some (.int .i64 dst) := KX.out.cell 1
  have x2 : wr.cell? ⟨w.heap.size, 2, none⟩ = some (.int .i64 a) := KX.out.cell 2
  have x3 : wr.cell? ⟨w.heap.size, 3, none⟩ = some (.int .i64 b) := KX.out.cell 3
  have k0 : wr.cell? ⟨kk, 0, none⟩ = some (.int .i64 nr) := HK.out.mb.cell 0
  have k1 : wr.cell? ⟨kk, 1, none⟩ = some (.int .i64 ns) := HK.out.mb.cell 1
  have k2 : wr.cell? ⟨kk, 2, none⟩ = some (.slice Ai li.length ci) := HK.out.mb.cell 2
  have k3 : wr.cell? ⟨kk, 3, none⟩ = some (.slice Ak lk.length ck) := HK.out.mb.cell 3
  have k5 : wr.cell? ⟨kk, 5, none⟩ = some (.map (some rm)) := HK.out.mb.cell 5
  have k6 : wr.cell? ⟨kk, 6, none⟩ = some (.map (some sm)) := HK.out.mb.cell 6
  go_wp2_with fail
  refine wp_region_b (by kernel_rfl) (fun qk => (rt11 52 dst a b nr ns Ai Ak Al li.length lk.length ll.length ci ck cl rm sm kk f g wt w).getD qk .any) (by kernel_rfl) ?_ ?_
  · refine BOk.cons rfl [] [3] rfl rfl (by kernel_rfl) (by kernel_rfl) (fun qK qa wr hB qO qF hK => ?_) ?_
    · have e3 : qa.tmps[3]? = some (.pointer (some ⟨w.heap.size, 0, none⟩)) := qO.1.trans rfl
      clear qO qF
      go_simp
      exact hK _ _ (Below.refl _ _) rfl
    refine BOk.cons rfl [0] [] rfl rfl (by kernel_rfl) (by kernel_rfl) (fun qK qa wr hB qO qF hK => ?_) ?_
    · have e125 : qa.tmps[125]? = some (.pointer (some ⟨w.heap.size, 1, none⟩)) := fis qF.1 rfl rfl
      clear qO qF
      have hx1 := (bcell hB _ _ (World.block_lt_of_cell? _ _ x1)).trans x1
      go_simp
      exact hK _ _ (Below.refl _ _) rfl
    refine BOk.cons rfl [1] [] rfl rfl (by kernel_rfl) (by kernel_rfl) (fun qK qa wr hB qO qF hK => ?_) ?_
    · have e126 : qa.tmps[126]? = some (.int .i64 dst) := fis qF.1 rfl rfl
      clear qO qF
      go_simp
      refine hK _ _ (Below.refl _ _) ?_
      show (_ : Value) = _
      first | rfl | (simp; done) | (simp; omega) | (congr 1; simp; done) | (congr 1; rw [decide_eq_decide]; omega)
    refine BOk.cons rfl [2] [] rfl rfl (by kernel_rfl) (by kernel_rfl) (fun qK qa wr hB qO qF hK => ?_) ?_
    · have e127 : qa.tmps[127]? = some (.bool ((dst == 0))) := fis qF.1 rfl rfl
      clear qO qF
      go_simp
      exact hK _ _ (Below.refl _ _) (by first | rfl | (show (_ : Value) = _; simp_all; done))
    refine BOk.optT rfl [] [3] rfl 3 true rfl rfl rfl rfl (by kernel_rfl) (by kernel_rfl) (by kernel_rfl) (fun hp hc hP qK qa wr hB qO qF hK => ?_) ?_
    · have e3 : qa.tmps[3]? = some (.pointer (some ⟨w.heap.size, 0, none⟩)) := qO.1.trans rfl
      clear qO qF
      go_simp
      exact hK _ _ (Below.refl _ _) rfl
    refine BOk.optT rfl [4] [] rfl 3 true rfl rfl rfl rfl (by kernel_rfl) (by kernel_rfl) (by kernel_rfl) (fun hp hc hP qK qa wr hB qO qF hK => ?_) ?_
    · have e129 : qa.tmps[129]? = some (.pointer (some ⟨w.heap.size, 3, none⟩)) := fif qF.1 rfl hP rfl
      clear qO qF
      have hx3 := (bcell hB _ _ (World.block_lt_of_cell? _ _ x3)).trans x3
      go_simp
      exact hK _ _ (Below.refl _ _) rfl
    refine BOk.optT rfl [5] [] rfl 3 true rfl rfl rfl rfl (by kernel_rfl) (by kernel_rfl) (by kernel_rfl) (fun hp hc hP qK qa wr hB qO qF hK => ?_) ?_
    · have e130 : qa.tmps[130]? = some (.int .i64 b) := fif qF.1 rfl hP rfl
      clear qO qF
      go_simp
      refine hK _ _ (Below.refl _ _) ?_
      show (_ : Value) = _
      first | rfl | (simp; done) | (simp; omega) | (congr 1; simp; done) | (congr 1; rw [decide_eq_decide]; omega)
    refine BOk.cons rfl [3, 6] [] rfl rfl (by kernel_rfl) (by kernel_rfl) (fun qK qa wr hB qO qF hK => ?_) ?_
    · have e128 : qa.tmps[128]? = some (.bool ((dst == 0))) := fis qF.1 rfl rfl
      obtain ⟨u131, e131, r6⟩ := qF.2.1
      have r6 : u131 = (bif (true && (((dst == 0)) == true)) then .bool ((b == 0)) else undef) := r6
      clear qO qF
      rcases (Bool.eq_false_or_eq_true (((dst == 0)))).symm with hcc | hcc
      · rw [hcc] at e128
        go_simp
        exact hK _ _ (Below.refl _ _) (by show (_ : Value) = _; first | (rw [hcc]; first | rfl | (simp; done)) | (simp_all; done))
      · rw [hcc] at e128
        have e131 : qa.tmps[131]? = some (.bool (((b == 0)))) := (show u131 = .bool (((b == 0))) from r6.trans (by (first | rw [hcc] | skip); first | rfl | (rw [hP]; rfl))) ▸ e131
        go_simp
        exact hK _ _ (Below.refl _ _) (by show (_ : Value) = _; first | (rw [hcc]; first | rfl | (simp; done)) | (simp_all; done))
    refine BOk.cons rfl [7] [] rfl rfl (by kernel_rfl) (by kernel_rfl) (fun qK qa wr hB qO qF hK => ?_) ?_
    · have e132 : qa.tmps[132]? = some (.bool (((dst == 0)) && ((b == 0)))) := fis qF.1 rfl rfl
      clear qO qF
      go_simp
      exact hK _ _ (Below.refl _ _) (by first | rfl | (show (_ : Value) = _; simp_all; done))
    refine BOk.optT rfl [] [0] rfl 8 true rfl rfl rfl rfl (by kernel_rfl) (by kernel_rfl) (by kernel_rfl) (fun hp hc hP qK qa wr hB qO qF hK => ?_) ?_
    · have e0 : qa.tmps[0]? = some (.pointer (some ⟨kk, 0, none⟩)) := qO.1.trans rfl
      clear qO qF
      go_simp
      exact hK _ _ (Below.refl _ _) rfl
    refine BOk.optT rfl [9] [] rfl 8 true rfl rfl rfl rfl (by kernel_rfl) (by kernel_rfl) (by kernel_rfl) (fun hp hc hP qK qa wr hB qO qF hK => ?_) ?_
    · have e134 : qa.tmps[134]? = some (.pointer (some ⟨kk, 0, none⟩)) := fif qF.1 rfl hP rfl
      clear qO qF
      go_simp
      exact hK _ _ (Below.refl _ _) rfl
    refine BOk.optT rfl [10] [] rfl 8 true rfl rfl rfl rfl (by kernel_rfl) (by kernel_rfl) (by kernel_rfl) (fun hp hc hP qK qa wr hB qO qF hK => ?_) ?_
    · have e135 : qa.tmps[135]? = some (.pointer (some ⟨kk, 0, none⟩)) := fif qF.1 rfl hP rfl
      clear qO qF
      go_simp
      exact hK _ _ (Below.refl _ _) rfl
    refine BOk.optT rfl [11] [] rfl 8 true rfl rfl rfl rfl (by kernel_rfl) (by kernel_rfl) (by kernel_rfl) (fun hp hc hP qK qa wr hB qO qF hK => ?_) ?_
    · have e136 : qa.tmps[136]? = some (.pointer (some ⟨kk, 5, none⟩)) := fif qF.1 rfl hP rfl
      clear qO qF
      have hk5 := (bcell hB _ _ (World.block_lt_of_cell? _ _ k5)).trans k5
      go_simp
      exact hK _ _ (Below.refl _ _) rfl
    refine BOk.optT rfl [] [3] rfl 8 true rfl rfl rfl rfl (by kernel_rfl) (by kernel_rfl) (by kernel_rfl) (fun hp hc hP qK qa wr hB qO qF hK => ?_) ?_
    · have e3 : qa.tmps[3]? = some (.pointer (some ⟨w.heap.size, 0, none⟩)) := qO.1.trans rfl
      clear qO qF
      go_simp
      exact hK _ _ (Below.refl _ _) rfl
    refine BOk.optT rfl [13] [] rfl 8 true rfl rfl rfl rfl (by kernel_rfl) (by kernel_rfl) (by kernel_rfl) (fun hp hc hP qK qa wr hB qO qF hK => ?_) ?_
    · have e138 : qa.tmps[138]? = some (.pointer (some ⟨w.heap.size, 2, none⟩)) := fif qF.1 rfl hP rfl
      clear qO qF
      have hx2 := (bcell hB _ _ (World.block_lt_of_cell? _ _ x2)).trans x2
      go_simp
      exact hK _ _ (Below.refl _ _) rfl
    refine BOk.optT rfl [12, 14] [] rfl 8 true rfl rfl rfl rfl (by kernel_rfl) (by kernel_rfl) (by kernel_rfl) (fun hp hc hP qK qa wr hB qO qF hK => ?_) ?_
    · have e137 : qa.tmps[137]? = some (.map (some rm)) := fif qF.1 rfl hP rfl
      have e139 : qa.tmps[139]? = some (.int .i64 a) := fif qF.2.1 rfl hP rfl
      clear qO qF
      refine wp_lookB (.tmp 137) (.tmp 139) rfl (act_evalG e137) (HR.out.old hB) ha (act_evalG e139) ?_
      exact hK _ _ (Below.refl _ _) rfl
    refine BOk.cons rfl [8, 15] [] rfl rfl (by kernel_rfl) (by kernel_rfl) (fun qK qa wr hB qO qF hK => ?_) ?_
    · have e133 : qa.tmps[133]? = some (.bool (((dst == 0)) && ((b == 0)))) := fis qF.1 rfl rfl
      obtain ⟨u140, e140, r15⟩ := qF.2.1
      have r15 : u140 = (bif (true && ((((dst == 0)) && ((b == 0))) == true)) then .bool (f a) else undef) := r15
      clear qO qF
      rcases (Bool.eq_false_or_eq_true ((((dst == 0)) && ((b == 0))))).symm with hcc | hcc
      · rw [hcc] at e133
        go_simp
        exact hK _ _ (Below.refl _ _) (by show (_ : Value) = _; first | (rw [hcc]; first | rfl | (simp; done)) | (simp_all; done))
      · rw [hcc] at e133
        have e140 : qa.tmps[140]? = some (.bool ((f a))) := (show u140 = .bool ((f a)) from r15.trans (by (first | rw [hcc] | skip); first | rfl | (rw [hP]; rfl))) ▸ e140
        go_simp
        exact hK _ _ (Below.refl _ _) (by show (_ : Value) = _; first | (rw [hcc]; first | rfl | (simp; done)) | (simp_all; done))
    refine BOk.cons rfl [16] [] rfl rfl (by kernel_rfl) (by kernel_rfl) (fun qK qa wr hB qO qF hK => ?_) ?_
    · have e141 : qa.tmps[141]? = some (.bool ((((dst == 0)) && ((b == 0))) && (f a))) := fis qF.1 rfl rfl
      clear qO qF
      go_simp
      exact hK _ _ (Below.refl _ _) (by first | rfl | (show (_ : Value) = _; simp_all; done))
    exact BOk.nil
  intro vals wr hl hB hR
  match vals, hl with
  | [z11_125, z11_126, z11_127, z11_128, z11_129, z11_130, z11_131, z11_132, z11_133, z11_134, z11_135, z11_136, z11_137, z11_138, z11_139, z11_140, z11_141, z11_4], _ =>
  have r17 : z11_4 = .bool ((((dst == 0)) && ((b == 0))) && (f a)) := hR 17 _ rfl
  subst r17
  clear hR
  simp only [List.cons_append, List.nil_append, putAll, Act.put, List.setIfInBounds_toArray, List.set_cons_zero, List.set_cons_succ]
  go_wp2_with fail
  go_ret
  exact ⟨rfl, HB.out.trans (hB.mono HB.out.size)⟩

set_option maxRecDepth 100000 in
set_option maxHeartbeats 4000000 in
theorem right_one (op : Int) (hop : oneB op) (dst a b : Int) (ha : I64 a) (hb : I64 b) (B : Nat) (m : ChkV) (cd : CodeV) (k : Nat) (f g : Int → Bool) (w : World) (h : Chk w B m cd k f g) :
    Calls Try.prog 28 #[.pointer (some ⟨m.kk, 0, none⟩), .agg #[.int .i64 op, .int .i64 dst, .int .i64 a, .int .i64 b]] w fun e w' => e = .returned (.bool ((((decide (0 ≤ dst) && decide (dst < cd.nr)) && ((b == 0))) && (f a)))) ∧ Below w.heap.size w w' := by
  obtain ⟨kk, rm, sm⟩ := m
  obtain ⟨nr, ns, Ai, ci, li, Ak, ck, lk, Al, cl, ll⟩ := cd
  have hb0 : Below w.heap.size w (w.alloc (.cells #[.int .i64 op, .int .i64 dst, .int .i64 a, .int .i64 b] 43)) := (Below.refl _ _).alloc (Nat.le_refl _) _
  have kx := Bk.new w 43 #[.int .i64 op, .int .i64 dst, .int .i64 a, .int .i64 b]
  have hk := h.old hb0
  have x0 := kx.cell 0
  have x1 := kx.cell 1
  have x2 := kx.cell 2
  have x3 := kx.cell 3
  have k0 : (w.alloc (.cells #[.int .i64 op, .int .i64 dst, .int .i64 a, .int .i64 b] 43)).cell? ⟨kk, 0, none⟩ = some (.int .i64 nr) := hk.mb.cell 0
  have k1 : (w.alloc (.cells #[.int .i64 op, .int .i64 dst, .int .i64 a, .int .i64 b] 43)).cell? ⟨kk, 1, none⟩ = some (.int .i64 ns) := hk.mb.cell 1
  have k2 : (w.alloc (.cells #[.int .i64 op, .int .i64 dst, .int .i64 a, .int .i64 b] 43)).cell? ⟨kk, 2, none⟩ = some (.slice Ai li.length ci) := hk.mb.cell 2
  have k3 : (w.alloc (.cells #[.int .i64 op, .int .i64 dst, .int .i64 a, .int .i64 b] 43)).cell? ⟨kk, 3, none⟩ = some (.slice Ak lk.length ck) := hk.mb.cell 3
  have k5 : (w.alloc (.cells #[.int .i64 op, .int .i64 dst, .int .i64 a, .int .i64 b] 43)).cell? ⟨kk, 5, none⟩ = some (.map (some rm)) := hk.mb.cell 5
  have k6 : (w.alloc (.cells #[.int .i64 op, .int .i64 dst, .int .i64 a, .int .i64 b] 43)).cell? ⟨kk, 6, none⟩ = some (.map (some sm)) := hk.mb.cell 6
  unfold oneB at hop
  have g50 : (op == 50) = false := by rw [beq_eq_false_iff_ne]; omega
  have g51 : (op == 51) = false := by rw [beq_eq_false_iff_ne]; omega
  have g52 : (op == 52) = false := by rw [beq_eq_false_iff_ne]; omega
  have g53 : (op == 53) = false := by rw [beq_eq_false_iff_ne]; omega
  have g54 : (op == 54) = false := by rw [beq_eq_false_iff_ne]; omega
  have hone : ((op == 6) || ((decide (15 ≤ op)) && (decide (op ≤ 17)))) = true := by simp; omega
  have HK := Lib.hid hk
  have KX := Lib.hid kx
  have HR := Lib.hid hk.rr
  have HS := Lib.hid hk.ss
  have HB := Lib.hid hb0
  obtain ⟨wt, hwt⟩ : ∃ wt, (decide (0 ≤ dst) && decide (dst < nr)) = wt := ⟨_, rfl⟩
  show Calls _ _ _ _ fun e w' => e = .returned (.bool ((((decide (0 ≤ dst) && decide (dst < nr)) && ((b == 0))) && (f a)))) ∧ _
  rw [hwt]
  have HW := Lib.hid hwt
  clear hk h kx hb0 hwt
  go_enter Try.func28, Try.ntmps28
  go_wp2_with fail
  refine wp_region_b (by kernel_rfl) (fun qk => (rt1 op dst a b nr ns Ai Ak Al li.length lk.length ll.length ci ck cl rm sm kk f g true w).getD qk .any) (by kernel_rfl) ?_ ?_
  · refine BOk.cons rfl [] [3] rfl rfl (by kernel_rfl) (by kernel_rfl) (fun qK qa wr hB qO qF hK => ?_) ?_
    · have e3 : qa.tmps[3]? = some (.pointer (some ⟨w.heap.size, 0, none⟩)) := qO.1.trans rfl
      clear qO qF
      go_simp
      exact hK _ _ (Below.refl _ _) rfl
    refine BOk.cons rfl [0] [] rfl rfl (by kernel_rfl) (by kernel_rfl) (fun qK qa wr hB qO qF hK => ?_) ?_
    · have e6 : qa.tmps[6]? = some (.pointer (some ⟨w.heap.size, 1, none⟩)) := fis qF.1 rfl rfl
      clear qO qF
      have hx1 := (bcell hB _ _ (World.block_lt_of_cell? _ _ x1)).trans x1
      go_simp
      exact hK _ _ (Below.refl _ _) rfl
    refine BOk.cons rfl [1] [] rfl rfl (by kernel_rfl) (by kernel_rfl) (fun qK qa wr hB qO qF hK => ?_) ?_
    · have e7 : qa.tmps[7]? = some (.int .i64 dst) := fis qF.1 rfl rfl
      clear qO qF
      go_simp
      refine hK _ _ (Below.refl _ _) ?_
      show (_ : Value) = _
      first | rfl | (simp; done) | (simp; omega) | (congr 1; simp; done) | (congr 1; rw [decide_eq_decide]; omega)
    refine BOk.cons rfl [2] [] rfl rfl (by kernel_rfl) (by kernel_rfl) (fun qK qa wr hB qO qF hK => ?_) ?_
    · have e8 : qa.tmps[8]? = some (.bool (decide (0 ≤ dst))) := fis qF.1 rfl rfl
      clear qO qF
      go_simp
      exact hK _ _ (Below.refl _ _) (by first | rfl | (show (_ : Value) = _; simp_all; done))
    refine BOk.optT rfl [] [3] rfl 3 true rfl rfl rfl rfl (by kernel_rfl) (by kernel_rfl) (by kernel_rfl) (fun hp hc hP qK qa wr hB qO qF hK => ?_) ?_
    · have e3 : qa.tmps[3]? = some (.pointer (some ⟨w.heap.size, 0, none⟩)) := qO.1.trans rfl
      clear qO qF
      go_simp
      exact hK _ _ (Below.refl _ _) rfl
    refine BOk.optT rfl [4] [] rfl 3 true rfl rfl rfl rfl (by kernel_rfl) (by kernel_rfl) (by kernel_rfl) (fun hp hc hP qK qa wr hB qO qF hK => ?_) ?_
    · have e10 : qa.tmps[10]? = some (.pointer (some ⟨w.heap.size, 1, none⟩)) := fif qF.1 rfl hP rfl
      clear qO qF
      have hx1 := (bcell hB _ _ (World.block_lt_of_cell? _ _ x1)).trans x1
      go_simp
      exact hK _ _ (Below.refl _ _) rfl
    refine BOk.optT rfl [] [0] rfl 3 true rfl rfl rfl rfl (by kernel_rfl) (by kernel_rfl) (by kernel_rfl) (fun hp hc hP qK qa wr hB qO qF hK => ?_) ?_
    · have e0 : qa.tmps[0]? = some (.pointer (some ⟨kk, 0, none⟩)) := qO.1.trans rfl
      clear qO qF
      go_simp
      exact hK _ _ (Below.refl _ _) rfl
    refine BOk.optT rfl [6] [] rfl 3 true rfl rfl rfl rfl (by kernel_rfl) (by kernel_rfl) (by kernel_rfl) (fun hp hc hP qK qa wr hB qO qF hK => ?_) ?_
    · have e12 : qa.tmps[12]? = some (.pointer (some ⟨kk, 0, none⟩)) := fif qF.1 rfl hP rfl
      clear qO qF
      go_simp
      exact hK _ _ (Below.refl _ _) rfl
    refine BOk.optT rfl [7] [] rfl 3 true rfl rfl rfl rfl (by kernel_rfl) (by kernel_rfl) (by kernel_rfl) (fun hp hc hP qK qa wr hB qO qF hK => ?_) ?_
    · have e13 : qa.tmps[13]? = some (.pointer (some ⟨kk, 0, none⟩)) := fif qF.1 rfl hP rfl
      clear qO qF
      go_simp
      exact hK _ _ (Below.refl _ _) rfl
    refine BOk.optT rfl [8] [] rfl 3 true rfl rfl rfl rfl (by kernel_rfl) (by kernel_rfl) (by kernel_rfl) (fun hp hc hP qK qa wr hB qO qF hK => ?_) ?_
    · have e14 : qa.tmps[14]? = some (.pointer (some ⟨kk, 0, none⟩)) := fif qF.1 rfl hP rfl
      clear qO qF
      go_simp
      exact hK _ _ (Below.refl _ _) rfl
    refine BOk.optT rfl [9] [] rfl 3 true rfl rfl rfl rfl (by kernel_rfl) (by kernel_rfl) (by kernel_rfl) (fun hp hc hP qK qa wr hB qO qF hK => ?_) ?_
    · have e15 : qa.tmps[15]? = some (.pointer (some ⟨kk, 0, none⟩)) := fif qF.1 rfl hP rfl
      clear qO qF
      have hk0 := (bcell hB _ _ (World.block_lt_of_cell? _ _ k0)).trans k0
      go_simp
      exact hK _ _ (Below.refl _ _) rfl
    refine BOk.optT rfl [5, 10] [] rfl 3 true rfl rfl rfl rfl (by kernel_rfl) (by kernel_rfl) (by kernel_rfl) (fun hp hc hP qK qa wr hB qO qF hK => ?_) ?_
    · have e11 : qa.tmps[11]? = some (.int .i64 dst) := fif qF.1 rfl hP rfl
      have e16 : qa.tmps[16]? = some (.int .i64 nr) := fif qF.2.1 rfl hP rfl
      clear qO qF
      go_simp
      refine hK _ _ (Below.refl _ _) ?_
      show (_ : Value) = _
      first | rfl | (simp; done) | (simp; omega) | (congr 1; simp; done) | (congr 1; rw [decide_eq_decide]; omega)
    refine BOk.cons rfl [3, 11] [] rfl rfl (by kernel_rfl) (by kernel_rfl) (fun qK qa wr hB qO qF hK => ?_) ?_
    · have e9 : qa.tmps[9]? = some (.bool (decide (0 ≤ dst))) := fis qF.1 rfl rfl
      obtain ⟨u17, e17, r11⟩ := qF.2.1
      have r11 : u17 = (bif (true && ((decide (0 ≤ dst)) == true)) then .bool (decide (dst < nr)) else undef) := r11
      clear qO qF
      rcases (Bool.eq_false_or_eq_true ((decide (0 ≤ dst)))).symm with hcc | hcc
      · rw [hcc] at e9
        go_simp
        exact hK _ _ (Below.refl _ _) (by show (_ : Value) = _; first | (rw [hcc]; first | rfl | (simp; done)) | (simp_all; done))
      · rw [hcc] at e9
        have e17 : qa.tmps[17]? = some (.bool ((decide (dst < nr)))) := (show u17 = .bool ((decide (dst < nr))) from r11.trans (by (first | rw [hcc] | skip); first | rfl | (rw [hP]; rfl))) ▸ e17
        go_simp
        exact hK _ _ (Below.refl _ _) (by show (_ : Value) = _; first | (rw [hcc]; first | rfl | (simp; done)) | (simp_all; done))
    refine BOk.cons rfl [12] [] rfl rfl (by kernel_rfl) (by kernel_rfl) (fun qK qa wr hB qO qF hK => ?_) ?_
    · have e18 : qa.tmps[18]? = some (.bool ((decide (0 ≤ dst)) && (decide (dst < nr)))) := fis qF.1 rfl rfl
      clear qO qF
      go_simp
      exact hK _ _ (Below.refl _ _) (by first | rfl | (show (_ : Value) = _; simp_all; done))
    exact BOk.nil
  intro vals wr hl hB hR
  match vals, hl with
  | [z1_6, z1_7, z1_8, z1_9, z1_10, z1_11, z1_12, z1_13, z1_14, z1_15, z1_16, z1_17, z1_18, z1_5], _ =>
  have r13 : z1_5 = .bool ((decide (0 ≤ dst)) && (decide (dst < nr))) := hR 13 _ rfl
  subst r13
  clear hR
  simp only [List.cons_append, List.nil_append, putAll, Act.put, List.setIfInBounds_toArray, List.set_cons_zero, List.set_cons_succ]
  rw [HW.out]
  have HK := Lib.hid (HK.out.old hB)
  have KX := Lib.hid (KX.out.old hB)
  have HB := Lib.hid (HB.out.trans (hB.mono HB.out.size))
  have HR := Lib.hid HK.out.rr
  have HS := Lib.hid HK.out.ss
  clear x0 x1 x2 x3 k0 k1 k2 k3 k5 k6 hB
  have x0 : wr.cell? ⟨w.heap.size, 0, none⟩ = some (.int .i64 op) := KX.out.cell 0
  have x1 : wr.cell? ⟨w.heap.size, 1, none⟩ = some (.int .i64 dst) := KX.out.cell 1
  have x2 : wr.cell? ⟨w.heap.size, 2, none⟩ = some (.int .i64 a) := KX.out.cell 2
  have x3 : wr.cell? ⟨w.heap.size, 3, none⟩ = some (.int .i64 b) := KX.out.cell 3
  have k0 : wr.cell? ⟨kk, 0, none⟩ = some (.int .i64 nr) := HK.out.mb.cell 0
  have k1 : wr.cell? ⟨kk, 1, none⟩ = some (.int .i64 ns) := HK.out.mb.cell 1
  have k2 : wr.cell? ⟨kk, 2, none⟩ = some (.slice Ai li.length ci) := HK.out.mb.cell 2
  have k3 : wr.cell? ⟨kk, 3, none⟩ = some (.slice Ak lk.length ck) := HK.out.mb.cell 3
  have k5 : wr.cell? ⟨kk, 5, none⟩ = some (.map (some rm)) := HK.out.mb.cell 5
  have k6 : wr.cell? ⟨kk, 6, none⟩ = some (.map (some sm)) := HK.out.mb.cell 6
  go_upto_region 12 with fail
  refine wp_region_s (fun qk => (rt12 op dst a b nr ns Ai Ak Al li.length lk.length ll.length ci ck cl rm sm kk f g wt w).getD qk .any) (by kernel_rfl) ?_ ?_
  · refine BOk.cons rfl [] [3] rfl rfl (by kernel_rfl) (by kernel_rfl) (fun qK qa wr hB qO qF hK => ?_) ?_
    · have e3 : qa.tmps[3]? = some (.pointer (some ⟨w.heap.size, 0, none⟩)) := qO.1.trans rfl
      clear qO qF
      go_simp
      exact hK _ _ (Below.refl _ _) rfl
    refine BOk.cons rfl [0] [] rfl rfl (by kernel_rfl) (by kernel_rfl) (fun qK qa wr hB qO qF hK => ?_) ?_
    · have e143 : qa.tmps[143]? = some (.pointer (some ⟨w.heap.size, 0, none⟩)) := fis qF.1 rfl rfl
      clear qO qF
      have hx0 := (bcell hB _ _ (World.block_lt_of_cell? _ _ x0)).trans x0
      go_simp
      exact hK _ _ (Below.refl _ _) rfl
    refine BOk.cons rfl [1] [] rfl rfl (by kernel_rfl) (by kernel_rfl) (fun qK qa wr hB qO qF hK => ?_) ?_
    · have e144 : qa.tmps[144]? = some (.int .i64 op) := fis qF.1 rfl rfl
      clear qO qF
      go_simp
      refine hK _ _ (Below.refl _ _) ?_
      show (_ : Value) = _
      first | rfl | (simp; done) | (simp; omega) | (congr 1; simp; done) | (congr 1; rw [decide_eq_decide]; omega)
    refine BOk.cons rfl [2] [] rfl rfl (by kernel_rfl) (by kernel_rfl) (fun qK qa wr hB qO qF hK => ?_) ?_
    · have e145 : qa.tmps[145]? = some (.bool ((op == 6))) := fis qF.1 rfl rfl
      clear qO qF
      go_simp
      exact hK _ _ (Below.refl _ _) (by first | rfl | (show (_ : Value) = _; simp_all; done))
    refine BOk.optT rfl [] [3] rfl 3 false rfl rfl rfl rfl (by kernel_rfl) (by kernel_rfl) (by kernel_rfl) (fun hp hc hP qK qa wr hB qO qF hK => ?_) ?_
    · have e3 : qa.tmps[3]? = some (.pointer (some ⟨w.heap.size, 0, none⟩)) := qO.1.trans rfl
      clear qO qF
      go_simp
      exact hK _ _ (Below.refl _ _) rfl
    refine BOk.optT rfl [4] [] rfl 3 false rfl rfl rfl rfl (by kernel_rfl) (by kernel_rfl) (by kernel_rfl) (fun hp hc hP qK qa wr hB qO qF hK => ?_) ?_
    · have e147 : qa.tmps[147]? = some (.pointer (some ⟨w.heap.size, 0, none⟩)) := fif qF.1 rfl hP rfl
      clear qO qF
      have hx0 := (bcell hB _ _ (World.block_lt_of_cell? _ _ x0)).trans x0
      go_simp
      exact hK _ _ (Below.refl _ _) rfl
    refine BOk.optT rfl [5] [] rfl 3 false rfl rfl rfl rfl (by kernel_rfl) (by kernel_rfl) (by kernel_rfl) (fun hp hc hP qK qa wr hB qO qF hK => ?_) ?_
    · have e148 : qa.tmps[148]? = some (.int .i64 op) := fif qF.1 rfl hP rfl
      clear qO qF
      go_simp
      refine hK _ _ (Below.refl _ _) ?_
      show (_ : Value) = _
      first | rfl | (simp; done) | (simp; omega) | (congr 1; simp; done) | (congr 1; rw [decide_eq_decide]; omega)
    refine BOk.optT rfl [6] [] rfl 3 false rfl rfl rfl rfl (by kernel_rfl) (by kernel_rfl) (by kernel_rfl) (fun hp hc hP qK qa wr hB qO qF hK => ?_) ?_
    · have e149 : qa.tmps[149]? = some (.bool (decide (15 ≤ op))) := fif qF.1 rfl hP rfl
      clear qO qF
      go_simp
      exact hK _ _ (Below.refl _ _) (by first | rfl | (show (_ : Value) = _; simp_all; done))
    refine BOk.optX rfl [] [3] rfl 7 true rfl rfl rfl rfl (by kernel_rfl) (by kernel_rfl) (by kernel_rfl) (fun hp hc hP qK qa wr hB qO qF hK => ?_) ?_
    · have e3 : qa.tmps[3]? = some (.pointer (some ⟨w.heap.size, 0, none⟩)) := qO.1.trans rfl
      clear qO qF
      go_simp
      exact hK _ _ (Below.refl _ _) rfl
    refine BOk.optX rfl [8] [] rfl 7 true rfl rfl rfl rfl (by kernel_rfl) (by kernel_rfl) (by kernel_rfl) (fun hp hc hP qK qa wr hB qO qF hK => ?_) ?_
    · have e151 : qa.tmps[151]? = some (.pointer (some ⟨w.heap.size, 0, none⟩)) := fif qF.1 rfl hP rfl
      clear qO qF
      have hx0 := (bcell hB _ _ (World.block_lt_of_cell? _ _ x0)).trans x0
      go_simp
      exact hK _ _ (Below.refl _ _) rfl
    refine BOk.optX rfl [9] [] rfl 7 true rfl rfl rfl rfl (by kernel_rfl) (by kernel_rfl) (by kernel_rfl) (fun hp hc hP qK qa wr hB qO qF hK => ?_) ?_
    · have e152 : qa.tmps[152]? = some (.int .i64 op) := fif qF.1 rfl hP rfl
      clear qO qF
      go_simp
      refine hK _ _ (Below.refl _ _) ?_
      show (_ : Value) = _
      first | rfl | (simp; done) | (simp; omega) | (congr 1; simp; done) | (congr 1; rw [decide_eq_decide]; omega)
    refine BOk.optT rfl [7, 10] [] rfl 3 false rfl rfl rfl rfl (by kernel_rfl) (by kernel_rfl) (by kernel_rfl) (fun hp hc hP qK qa wr hB qO qF hK => ?_) ?_
    · have e150 : qa.tmps[150]? = some (.bool (decide (15 ≤ op))) := fif qF.1 rfl hP rfl
      obtain ⟨u153, e153, r10⟩ := qF.2.1
      have r10 : u153 = (bif ((true && (((op == 6)) == false)) && ((decide (15 ≤ op)) == true)) then .bool (decide (op ≤ 17)) else undef) := r10
      clear qO qF
      rcases (Bool.eq_false_or_eq_true ((decide (15 ≤ op)))).symm with hcc | hcc
      · rw [hcc] at e150
        go_simp
        exact hK _ _ (Below.refl _ _) (by show (_ : Value) = _; first | (rw [hcc]; first | rfl | (simp; done)) | (simp_all; done))
      · rw [hcc] at e150
        have e153 : qa.tmps[153]? = some (.bool ((decide (op ≤ 17)))) := (show u153 = .bool ((decide (op ≤ 17))) from r10.trans (by (first | rw [hcc] | skip); first | rfl | (rw [hP]; rfl))) ▸ e153
        go_simp
        exact hK _ _ (Below.refl _ _) (by show (_ : Value) = _; first | (rw [hcc]; first | rfl | (simp; done)) | (simp_all; done))
    refine BOk.cons rfl [3, 11] [] rfl rfl (by kernel_rfl) (by kernel_rfl) (fun qK qa wr hB qO qF hK => ?_) ?_
    · have e146 : qa.tmps[146]? = some (.bool ((op == 6))) := fis qF.1 rfl rfl
      obtain ⟨u154, e154, r11⟩ := qF.2.1
      have r11 : u154 = (bif (true && (((op == 6)) == false)) then .bool ((decide (15 ≤ op)) && (decide (op ≤ 17))) else undef) := r11
      clear qO qF
      rcases (Bool.eq_false_or_eq_true (((op == 6)))).symm with hcc | hcc
      · rw [hcc] at e146
        have e154 : qa.tmps[154]? = some (.bool (((decide (15 ≤ op)) && (decide (op ≤ 17))))) := (show u154 = .bool (((decide (15 ≤ op)) && (decide (op ≤ 17)))) from r11.trans (by (first | rw [hcc] | skip); first | rfl | (rw [hP]; rfl))) ▸ e154
        go_simp
        exact hK _ _ (Below.refl _ _) (by show (_ : Value) = _; first | (rw [hcc]; first | rfl | (simp; done)) | (simp_all; done))
      · rw [hcc] at e146
        go_simp
        exact hK _ _ (Below.refl _ _) (by show (_ : Value) = _; first | (rw [hcc]; first | rfl | (simp; done)) | (simp_all; done))
    refine BOk.cons rfl [12] [] rfl rfl (by kernel_rfl) (by kernel_rfl) (fun qK qa wr hB qO qF hK => ?_) ?_
    · have e155 : qa.tmps[155]? = some (.bool (((op == 6)) || ((decide (15 ≤ op)) && (decide (op ≤ 17))))) := fis qF.1 rfl rfl
      clear qO qF
      go_simp
      exact hK _ _ (Below.refl _ _) (by first | rfl | (show (_ : Value) = _; simp_all; done))
    exact BOk.nil
  intro vals wr hl hB hR
  match vals, hl with
  | [z12_143, z12_144, z12_145, z12_146, z12_147, z12_148, z12_149, z12_150, z12_151, z12_152, z12_153, z12_154, z12_155, z12_142], _ =>
  have r13 : z12_142 = .bool (((op == 6)) || ((decide (15 ≤ op)) && (decide (op ≤ 17)))) := hR 13 _ rfl
  subst r13
  clear hR
  simp only [List.cons_append, List.nil_append, putAll, Act.put, List.setIfInBounds_toArray, List.set_cons_zero, List.set_cons_succ]
  rw [hone]
  have HK := Lib.hid (HK.out.old hB)
  have KX := Lib.hid (KX.out.old hB)
  have HB := Lib.hid (HB.out.trans (hB.mono HB.out.size))
  have HR := Lib.hid HK.out.rr
  have HS := Lib.hid HK.out.ss
  clear x0 x1 x2 x3 k0 k1 k2 k3 k5 k6 hB
  have x0 : wr.cell? ⟨w.heap.size, 0, none⟩ = some (.int .i64 op) := KX.out.cell 0
  have x1 : wr.cell? ⟨w.heap.size, 1, none⟩ = some (.int .i64 dst) := KX.out.cell 1
  have x2 : wr.cell? ⟨w.heap.size, 2, none⟩ = some (.int .i64 a) := KX.out.cell 2
  have x3 : wr.cell? ⟨w.heap.size, 3, none⟩ = some (.int .i64 b) := KX.out.cell 3
  have k0 : wr.cell? ⟨kk, 0, none⟩ = some (.int .i64 nr) := HK.out.mb.cell 0
  have k1 : wr.cell? ⟨kk, 1, none⟩ = some (.int .i64 ns) := HK.out.mb.cell 1
  have k2 : wr.cell? ⟨kk, 2, none⟩ = some (.slice Ai li.length ci) := HK.out.mb.cell 2
  have k3 : wr.cell? ⟨kk, 3, none⟩ = some (.slice Ak lk.length ck) := HK.out.mb.cell 3
  have k5 : wr.cell? ⟨kk, 5, none⟩ = some (.map (some rm)) := HK.out.mb.cell 5
  have k6 : wr.cell? ⟨kk, 6, none⟩ = some (.map (some sm)) := HK.out.mb.cell 6
  go_wp2_with fail
  refine wp_region_b (by kernel_rfl) (fun qk => (rt13 op dst a b nr ns Ai Ak Al li.length lk.length ll.length ci ck cl rm sm kk f g wt w).getD qk .any) (by kernel_rfl) ?_ ?_
  · refine BOk.cons rfl [] [5] rfl rfl (by kernel_rfl) (by kernel_rfl) (fun qK qa wr hB qO qF hK => ?_) ?_
    · have e5 : qa.tmps[5]? = some (.bool wt) := qO.1.trans rfl
      clear qO qF
      go_simp
      exact hK _ _ (Below.refl _ _) (by first | rfl | (show (_ : Value) = _; simp_all; done))
    refine BOk.cons rfl [0] [] rfl rfl (by kernel_rfl) (by kernel_rfl) (fun qK qa wr hB qO qF hK => ?_) ?_
    · have e156 : qa.tmps[156]? = some (.bool wt) := fis qF.1 rfl rfl
      clear qO qF
      go_simp
      exact hK _ _ (Below.refl _ _) (by first | rfl | (show (_ : Value) = _; simp_all; done))
    refine BOk.optT rfl [] [3] rfl 1 true rfl rfl rfl rfl (by kernel_rfl) (by kernel_rfl) (by kernel_rfl) (fun hp hc hP qK qa wr hB qO qF hK => ?_) ?_
    · have e3 : qa.tmps[3]? = some (.pointer (some ⟨w.heap.size, 0, none⟩)) := qO.1.trans rfl
      clear qO qF
      go_simp
      exact hK _ _ (Below.refl _ _) rfl
    refine BOk.optT rfl [2] [] rfl 1 true rfl rfl rfl rfl (by kernel_rfl) (by kernel_rfl) (by kernel_rfl) (fun hp hc hP qK qa wr hB qO qF hK => ?_) ?_
    · have e158 : qa.tmps[158]? = some (.pointer (some ⟨w.heap.size, 3, none⟩)) := fif qF.1 rfl hP rfl
      clear qO qF
      have hx3 := (bcell hB _ _ (World.block_lt_of_cell? _ _ x3)).trans x3
      go_simp
      exact hK _ _ (Below.refl _ _) rfl
    refine BOk.optT rfl [3] [] rfl 1 true rfl rfl rfl rfl (by kernel_rfl) (by kernel_rfl) (by kernel_rfl) (fun hp hc hP qK qa wr hB qO qF hK => ?_) ?_
    · have e159 : qa.tmps[159]? = some (.int .i64 b) := fif qF.1 rfl hP rfl
      clear qO qF
      go_simp
      refine hK _ _ (Below.refl _ _) ?_
      show (_ : Value) = _
      first | rfl | (simp; done) | (simp; omega) | (congr 1; simp; done) | (congr 1; rw [decide_eq_decide]; omega)
    refine BOk.cons rfl [1, 4] [] rfl rfl (by kernel_rfl) (by kernel_rfl) (fun qK qa wr hB qO qF hK => ?_) ?_
    · have e157 : qa.tmps[157]? = some (.bool wt) := fis qF.1 rfl rfl
      obtain ⟨u160, e160, r4⟩ := qF.2.1
      have r4 : u160 = (bif (true && (wt == true)) then .bool ((b == 0)) else undef) := r4
      clear qO qF
      rcases (Bool.eq_false_or_eq_true (wt)).symm with hcc | hcc
      · rw [hcc] at e157
        go_simp
        exact hK _ _ (Below.refl _ _) (by show (_ : Value) = _; first | (rw [hcc]; first | rfl | (simp; done)) | (simp_all; done))
      · rw [hcc] at e157
        have e160 : qa.tmps[160]? = some (.bool (((b == 0)))) := (show u160 = .bool (((b == 0))) from r4.trans (by (first | rw [hcc] | skip); first | rfl | (rw [hP]; rfl))) ▸ e160
        go_simp
        exact hK _ _ (Below.refl _ _) (by show (_ : Value) = _; first | (rw [hcc]; first | rfl | (simp; done)) | (simp_all; done))
    refine BOk.cons rfl [5] [] rfl rfl (by kernel_rfl) (by kernel_rfl) (fun qK qa wr hB qO qF hK => ?_) ?_
    · have e161 : qa.tmps[161]? = some (.bool (wt && ((b == 0)))) := fis qF.1 rfl rfl
      clear qO qF
      go_simp
      exact hK _ _ (Below.refl _ _) (by first | rfl | (show (_ : Value) = _; simp_all; done))
    refine BOk.optT rfl [] [0] rfl 6 true rfl rfl rfl rfl (by kernel_rfl) (by kernel_rfl) (by kernel_rfl) (fun hp hc hP qK qa wr hB qO qF hK => ?_) ?_
    · have e0 : qa.tmps[0]? = some (.pointer (some ⟨kk, 0, none⟩)) := qO.1.trans rfl
      clear qO qF
      go_simp
      exact hK _ _ (Below.refl _ _) rfl
    refine BOk.optT rfl [7] [] rfl 6 true rfl rfl rfl rfl (by kernel_rfl) (by kernel_rfl) (by kernel_rfl) (fun hp hc hP qK qa wr hB qO qF hK => ?_) ?_
    · have e163 : qa.tmps[163]? = some (.pointer (some ⟨kk, 0, none⟩)) := fif qF.1 rfl hP rfl
      clear qO qF
      go_simp
      exact hK _ _ (Below.refl _ _) rfl
    refine BOk.optT rfl [8] [] rfl 6 true rfl rfl rfl rfl (by kernel_rfl) (by kernel_rfl) (by kernel_rfl) (fun hp hc hP qK qa wr hB qO qF hK => ?_) ?_
    · have e164 : qa.tmps[164]? = some (.pointer (some ⟨kk, 0, none⟩)) := fif qF.1 rfl hP rfl
      clear qO qF
      go_simp
      exact hK _ _ (Below.refl _ _) rfl
    refine BOk.optT rfl [9] [] rfl 6 true rfl rfl rfl rfl (by kernel_rfl) (by kernel_rfl) (by kernel_rfl) (fun hp hc hP qK qa wr hB qO qF hK => ?_) ?_
    · have e165 : qa.tmps[165]? = some (.pointer (some ⟨kk, 5, none⟩)) := fif qF.1 rfl hP rfl
      clear qO qF
      have hk5 := (bcell hB _ _ (World.block_lt_of_cell? _ _ k5)).trans k5
      go_simp
      exact hK _ _ (Below.refl _ _) rfl
    refine BOk.optT rfl [] [3] rfl 6 true rfl rfl rfl rfl (by kernel_rfl) (by kernel_rfl) (by kernel_rfl) (fun hp hc hP qK qa wr hB qO qF hK => ?_) ?_
    · have e3 : qa.tmps[3]? = some (.pointer (some ⟨w.heap.size, 0, none⟩)) := qO.1.trans rfl
      clear qO qF
      go_simp
      exact hK _ _ (Below.refl _ _) rfl
    refine BOk.optT rfl [11] [] rfl 6 true rfl rfl rfl rfl (by kernel_rfl) (by kernel_rfl) (by kernel_rfl) (fun hp hc hP qK qa wr hB qO qF hK => ?_) ?_
    · have e167 : qa.tmps[167]? = some (.pointer (some ⟨w.heap.size, 2, none⟩)) := fif qF.1 rfl hP rfl
      clear qO qF
      have hx2 := (bcell hB _ _ (World.block_lt_of_cell? _ _ x2)).trans x2
      go_simp
      exact hK _ _ (Below.refl _ _) rfl
    refine BOk.optT rfl [10, 12] [] rfl 6 true rfl rfl rfl rfl (by kernel_rfl) (by kernel_rfl) (by kernel_rfl) (fun hp hc hP qK qa wr hB qO qF hK => ?_) ?_
    · have e166 : qa.tmps[166]? = some (.map (some rm)) := fif qF.1 rfl hP rfl
      have e168 : qa.tmps[168]? = some (.int .i64 a) := fif qF.2.1 rfl hP rfl
      clear qO qF
      refine wp_lookB (.tmp 166) (.tmp 168) rfl (act_evalG e166) (HR.out.old hB) ha (act_evalG e168) ?_
      exact hK _ _ (Below.refl _ _) rfl
    refine BOk.cons rfl [6, 13] [] rfl rfl (by kernel_rfl) (by kernel_rfl) (fun qK qa wr hB qO qF hK => ?_) ?_
    · have e162 : qa.tmps[162]? = some (.bool (wt && ((b == 0)))) := fis qF.1 rfl rfl
      obtain ⟨u169, e169, r13⟩ := qF.2.1
      have r13 : u169 = (bif (true && ((wt && ((b == 0))) == true)) then .bool (f a) else undef) := r13
      clear qO qF
      rcases (Bool.eq_false_or_eq_true ((wt && ((b == 0))))).symm with hcc | hcc
      · rw [hcc] at e162
        go_simp
        exact hK _ _ (Below.refl _ _) (by show (_ : Value) = _; first | (rw [hcc]; first | rfl | (simp; done)) | (simp_all; done))
      · rw [hcc] at e162
        have e169 : qa.tmps[169]? = some (.bool ((f a))) := (show u169 = .bool ((f a)) from r13.trans (by (first | rw [hcc] | skip); first | rfl | (rw [hP]; rfl))) ▸ e169
        go_simp
        exact hK _ _ (Below.refl _ _) (by show (_ : Value) = _; first | (rw [hcc]; first | rfl | (simp; done)) | (simp_all; done))
    refine BOk.cons rfl [14] [] rfl rfl (by kernel_rfl) (by kernel_rfl) (fun qK qa wr hB qO qF hK => ?_) ?_
    · have e170 : qa.tmps[170]? = some (.bool ((wt && ((b == 0))) && (f a))) := fis qF.1 rfl rfl
      clear qO qF
      go_simp
      exact hK _ _ (Below.refl _ _) (by first | rfl | (show (_ : Value) = _; simp_all; done))
    exact BOk.nil
  intro vals wr hl hB hR
  match vals, hl with
  | [z13_156, z13_157, z13_158, z13_159, z13_160, z13_161, z13_162, z13_163, z13_164, z13_165, z13_166, z13_167, z13_168, z13_169, z13_170, z13_4], _ =>
  have r15 : z13_4 = .bool ((wt && ((b == 0))) && (f a)) := hR 15 _ rfl
  subst r15
  clear hR
  simp only [List.cons_append, List.nil_append, putAll, Act.put, List.setIfInBounds_toArray, List.set_cons_zero, List.set_cons_succ]
  go_wp2_with fail
  go_ret
  exact ⟨rfl, HB.out.trans (hB.mono HB.out.size)⟩

set_option maxRecDepth 100000 in
set_option maxHeartbeats 4000000 in
theorem right_two (op : Int) (g50 : op ≠ 50) (g51 : op ≠ 51) (g52 : op ≠ 52) (g53 : op ≠ 53) (g54 : op ≠ 54) (hop : ¬ oneB op) (dst a b : Int) (ha : I64 a) (hb : I64 b) (B : Nat) (m : ChkV) (cd : CodeV) (k : Nat) (f g : Int → Bool) (w : World) (h : Chk w B m cd k f g) :
    Calls Try.prog 28 #[.pointer (some ⟨m.kk, 0, none⟩), .agg #[.int .i64 op, .int .i64 dst, .int .i64 a, .int .i64 b]] w fun e w' => e = .returned (.bool ((((((decide (1 ≤ op)) && (decide (op ≤ 14))) && (decide (0 ≤ dst) && decide (dst < cd.nr))) && (f a)) && (f b)))) ∧ Below w.heap.size w w' := by
  obtain ⟨kk, rm, sm⟩ := m
  obtain ⟨nr, ns, Ai, ci, li, Ak, ck, lk, Al, cl, ll⟩ := cd
  have hb0 : Below w.heap.size w (w.alloc (.cells #[.int .i64 op, .int .i64 dst, .int .i64 a, .int .i64 b] 43)) := (Below.refl _ _).alloc (Nat.le_refl _) _
  have kx := Bk.new w 43 #[.int .i64 op, .int .i64 dst, .int .i64 a, .int .i64 b]
  have hk := h.old hb0
  have x0 := kx.cell 0
  have x1 := kx.cell 1
  have x2 := kx.cell 2
  have x3 := kx.cell 3
  have k0 : (w.alloc (.cells #[.int .i64 op, .int .i64 dst, .int .i64 a, .int .i64 b] 43)).cell? ⟨kk, 0, none⟩ = some (.int .i64 nr) := hk.mb.cell 0
  have k1 : (w.alloc (.cells #[.int .i64 op, .int .i64 dst, .int .i64 a, .int .i64 b] 43)).cell? ⟨kk, 1, none⟩ = some (.int .i64 ns) := hk.mb.cell 1
  have k2 : (w.alloc (.cells #[.int .i64 op, .int .i64 dst, .int .i64 a, .int .i64 b] 43)).cell? ⟨kk, 2, none⟩ = some (.slice Ai li.length ci) := hk.mb.cell 2
  have k3 : (w.alloc (.cells #[.int .i64 op, .int .i64 dst, .int .i64 a, .int .i64 b] 43)).cell? ⟨kk, 3, none⟩ = some (.slice Ak lk.length ck) := hk.mb.cell 3
  have k5 : (w.alloc (.cells #[.int .i64 op, .int .i64 dst, .int .i64 a, .int .i64 b] 43)).cell? ⟨kk, 5, none⟩ = some (.map (some rm)) := hk.mb.cell 5
  have k6 : (w.alloc (.cells #[.int .i64 op, .int .i64 dst, .int .i64 a, .int .i64 b] 43)).cell? ⟨kk, 6, none⟩ = some (.map (some sm)) := hk.mb.cell 6
  unfold oneB at hop
  have g50 : (op == 50) = false := by rw [beq_eq_false_iff_ne]; omega
  have g51 : (op == 51) = false := by rw [beq_eq_false_iff_ne]; omega
  have g52 : (op == 52) = false := by rw [beq_eq_false_iff_ne]; omega
  have g53 : (op == 53) = false := by rw [beq_eq_false_iff_ne]; omega
  have g54 : (op == 54) = false := by rw [beq_eq_false_iff_ne]; omega
  have g6 : (op == 6) = false := by rw [beq_eq_false_iff_ne]; omega
  have hone : ((op == 6) || ((decide (15 ≤ op)) && (decide (op ≤ 17)))) = false := by simp; omega
  have HK := Lib.hid hk
  have KX := Lib.hid kx
  have HR := Lib.hid hk.rr
  have HS := Lib.hid hk.ss
  have HB := Lib.hid hb0
  obtain ⟨wt, hwt⟩ : ∃ wt, (decide (0 ≤ dst) && decide (dst < nr)) = wt := ⟨_, rfl⟩
  show Calls _ _ _ _ fun e w' => e = .returned (.bool ((((((decide (1 ≤ op)) && (decide (op ≤ 14))) && (decide (0 ≤ dst) && decide (dst < nr))) && (f a)) && (f b)))) ∧ _
  rw [hwt]
  have HW := Lib.hid hwt
  clear hk h kx hb0 hwt
  go_enter Try.func28, Try.ntmps28
  go_wp2_with fail
  refine wp_region_b (by kernel_rfl) (fun qk => (rt1 op dst a b nr ns Ai Ak Al li.length lk.length ll.length ci ck cl rm sm kk f g true w).getD qk .any) (by kernel_rfl) ?_ ?_
  · refine BOk.cons rfl [] [3] rfl rfl (by kernel_rfl) (by kernel_rfl) (fun qK qa wr hB qO qF hK => ?_) ?_
    · have e3 : qa.tmps[3]? = some (.pointer (some ⟨w.heap.size, 0, none⟩)) := qO.1.trans rfl
      clear qO qF
      go_simp
      exact hK _ _ (Below.refl _ _) rfl
    refine BOk.cons rfl [0] [] rfl rfl (by kernel_rfl) (by kernel_rfl) (fun qK qa wr hB qO qF hK => ?_) ?_
    · have e6 : qa.tmps[6]? = some (.pointer (some ⟨w.heap.size, 1, none⟩)) := fis qF.1 rfl rfl
      clear qO qF
      have hx1 := (bcell hB _ _ (World.block_lt_of_cell? _ _ x1)).trans x1
      go_simp
      exact hK _ _ (Below.refl _ _) rfl
    refine BOk.cons rfl [1] [] rfl rfl (by kernel_rfl) (by kernel_rfl) (fun qK qa wr hB qO qF hK => ?_) ?_
    · have e7 : qa.tmps[7]? = some (.int .i64 dst) := fis qF.1 rfl rfl
      clear qO qF
      go_simp
      refine hK _ _ (Below.refl _ _) ?_
      show (_ : Value) = _
      first | rfl | (simp; done) | (simp; omega) | (congr 1; simp; done) | (congr 1; rw [decide_eq_decide]; omega)
    refine BOk.cons rfl [2] [] rfl rfl (by kernel_rfl) (by kernel_rfl) (fun qK qa wr hB qO qF hK => ?_) ?_
    · have e8 : qa.tmps[8]? = some (.bool (decide (0 ≤ dst))) := fis qF.1 rfl rfl
      clear qO qF
      go_simp
      exact hK _ _ (Below.refl _ _) (by first | rfl | (show (_ : Value) = _; simp_all; done))
    refine BOk.optT rfl [] [3] rfl 3 true rfl rfl rfl rfl (by kernel_rfl) (by kernel_rfl) (by kernel_rfl) (fun hp hc hP qK qa wr hB qO qF hK => ?_) ?_
    · have e3 : qa.tmps[3]? = some (.pointer (some ⟨w.heap.size, 0, none⟩)) := qO.1.trans rfl
      clear qO qF
      go_simp
      exact hK _ _ (Below.refl _ _) rfl
    refine BOk.optT rfl [4] [] rfl 3 true rfl rfl rfl rfl (by kernel_rfl) (by kernel_rfl) (by kernel_rfl) (fun hp hc hP qK qa wr hB qO qF hK => ?_) ?_
    · have e10 : qa.tmps[10]? = some (.pointer (some ⟨w.heap.size, 1, none⟩)) := fif qF.1 rfl hP rfl
      clear qO qF
      have hx1 := (bcell hB _ _ (World.block_lt_of_cell? _ _ x1)).trans x1
      go_simp
      exact hK _ _ (Below.refl _ _) rfl
    refine BOk.optT rfl [] [0] rfl 3 true rfl rfl rfl rfl (by kernel_rfl) (by kernel_rfl) (by kernel_rfl) (fun hp hc hP qK qa wr hB qO qF hK => ?_) ?_
    · have e0 : qa.tmps[0]? = some (.pointer (some ⟨kk, 0, none⟩)) := qO.1.trans rfl
      clear qO qF
      go_simp
      exact hK _ _ (Below.refl _ _) rfl
    refine BOk.optT rfl [6] [] rfl 3 true rfl rfl rfl rfl (by kernel_rfl) (by kernel_rfl) (by kernel_rfl) (fun hp hc hP qK qa wr hB qO qF hK => ?_) ?_
    · have e12 : qa.tmps[12]? = some (.pointer (some ⟨kk, 0, none⟩)) := fif qF.1 rfl hP rfl
      clear qO qF
      go_simp
      exact hK _ _ (Below.refl _ _) rfl
    refine BOk.optT rfl [7] [] rfl 3 true rfl rfl rfl rfl (by kernel_rfl) (by kernel_rfl) (by kernel_rfl) (fun hp hc hP qK qa wr hB qO qF hK => ?_) ?_
    · have e13 : qa.tmps[13]? = some (.pointer (some ⟨kk, 0, none⟩)) := fif qF.1 rfl hP rfl
      clear qO qF
      go_simp
      exact hK _ _ (Below.refl _ _) rfl
    refine BOk.optT rfl [8] [] rfl 3 true rfl rfl rfl rfl (by kernel_rfl) (by kernel_rfl) (by kernel_rfl) (fun hp hc hP qK qa wr hB qO qF hK => ?_) ?_
    · have e14 : qa.tmps[14]? = some (.pointer (some ⟨kk, 0, none⟩)) := fif qF.1 rfl hP rfl
      clear qO qF
      go_simp
      exact hK _ _ (Below.refl _ _) rfl
    refine BOk.optT rfl [9] [] rfl 3 true rfl rfl rfl rfl (by kernel_rfl) (by kernel_rfl) (by kernel_rfl) (fun hp hc hP qK qa wr hB qO qF hK => ?_) ?_
    · have e15 : qa.tmps[15]? = some (.pointer (some ⟨kk, 0, none⟩)) := fif qF.1 rfl hP rfl
      clear qO qF
      have hk0 := (bcell hB _ _ (World.block_lt_of_cell? _ _ k0)).trans k0
      go_simp
      exact hK _ _ (Below.refl _ _) rfl
    refine BOk.optT rfl [5, 10] [] rfl 3 true rfl rfl rfl rfl (by kernel_rfl) (by kernel_rfl) (by kernel_rfl) (fun hp hc hP qK qa wr hB qO qF hK => ?_) ?_
    · have e11 : qa.tmps[11]? = some (.int .i64 dst) := fif qF.1 rfl hP rfl
      have e16 : qa.tmps[16]? = some (.int .i64 nr) := fif qF.2.1 rfl hP rfl
      clear qO qF
      go_simp
      refine hK _ _ (Below.refl _ _) ?_
      show (_ : Value) = _
      first | rfl | (simp; done) | (simp; omega) | (congr 1; simp; done) | (congr 1; rw [decide_eq_decide]; omega)
    refine BOk.cons rfl [3, 11] [] rfl rfl (by kernel_rfl) (by kernel_rfl) (fun qK qa wr hB qO qF hK => ?_) ?_
    · have e9 : qa.tmps[9]? = some (.bool (decide (0 ≤ dst))) := fis qF.1 rfl rfl
      obtain ⟨u17, e17, r11⟩ := qF.2.1
      have r11 : u17 = (bif (true && ((decide (0 ≤ dst)) == true)) then .bool (decide (dst < nr)) else undef) := r11
      clear qO qF
      rcases (Bool.eq_false_or_eq_true ((decide (0 ≤ dst)))).symm with hcc | hcc
      · rw [hcc] at e9
        go_simp
        exact hK _ _ (Below.refl _ _) (by show (_ : Value) = _; first | (rw [hcc]; first | rfl | (simp; done)) | (simp_all; done))
      · rw [hcc] at e9
        have e17 : qa.tmps[17]? = some (.bool ((decide (dst < nr)))) := (show u17 = .bool ((decide (dst < nr))) from r11.trans (by (first | rw [hcc] | skip); first | rfl | (rw [hP]; rfl))) ▸ e17
        go_simp
        exact hK _ _ (Below.refl _ _) (by show (_ : Value) = _; first | (rw [hcc]; first | rfl | (simp; done)) | (simp_all; done))
    refine BOk.cons rfl [12] [] rfl rfl (by kernel_rfl) (by kernel_rfl) (fun qK qa wr hB qO qF hK => ?_) ?_
    · have e18 : qa.tmps[18]? = some (.bool ((decide (0 ≤ dst)) && (decide (dst < nr)))) := fis qF.1 rfl rfl
      clear qO qF
      go_simp
      exact hK _ _ (Below.refl _ _) (by first | rfl | (show (_ : Value) = _; simp_all; done))
    exact BOk.nil
  intro vals wr hl hB hR
  match vals, hl with
  | [z1_6, z1_7, z1_8, z1_9, z1_10, z1_11, z1_12, z1_13, z1_14, z1_15, z1_16, z1_17, z1_18, z1_5], _ =>
  have r13 : z1_5 = .bool ((decide (0 ≤ dst)) && (decide (dst < nr))) := hR 13 _ rfl
  subst r13
  clear hR
  simp only [List.cons_append, List.nil_append, putAll, Act.put, List.setIfInBounds_toArray, List.set_cons_zero, List.set_cons_succ]
  rw [HW.out]
  have HK := Lib.hid (HK.out.old hB)
  have KX := Lib.hid (KX.out.old hB)
  have HB := Lib.hid (HB.out.trans (hB.mono HB.out.size))
  have HR := Lib.hid HK.out.rr
  have HS := Lib.hid HK.out.ss
  clear x0 x1 x2 x3 k0 k1 k2 k3 k5 k6 hB
  have x0 : wr.cell? ⟨w.heap.size, 0, none⟩ = some (.int .i64 op) := KX.out.cell 0
  have x1 : wr.cell? ⟨w.heap.size, 1, none⟩ = some (.int .i64 dst) := KX.out.cell 1
  have x2 : wr.cell? ⟨w.heap.size, 2, none⟩ = some (.int .i64 a) := KX.out.cell 2
  have x3 : wr.cell? ⟨w.heap.size, 3, none⟩ = some (.int .i64 b) := KX.out.cell 3
  have k0 : wr.cell? ⟨kk, 0, none⟩ = some (.int .i64 nr) := HK.out.mb.cell 0
  have k1 : wr.cell? ⟨kk, 1, none⟩ = some (.int .i64 ns) := HK.out.mb.cell 1
  have k2 : wr.cell? ⟨kk, 2, none⟩ = some (.slice Ai li.length ci) := HK.out.mb.cell 2
  have k3 : wr.cell? ⟨kk, 3, none⟩ = some (.slice Ak lk.length ck) := HK.out.mb.cell 3
  have k5 : wr.cell? ⟨kk, 5, none⟩ = some (.map (some rm)) := HK.out.mb.cell 5
  have k6 : wr.cell? ⟨kk, 6, none⟩ = some (.map (some sm)) := HK.out.mb.cell 6
  go_upto_region 12 with fail
  refine wp_region_s (fun qk => (rt12 op dst a b nr ns Ai Ak Al li.length lk.length ll.length ci ck cl rm sm kk f g wt w).getD qk .any) (by kernel_rfl) ?_ ?_
  · refine BOk.cons rfl [] [3] rfl rfl (by kernel_rfl) (by kernel_rfl) (fun qK qa wr hB qO qF hK => ?_) ?_
    · have e3 : qa.tmps[3]? = some (.pointer (some ⟨w.heap.size, 0, none⟩)) := qO.1.trans rfl
      clear qO qF
      go_simp
      exact hK _ _ (Below.refl _ _) rfl
    refine BOk.cons rfl [0] [] rfl rfl (by kernel_rfl) (by kernel_rfl) (fun qK qa wr hB qO qF hK => ?_) ?_
    · have e143 : qa.tmps[143]? = some (.pointer (some ⟨w.heap.size, 0, none⟩)) := fis qF.1 rfl rfl
      clear qO qF
      have hx0 := (bcell hB _ _ (World.block_lt_of_cell? _ _ x0)).trans x0
      go_simp
      exact hK _ _ (Below.refl _ _) rfl
    refine BOk.cons rfl [1] [] rfl rfl (by kernel_rfl) (by kernel_rfl) (fun qK qa wr hB qO qF hK => ?_) ?_
    · have e144 : qa.tmps[144]? = some (.int .i64 op) := fis qF.1 rfl rfl
      clear qO qF
      go_simp
      refine hK _ _ (Below.refl _ _) ?_
      show (_ : Value) = _
      first | rfl | (simp; done) | (simp; omega) | (congr 1; simp; done) | (congr 1; rw [decide_eq_decide]; omega)
    refine BOk.cons rfl [2] [] rfl rfl (by kernel_rfl) (by kernel_rfl) (fun qK qa wr hB qO qF hK => ?_) ?_
    · have e145 : qa.tmps[145]? = some (.bool ((op == 6))) := fis qF.1 rfl rfl
      clear qO qF
      go_simp
      exact hK _ _ (Below.refl _ _) (by first | rfl | (show (_ : Value) = _; simp_all; done))
    refine BOk.optT rfl [] [3] rfl 3 false rfl rfl rfl rfl (by kernel_rfl) (by kernel_rfl) (by kernel_rfl) (fun hp hc hP qK qa wr hB qO qF hK => ?_) ?_
    · have e3 : qa.tmps[3]? = some (.pointer (some ⟨w.heap.size, 0, none⟩)) := qO.1.trans rfl
      clear qO qF
      go_simp
      exact hK _ _ (Below.refl _ _) rfl
    refine BOk.optT rfl [4] [] rfl 3 false rfl rfl rfl rfl (by kernel_rfl) (by kernel_rfl) (by kernel_rfl) (fun hp hc hP qK qa wr hB qO qF hK => ?_) ?_
    · have e147 : qa.tmps[147]? = some (.pointer (some ⟨w.heap.size, 0, none⟩)) := fif qF.1 rfl hP rfl
      clear qO qF
      have hx0 := (bcell hB _ _ (World.block_lt_of_cell? _ _ x0)).trans x0
      go_simp
      exact hK _ _ (Below.refl _ _) rfl
    refine BOk.optT rfl [5] [] rfl 3 false rfl rfl rfl rfl (by kernel_rfl) (by kernel_rfl) (by kernel_rfl) (fun hp hc hP qK qa wr hB qO qF hK => ?_) ?_
    · have e148 : qa.tmps[148]? = some (.int .i64 op) := fif qF.1 rfl hP rfl
      clear qO qF
      go_simp
      refine hK _ _ (Below.refl _ _) ?_
      show (_ : Value) = _
      first | rfl | (simp; done) | (simp; omega) | (congr 1; simp; done) | (congr 1; rw [decide_eq_decide]; omega)
    refine BOk.optT rfl [6] [] rfl 3 false rfl rfl rfl rfl (by kernel_rfl) (by kernel_rfl) (by kernel_rfl) (fun hp hc hP qK qa wr hB qO qF hK => ?_) ?_
    · have e149 : qa.tmps[149]? = some (.bool (decide (15 ≤ op))) := fif qF.1 rfl hP rfl
      clear qO qF
      go_simp
      exact hK _ _ (Below.refl _ _) (by first | rfl | (show (_ : Value) = _; simp_all; done))
    refine BOk.optX rfl [] [3] rfl 7 true rfl rfl rfl rfl (by kernel_rfl) (by kernel_rfl) (by kernel_rfl) (fun hp hc hP qK qa wr hB qO qF hK => ?_) ?_
    · have e3 : qa.tmps[3]? = some (.pointer (some ⟨w.heap.size, 0, none⟩)) := qO.1.trans rfl
      clear qO qF
      go_simp
      exact hK _ _ (Below.refl _ _) rfl
    refine BOk.optX rfl [8] [] rfl 7 true rfl rfl rfl rfl (by kernel_rfl) (by kernel_rfl) (by kernel_rfl) (fun hp hc hP qK qa wr hB qO qF hK => ?_) ?_
    · have e151 : qa.tmps[151]? = some (.pointer (some ⟨w.heap.size, 0, none⟩)) := fif qF.1 rfl hP rfl
      clear qO qF
      have hx0 := (bcell hB _ _ (World.block_lt_of_cell? _ _ x0)).trans x0
      go_simp
      exact hK _ _ (Below.refl _ _) rfl
    refine BOk.optX rfl [9] [] rfl 7 true rfl rfl rfl rfl (by kernel_rfl) (by kernel_rfl) (by kernel_rfl) (fun hp hc hP qK qa wr hB qO qF hK => ?_) ?_
    · have e152 : qa.tmps[152]? = some (.int .i64 op) := fif qF.1 rfl hP rfl
      clear qO qF
      go_simp
      refine hK _ _ (Below.refl _ _) ?_
      show (_ : Value) = _
      first | rfl | (simp; done) | (simp; omega) | (congr 1; simp; done) | (congr 1; rw [decide_eq_decide]; omega)
    refine BOk.optT rfl [7, 10] [] rfl 3 false rfl rfl rfl rfl (by kernel_rfl) (by kernel_rfl) (by kernel_rfl) (fun hp hc hP qK qa wr hB qO qF hK => ?_) ?_
    · have e150 : qa.tmps[150]? = some (.bool (decide (15 ≤ op))) := fif qF.1 rfl hP rfl
      obtain ⟨u153, e153, r10⟩ := qF.2.1
      have r10 : u153 = (bif ((true && (((op == 6)) == false)) && ((decide (15 ≤ op)) == true)) then .bool (decide (op ≤ 17)) else undef) := r10
      clear qO qF
      rcases (Bool.eq_false_or_eq_true ((decide (15 ≤ op)))).symm with hcc | hcc
      · rw [hcc] at e150
        go_simp
        exact hK _ _ (Below.refl _ _) (by show (_ : Value) = _; first | (rw [hcc]; first | rfl | (simp; done)) | (simp_all; done))
      · rw [hcc] at e150
        have e153 : qa.tmps[153]? = some (.bool ((decide (op ≤ 17)))) := (show u153 = .bool ((decide (op ≤ 17))) from r10.trans (by (first | rw [hcc] | skip); first | rfl | (rw [hP]; rfl))) ▸ e153
        go_simp
        exact hK _ _ (Below.refl _ _) (by show (_ : Value) = _; first | (rw [hcc]; first | rfl | (simp; done)) | (simp_all; done))
    refine BOk.cons rfl [3, 11] [] rfl rfl (by kernel_rfl) (by kernel_rfl) (fun qK qa wr hB qO qF hK => ?_) ?_
    · have e146 : qa.tmps[146]? = some (.bool ((op == 6))) := fis qF.1 rfl rfl
      obtain ⟨u154, e154, r11⟩ := qF.2.1
      have r11 : u154 = (bif (true && (((op == 6)) == false)) then .bool ((decide (15 ≤ op)) && (decide (op ≤ 17))) else undef) := r11
      clear qO qF
      rcases (Bool.eq_false_or_eq_true (((op == 6)))).symm with hcc | hcc
      · rw [hcc] at e146
        have e154 : qa.tmps[154]? = some (.bool (((decide (15 ≤ op)) && (decide (op ≤ 17))))) := (show u154 = .bool (((decide (15 ≤ op)) && (decide (op ≤ 17)))) from r11.trans (by (first | rw [hcc] | skip); first | rfl | (rw [hP]; rfl))) ▸ e154
        go_simp
        exact hK _ _ (Below.refl _ _) (by show (_ : Value) = _; first | (rw [hcc]; first | rfl | (simp; done)) | (simp_all; done))
      · rw [hcc] at e146
        go_simp
        exact hK _ _ (Below.refl _ _) (by show (_ : Value) = _; first | (rw [hcc]; first | rfl | (simp; done)) | (simp_all; done))
    refine BOk.cons rfl [12] [] rfl rfl (by kernel_rfl) (by kernel_rfl) (fun qK qa wr hB qO qF hK => ?_) ?_
    · have e155 : qa.tmps[155]? = some (.bool (((op == 6)) || ((decide (15 ≤ op)) && (decide (op ≤ 17))))) := fis qF.1 rfl rfl
      clear qO qF
      go_simp
      exact hK _ _ (Below.refl _ _) (by first | rfl | (show (_ : Value) = _; simp_all; done))
    exact BOk.nil
  intro vals wr hl hB hR
  match vals, hl with
  | [z12_143, z12_144, z12_145, z12_146, z12_147, z12_148, z12_149, z12_150, z12_151, z12_152, z12_153, z12_154, z12_155, z12_142], _ =>
  have r13 : z12_142 = .bool (((op == 6)) || ((decide (15 ≤ op)) && (decide (op ≤ 17)))) := hR 13 _ rfl
  subst r13
  clear hR
  simp only [List.cons_append, List.nil_append, putAll, Act.put, List.setIfInBounds_toArray, List.set_cons_zero, List.set_cons_succ]
  rw [hone]
  have HK := Lib.hid (HK.out.old hB)
  have KX := Lib.hid (KX.out.old hB)
  have HB := Lib.hid (HB.out.trans (hB.mono HB.out.size))
  have HR := Lib.hid HK.out.rr
  have HS := Lib.hid HK.out.ss
  clear x0 x1 x2 x3 k0 k1 k2 k3 k5 k6 hB
  have x0 : wr.cell? ⟨w.heap.size, 0, none⟩ = some (.int .i64 op) := KX.out.cell 0
  have x1 : wr.cell? ⟨w.heap.size, 1, none⟩ = some (.int .i64 dst) := KX.out.cell 1
  have x2 : wr.cell? ⟨w.heap.size, 2, none⟩ = some (.int .i64 a) := KX.out.cell 2
  have x3 : wr.cell? ⟨w.heap.size, 3, none⟩ = some (.int .i64 b) := KX.out.cell 3
  have k0 : wr.cell? ⟨kk, 0, none⟩ = some (.int .i64 nr) := HK.out.mb.cell 0
  have k1 : wr.cell? ⟨kk, 1, none⟩ = some (.int .i64 ns) := HK.out.mb.cell 1
  have k2 : wr.cell? ⟨kk, 2, none⟩ = some (.slice Ai li.length ci) := HK.out.mb.cell 2
  have k3 : wr.cell? ⟨kk, 3, none⟩ = some (.slice Ak lk.length ck) := HK.out.mb.cell 3
  have k5 : wr.cell? ⟨kk, 5, none⟩ = some (.map (some rm)) := HK.out.mb.cell 5
  have k6 : wr.cell? ⟨kk, 6, none⟩ = some (.map (some sm)) := HK.out.mb.cell 6
  go_wp2_with fail
  refine wp_region_b (by kernel_rfl) (fun qk => (rt14 op dst a b nr ns Ai Ak Al li.length lk.length ll.length ci ck cl rm sm kk f g wt w).getD qk .any) (by kernel_rfl) ?_ ?_
  · refine BOk.cons rfl [] [3] rfl rfl (by kernel_rfl) (by kernel_rfl) (fun qK qa wr hB qO qF hK => ?_) ?_
    · have e3 : qa.tmps[3]? = some (.pointer (some ⟨w.heap.size, 0, none⟩)) := qO.1.trans rfl
      clear qO qF
      go_simp
      exact hK _ _ (Below.refl _ _) rfl
    refine BOk.cons rfl [0] [] rfl rfl (by kernel_rfl) (by kernel_rfl) (fun qK qa wr hB qO qF hK => ?_) ?_
    · have e171 : qa.tmps[171]? = some (.pointer (some ⟨w.heap.size, 0, none⟩)) := fis qF.1 rfl rfl
      clear qO qF
      have hx0 := (bcell hB _ _ (World.block_lt_of_cell? _ _ x0)).trans x0
      go_simp
      exact hK _ _ (Below.refl _ _) rfl
    refine BOk.cons rfl [1] [] rfl rfl (by kernel_rfl) (by kernel_rfl) (fun qK qa wr hB qO qF hK => ?_) ?_
    · have e172 : qa.tmps[172]? = some (.int .i64 op) := fis qF.1 rfl rfl
      clear qO qF
      go_simp
      refine hK _ _ (Below.refl _ _) ?_
      show (_ : Value) = _
      first | rfl | (simp; done) | (simp; omega) | (congr 1; simp; done) | (congr 1; rw [decide_eq_decide]; omega)
    refine BOk.cons rfl [2] [] rfl rfl (by kernel_rfl) (by kernel_rfl) (fun qK qa wr hB qO qF hK => ?_) ?_
    · have e173 : qa.tmps[173]? = some (.bool (decide (1 ≤ op))) := fis qF.1 rfl rfl
      clear qO qF
      go_simp
      exact hK _ _ (Below.refl _ _) (by first | rfl | (show (_ : Value) = _; simp_all; done))
    refine BOk.optT rfl [] [3] rfl 3 true rfl rfl rfl rfl (by kernel_rfl) (by kernel_rfl) (by kernel_rfl) (fun hp hc hP qK qa wr hB qO qF hK => ?_) ?_
    · have e3 : qa.tmps[3]? = some (.pointer (some ⟨w.heap.size, 0, none⟩)) := qO.1.trans rfl
      clear qO qF
      go_simp
      exact hK _ _ (Below.refl _ _) rfl
    refine BOk.optT rfl [4] [] rfl 3 true rfl rfl rfl rfl (by kernel_rfl) (by kernel_rfl) (by kernel_rfl) (fun hp hc hP qK qa wr hB qO qF hK => ?_) ?_
    · have e175 : qa.tmps[175]? = some (.pointer (some ⟨w.heap.size, 0, none⟩)) := fif qF.1 rfl hP rfl
      clear qO qF
      have hx0 := (bcell hB _ _ (World.block_lt_of_cell? _ _ x0)).trans x0
      go_simp
      exact hK _ _ (Below.refl _ _) rfl
    refine BOk.optT rfl [5] [] rfl 3 true rfl rfl rfl rfl (by kernel_rfl) (by kernel_rfl) (by kernel_rfl) (fun hp hc hP qK qa wr hB qO qF hK => ?_) ?_
    · have e176 : qa.tmps[176]? = some (.int .i64 op) := fif qF.1 rfl hP rfl
      clear qO qF
      go_simp
      refine hK _ _ (Below.refl _ _) ?_
      show (_ : Value) = _
      first | rfl | (simp; done) | (simp; omega) | (congr 1; simp; done) | (congr 1; rw [decide_eq_decide]; omega)
    refine BOk.cons rfl [3, 6] [] rfl rfl (by kernel_rfl) (by kernel_rfl) (fun qK qa wr hB qO qF hK => ?_) ?_
    · have e174 : qa.tmps[174]? = some (.bool (decide (1 ≤ op))) := fis qF.1 rfl rfl
      obtain ⟨u177, e177, r6⟩ := qF.2.1
      have r6 : u177 = (bif (true && ((decide (1 ≤ op)) == true)) then .bool (decide (op ≤ 14)) else undef) := r6
      clear qO qF
      rcases (Bool.eq_false_or_eq_true ((decide (1 ≤ op)))).symm with hcc | hcc
      · rw [hcc] at e174
        go_simp
        exact hK _ _ (Below.refl _ _) (by show (_ : Value) = _; first | (rw [hcc]; first | rfl | (simp; done)) | (simp_all; done))
      · rw [hcc] at e174
        have e177 : qa.tmps[177]? = some (.bool ((decide (op ≤ 14)))) := (show u177 = .bool ((decide (op ≤ 14))) from r6.trans (by (first | rw [hcc] | skip); first | rfl | (rw [hP]; rfl))) ▸ e177
        go_simp
        exact hK _ _ (Below.refl _ _) (by show (_ : Value) = _; first | (rw [hcc]; first | rfl | (simp; done)) | (simp_all; done))
    refine BOk.cons rfl [7] [] rfl rfl (by kernel_rfl) (by kernel_rfl) (fun qK qa wr hB qO qF hK => ?_) ?_
    · have e178 : qa.tmps[178]? = some (.bool ((decide (1 ≤ op)) && (decide (op ≤ 14)))) := fis qF.1 rfl rfl
      clear qO qF
      go_simp
      exact hK _ _ (Below.refl _ _) (by first | rfl | (show (_ : Value) = _; simp_all; done))
    refine BOk.optT rfl [] [5] rfl 8 true rfl rfl rfl rfl (by kernel_rfl) (by kernel_rfl) (by kernel_rfl) (fun hp hc hP qK qa wr hB qO qF hK => ?_) ?_
    · have e5 : qa.tmps[5]? = some (.bool wt) := qO.1.trans rfl
      clear qO qF
      go_simp
      exact hK _ _ (Below.refl _ _) (by first | rfl | (show (_ : Value) = _; simp_all; done))
    refine BOk.cons rfl [8, 9] [] rfl rfl (by kernel_rfl) (by kernel_rfl) (fun qK qa wr hB qO qF hK => ?_) ?_
    · have e179 : qa.tmps[179]? = some (.bool ((decide (1 ≤ op)) && (decide (op ≤ 14)))) := fis qF.1 rfl rfl
      obtain ⟨u180, e180, r9⟩ := qF.2.1
      have r9 : u180 = (bif (true && (((decide (1 ≤ op)) && (decide (op ≤ 14))) == true)) then .bool wt else undef) := r9
      clear qO qF
      rcases (Bool.eq_false_or_eq_true (((decide (1 ≤ op)) && (decide (op ≤ 14))))).symm with hcc | hcc
      · rw [hcc] at e179
        go_simp
        exact hK _ _ (Below.refl _ _) (by show (_ : Value) = _; first | (rw [hcc]; first | rfl | (simp; done)) | (simp_all; done))
      · rw [hcc] at e179
        have e180 : qa.tmps[180]? = some (.bool (wt)) := (show u180 = .bool (wt) from r9.trans (by (first | rw [hcc] | skip); first | rfl | (rw [hP]; rfl))) ▸ e180
        go_simp
        exact hK _ _ (Below.refl _ _) (by show (_ : Value) = _; first | (rw [hcc]; first | rfl | (simp; done)) | (simp_all; done))
    refine BOk.cons rfl [10] [] rfl rfl (by kernel_rfl) (by kernel_rfl) (fun qK qa wr hB qO qF hK => ?_) ?_
    · have e181 : qa.tmps[181]? = some (.bool (((decide (1 ≤ op)) && (decide (op ≤ 14))) && wt)) := fis qF.1 rfl rfl
      clear qO qF
      go_simp
      exact hK _ _ (Below.refl _ _) (by first | rfl | (show (_ : Value) = _; simp_all; done))
    refine BOk.optT rfl [] [0] rfl 11 true rfl rfl rfl rfl (by kernel_rfl) (by kernel_rfl) (by kernel_rfl) (fun hp hc hP qK qa wr hB qO qF hK => ?_) ?_
    · have e0 : qa.tmps[0]? = some (.pointer (some ⟨kk, 0, none⟩)) := qO.1.trans rfl
      clear qO qF
      go_simp
      exact hK _ _ (Below.refl _ _) rfl
    refine BOk.optT rfl [12] [] rfl 11 true rfl rfl rfl rfl (by kernel_rfl) (by kernel_rfl) (by kernel_rfl) (fun hp hc hP qK qa wr hB qO qF hK => ?_) ?_
    · have e183 : qa.tmps[183]? = some (.pointer (some ⟨kk, 0, none⟩)) := fif qF.1 rfl hP rfl
      clear qO qF
      go_simp
      exact hK _ _ (Below.refl _ _) rfl
    refine BOk.optT rfl [13] [] rfl 11 true rfl rfl rfl rfl (by kernel_rfl) (by kernel_rfl) (by kernel_rfl) (fun hp hc hP qK qa wr hB qO qF hK => ?_) ?_
    · have e184 : qa.tmps[184]? = some (.pointer (some ⟨kk, 0, none⟩)) := fif qF.1 rfl hP rfl
      clear qO qF
      go_simp
      exact hK _ _ (Below.refl _ _) rfl
    refine BOk.optT rfl [14] [] rfl 11 true rfl rfl rfl rfl (by kernel_rfl) (by kernel_rfl) (by kernel_rfl) (fun hp hc hP qK qa wr hB qO qF hK => ?_) ?_
    · have e185 : qa.tmps[185]? = some (.pointer (some ⟨kk, 5, none⟩)) := fif qF.1 rfl hP rfl
      clear qO qF
      have hk5 := (bcell hB _ _ (World.block_lt_of_cell? _ _ k5)).trans k5
      go_simp
      exact hK _ _ (Below.refl _ _) rfl
    refine BOk.optT rfl [] [3] rfl 11 true rfl rfl rfl rfl (by kernel_rfl) (by kernel_rfl) (by kernel_rfl) (fun hp hc hP qK qa wr hB qO qF hK => ?_) ?_
    · have e3 : qa.tmps[3]? = some (.pointer (some ⟨w.heap.size, 0, none⟩)) := qO.1.trans rfl
      clear qO qF
      go_simp
      exact hK _ _ (Below.refl _ _) rfl
    refine BOk.optT rfl [16] [] rfl 11 true rfl rfl rfl rfl (by kernel_rfl) (by kernel_rfl) (by kernel_rfl) (fun hp hc hP qK qa wr hB qO qF hK => ?_) ?_
    · have e187 : qa.tmps[187]? = some (.pointer (some ⟨w.heap.size, 2, none⟩)) := fif qF.1 rfl hP rfl
      clear qO qF
      have hx2 := (bcell hB _ _ (World.block_lt_of_cell? _ _ x2)).trans x2
      go_simp
      exact hK _ _ (Below.refl _ _) rfl
    refine BOk.optT rfl [15, 17] [] rfl 11 true rfl rfl rfl rfl (by kernel_rfl) (by kernel_rfl) (by kernel_rfl) (fun hp hc hP qK qa wr hB qO qF hK => ?_) ?_
    · have e186 : qa.tmps[186]? = some (.map (some rm)) := fif qF.1 rfl hP rfl
      have e188 : qa.tmps[188]? = some (.int .i64 a) := fif qF.2.1 rfl hP rfl
      clear qO qF
      refine wp_lookB (.tmp 186) (.tmp 188) rfl (act_evalG e186) (HR.out.old hB) ha (act_evalG e188) ?_
      exact hK _ _ (Below.refl _ _) rfl
    refine BOk.cons rfl [11, 18] [] rfl rfl (by kernel_rfl) (by kernel_rfl) (fun qK qa wr hB qO qF hK => ?_) ?_
    · have e182 : qa.tmps[182]? = some (.bool (((decide (1 ≤ op)) && (decide (op ≤ 14))) && wt)) := fis qF.1 rfl rfl
      obtain ⟨u189, e189, r18⟩ := qF.2.1
      have r18 : u189 = (bif (true && ((((decide (1 ≤ op)) && (decide (op ≤ 14))) && wt) == true)) then .bool (f a) else undef) := r18
      clear qO qF
      rcases (Bool.eq_false_or_eq_true ((((decide (1 ≤ op)) && (decide (op ≤ 14))) && wt))).symm with hcc | hcc
      · rw [hcc] at e182
        go_simp
        exact hK _ _ (Below.refl _ _) (by show (_ : Value) = _; first | (rw [hcc]; first | rfl | (simp; done)) | (simp_all; done))
      · rw [hcc] at e182
        have e189 : qa.tmps[189]? = some (.bool ((f a))) := (show u189 = .bool ((f a)) from r18.trans (by (first | rw [hcc] | skip); first | rfl | (rw [hP]; rfl))) ▸ e189
        go_simp
        exact hK _ _ (Below.refl _ _) (by show (_ : Value) = _; first | (rw [hcc]; first | rfl | (simp; done)) | (simp_all; done))
    refine BOk.cons rfl [19] [] rfl rfl (by kernel_rfl) (by kernel_rfl) (fun qK qa wr hB qO qF hK => ?_) ?_
    · have e190 : qa.tmps[190]? = some (.bool ((((decide (1 ≤ op)) && (decide (op ≤ 14))) && wt) && (f a))) := fis qF.1 rfl rfl
      clear qO qF
      go_simp
      exact hK _ _ (Below.refl _ _) (by first | rfl | (show (_ : Value) = _; simp_all; done))
    refine BOk.optT rfl [] [0] rfl 20 true rfl rfl rfl rfl (by kernel_rfl) (by kernel_rfl) (by kernel_rfl) (fun hp hc hP qK qa wr hB qO qF hK => ?_) ?_
    · have e0 : qa.tmps[0]? = some (.pointer (some ⟨kk, 0, none⟩)) := qO.1.trans rfl
      clear qO qF
      go_simp
      exact hK _ _ (Below.refl _ _) rfl
    refine BOk.optT rfl [21] [] rfl 20 true rfl rfl rfl rfl (by kernel_rfl) (by kernel_rfl) (by kernel_rfl) (fun hp hc hP qK qa wr hB qO qF hK => ?_) ?_
    · have e192 : qa.tmps[192]? = some (.pointer (some ⟨kk, 0, none⟩)) := fif qF.1 rfl hP rfl
      clear qO qF
      go_simp
      exact hK _ _ (Below.refl _ _) rfl
    refine BOk.optT rfl [22] [] rfl 20 true rfl rfl rfl rfl (by kernel_rfl) (by kernel_rfl) (by kernel_rfl) (fun hp hc hP qK qa wr hB qO qF hK => ?_) ?_
    · have e193 : qa.tmps[193]? = some (.pointer (some ⟨kk, 0, none⟩)) := fif qF.1 rfl hP rfl
      clear qO qF
      go_simp
      exact hK _ _ (Below.refl _ _) rfl
    refine BOk.optT rfl [23] [] rfl 20 true rfl rfl rfl rfl (by kernel_rfl) (by kernel_rfl) (by kernel_rfl) (fun hp hc hP qK qa wr hB qO qF hK => ?_) ?_
    · have e194 : qa.tmps[194]? = some (.pointer (some ⟨kk, 5, none⟩)) := fif qF.1 rfl hP rfl
      clear qO qF
      have hk5 := (bcell hB _ _ (World.block_lt_of_cell? _ _ k5)).trans k5
      go_simp
      exact hK _ _ (Below.refl _ _) rfl
    refine BOk.optT rfl [] [3] rfl 20 true rfl rfl rfl rfl (by kernel_rfl) (by kernel_rfl) (by kernel_rfl) (fun hp hc hP qK qa wr hB qO qF hK => ?_) ?_
    · have e3 : qa.tmps[3]? = some (.pointer (some ⟨w.heap.size, 0, none⟩)) := qO.1.trans rfl
      clear qO qF
      go_simp
      exact hK _ _ (Below.refl _ _) rfl
    refine BOk.optT rfl [25] [] rfl 20 true rfl rfl rfl rfl (by kernel_rfl) (by kernel_rfl) (by kernel_rfl) (fun hp hc hP qK qa wr hB qO qF hK => ?_) ?_
    · have e196 : qa.tmps[196]? = some (.pointer (some ⟨w.heap.size, 3, none⟩)) := fif qF.1 rfl hP rfl
      clear qO qF
      have hx3 := (bcell hB _ _ (World.block_lt_of_cell? _ _ x3)).trans x3
      go_simp
      exact hK _ _ (Below.refl _ _) rfl
    refine BOk.optT rfl [24, 26] [] rfl 20 true rfl rfl rfl rfl (by kernel_rfl) (by kernel_rfl) (by kernel_rfl) (fun hp hc hP qK qa wr hB qO qF hK => ?_) ?_
    · have e195 : qa.tmps[195]? = some (.map (some rm)) := fif qF.1 rfl hP rfl
      have e197 : qa.tmps[197]? = some (.int .i64 b) := fif qF.2.1 rfl hP rfl
      clear qO qF
      refine wp_lookB (.tmp 195) (.tmp 197) rfl (act_evalG e195) (HR.out.old hB) hb (act_evalG e197) ?_
      exact hK _ _ (Below.refl _ _) rfl
    refine BOk.cons rfl [20, 27] [] rfl rfl (by kernel_rfl) (by kernel_rfl) (fun qK qa wr hB qO qF hK => ?_) ?_
    · have e191 : qa.tmps[191]? = some (.bool ((((decide (1 ≤ op)) && (decide (op ≤ 14))) && wt) && (f a))) := fis qF.1 rfl rfl
      obtain ⟨u198, e198, r27⟩ := qF.2.1
      have r27 : u198 = (bif (true && (((((decide (1 ≤ op)) && (decide (op ≤ 14))) && wt) && (f a)) == true)) then .bool (f b) else undef) := r27
      clear qO qF
      rcases (Bool.eq_false_or_eq_true (((((decide (1 ≤ op)) && (decide (op ≤ 14))) && wt) && (f a)))).symm with hcc | hcc
      · rw [hcc] at e191
        go_simp
        exact hK _ _ (Below.refl _ _) (by show (_ : Value) = _; first | (rw [hcc]; first | rfl | (simp; done)) | (simp_all; done))
      · rw [hcc] at e191
        have e198 : qa.tmps[198]? = some (.bool ((f b))) := (show u198 = .bool ((f b)) from r27.trans (by (first | rw [hcc] | skip); first | rfl | (rw [hP]; rfl))) ▸ e198
        go_simp
        exact hK _ _ (Below.refl _ _) (by show (_ : Value) = _; first | (rw [hcc]; first | rfl | (simp; done)) | (simp_all; done))
    refine BOk.cons rfl [28] [] rfl rfl (by kernel_rfl) (by kernel_rfl) (fun qK qa wr hB qO qF hK => ?_) ?_
    · have e199 : qa.tmps[199]? = some (.bool (((((decide (1 ≤ op)) && (decide (op ≤ 14))) && wt) && (f a)) && (f b))) := fis qF.1 rfl rfl
      clear qO qF
      go_simp
      exact hK _ _ (Below.refl _ _) (by first | rfl | (show (_ : Value) = _; simp_all; done))
    exact BOk.nil
  intro vals wr hl hB hR
  match vals, hl with
  | [z14_171, z14_172, z14_173, z14_174, z14_175, z14_176, z14_177, z14_178, z14_179, z14_180, z14_181, z14_182, z14_183, z14_184, z14_185, z14_186, z14_187, z14_188, z14_189, z14_190, z14_191, z14_192, z14_193, z14_194, z14_195, z14_196, z14_197, z14_198, z14_199, z14_4], _ =>
  have r29 : z14_4 = .bool (((((decide (1 ≤ op)) && (decide (op ≤ 14))) && wt) && (f a)) && (f b)) := hR 29 _ rfl
  subst r29
  clear hR
  simp only [List.cons_append, List.nil_append, putAll, Act.put, List.setIfInBounds_toArray, List.set_cons_zero, List.set_cons_succ]
  go_wp2_with fail
  go_ret
  exact ⟨rfl, HB.out.trans (hB.mono HB.out.size)⟩

end Go.Proofs.Ytadblgfppnpamaa
