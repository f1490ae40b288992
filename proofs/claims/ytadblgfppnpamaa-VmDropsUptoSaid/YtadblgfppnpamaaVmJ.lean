/- Layer 18: which inputs may be, what an instruction reads, by the document. No conditions. -/
import Derived.Test.YtadblgfppnpamaaVmE
import Derived.Test.YtadblgfppnpamaaVmI
namespace Go.Proofs.Ytadblgfppnpamaa
open Go.RowKit
set_option linter.unusedVariables false
set_option linter.unusedSimpArgs false

def lfR (op : Int) : List Spec := [.is (.int .i64 op),
  .is (.bool ((op == 41))),
  .is (.bool ((op == 41))),
  .is (bif (true && (((op == 41)) == false)) then .int .i64 op else undef),
  .is (bif (true && (((op == 41)) == false)) then .bool ((op == 42)) else undef),
  .is (.bool (((op == 41)) || ((op == 42)))),
  .is (.bool (((op == 41)) || ((op == 42)))),
  .is (bif (true && ((((op == 41)) || ((op == 42))) == false)) then .int .i64 op else undef),
  .is (bif (true && ((((op == 41)) || ((op == 42))) == false)) then .bool (decide (25 ≤ op)) else undef),
  .is (bif (true && ((((op == 41)) || ((op == 42))) == false)) then .bool (decide (25 ≤ op)) else undef),
  .is (bif ((true && ((((op == 41)) || ((op == 42))) == false)) && ((decide (25 ≤ op)) == true)) then .int .i64 op else undef),
  .is (bif ((true && ((((op == 41)) || ((op == 42))) == false)) && ((decide (25 ≤ op)) == true)) then .bool (decide (op ≤ 31)) else undef),
  .is (bif (true && ((((op == 41)) || ((op == 42))) == false)) then .bool ((decide (25 ≤ op)) && (decide (op ≤ 31))) else undef),
  .is (.bool ((((op == 41)) || ((op == 42))) || ((decide (25 ≤ op)) && (decide (op ≤ 31))))),
  .is (.bool ((((op == 41)) || ((op == 42))) || ((decide (25 ≤ op)) && (decide (op ≤ 31)))))]
def riR1 (op kind pos attr : Int) (L : Bool) (w : World) : List Spec := [.is (.pointer (some ⟨w.heap.size, 0, none⟩)),
  .is (.int .i64 op),
  .is (.bool L),
  .is (.bool L),
  .is (bif (true && (L == true)) then .pointer (some ⟨w.heap.size, 1, none⟩) else undef),
  .is (bif (true && (L == true)) then .int .i64 kind else undef),
  .is (bif (true && (L == true)) then .bool (decide (1 ≤ kind)) else undef),
  .is (.bool (L && (decide (1 ≤ kind)))),
  .is (.bool (L && (decide (1 ≤ kind)))),
  .is (bif (true && ((L && (decide (1 ≤ kind))) == true)) then .pointer (some ⟨w.heap.size, 1, none⟩) else undef),
  .is (bif (true && ((L && (decide (1 ≤ kind))) == true)) then .int .i64 kind else undef),
  .is (bif (true && ((L && (decide (1 ≤ kind))) == true)) then .bool (decide (kind ≤ 4)) else undef),
  .is (.bool ((L && (decide (1 ≤ kind))) && (decide (kind ≤ 4)))),
  .is (.bool ((L && (decide (1 ≤ kind))) && (decide (kind ≤ 4)))),
  .is (bif (true && (((L && (decide (1 ≤ kind))) && (decide (kind ≤ 4))) == true)) then .pointer (some ⟨w.heap.size, 2, none⟩) else undef),
  .is (bif (true && (((L && (decide (1 ≤ kind))) && (decide (kind ≤ 4))) == true)) then .int .i64 pos else undef),
  .is (bif (true && (((L && (decide (1 ≤ kind))) && (decide (kind ≤ 4))) == true)) then .bool (decide (0 ≤ pos)) else undef),
  .is (.bool (((L && (decide (1 ≤ kind))) && (decide (kind ≤ 4))) && (decide (0 ≤ pos)))),
  .is (.bool (((L && (decide (1 ≤ kind))) && (decide (kind ≤ 4))) && (decide (0 ≤ pos)))),
  .is (bif (true && ((((L && (decide (1 ≤ kind))) && (decide (kind ≤ 4))) && (decide (0 ≤ pos))) == true)) then .pointer (some ⟨w.heap.size, 2, none⟩) else undef),
  .is (bif (true && ((((L && (decide (1 ≤ kind))) && (decide (kind ≤ 4))) && (decide (0 ≤ pos))) == true)) then .int .i64 pos else undef),
  .is (bif (true && ((((L && (decide (1 ≤ kind))) && (decide (kind ≤ 4))) && (decide (0 ≤ pos))) == true)) then .bool (decide (pos ≤ 7)) else undef),
  .is (.bool ((((L && (decide (1 ≤ kind))) && (decide (kind ≤ 4))) && (decide (0 ≤ pos))) && (decide (pos ≤ 7)))),
  .is (.bool ((((L && (decide (1 ≤ kind))) && (decide (kind ≤ 4))) && (decide (0 ≤ pos))) && (decide (pos ≤ 7)))),
  .is (bif (true && (((((L && (decide (1 ≤ kind))) && (decide (kind ≤ 4))) && (decide (0 ≤ pos))) && (decide (pos ≤ 7))) == true)) then .pointer (some ⟨w.heap.size, 3, none⟩) else undef),
  .is (bif (true && (((((L && (decide (1 ≤ kind))) && (decide (kind ≤ 4))) && (decide (0 ≤ pos))) && (decide (pos ≤ 7))) == true)) then .int .i64 attr else undef),
  .is (bif (true && (((((L && (decide (1 ≤ kind))) && (decide (kind ≤ 4))) && (decide (0 ≤ pos))) && (decide (pos ≤ 7))) == true)) then .bool (decide ((-1) ≤ attr)) else undef),
  .is (.bool (((((L && (decide (1 ≤ kind))) && (decide (kind ≤ 4))) && (decide (0 ≤ pos))) && (decide (pos ≤ 7))) && (decide ((-1) ≤ attr)))),
  .is (.bool (((((L && (decide (1 ≤ kind))) && (decide (kind ≤ 4))) && (decide (0 ≤ pos))) && (decide (pos ≤ 7))) && (decide ((-1) ≤ attr)))),
  .is (bif (true && ((((((L && (decide (1 ≤ kind))) && (decide (kind ≤ 4))) && (decide (0 ≤ pos))) && (decide (pos ≤ 7))) && (decide ((-1) ≤ attr))) == true)) then .pointer (some ⟨w.heap.size, 3, none⟩) else undef),
  .is (bif (true && ((((((L && (decide (1 ≤ kind))) && (decide (kind ≤ 4))) && (decide (0 ≤ pos))) && (decide (pos ≤ 7))) && (decide ((-1) ≤ attr))) == true)) then .int .i64 attr else undef),
  .is (bif (true && ((((((L && (decide (1 ≤ kind))) && (decide (kind ≤ 4))) && (decide (0 ≤ pos))) && (decide (pos ≤ 7))) && (decide ((-1) ≤ attr))) == true)) then .bool (decide (attr ≤ 7)) else undef),
  .is (.bool ((((((L && (decide (1 ≤ kind))) && (decide (kind ≤ 4))) && (decide (0 ≤ pos))) && (decide (pos ≤ 7))) && (decide ((-1) ≤ attr))) && (decide (attr ≤ 7)))),
  .is (.bool ((((((L && (decide (1 ≤ kind))) && (decide (kind ≤ 4))) && (decide (0 ≤ pos))) && (decide (pos ≤ 7))) && (decide ((-1) ≤ attr))) && (decide (attr ≤ 7))))]
def riR2 (op kind pos attr : Int) (ok : Bool) (w : World) : List Spec := [.is (.bool ok),
  .is (.bool ok),
  .is (bif (true && (ok == true)) then .pointer (some ⟨w.heap.size, 0, none⟩) else undef),
  .is (bif (true && (ok == true)) then .int .i64 op else undef),
  .is (bif (true && (ok == true)) then .bool ((op != 41)) else undef),
  .is (bif (true && (ok == true)) then .bool ((op != 41)) else undef),
  .is (bif ((true && (ok == true)) && (((op != 41)) == false)) then .pointer (some ⟨w.heap.size, 2, none⟩) else undef),
  .is (bif ((true && (ok == true)) && (((op != 41)) == false)) then .int .i64 pos else undef),
  .is (bif ((true && (ok == true)) && (((op != 41)) == false)) then .bool ((pos == 0)) else undef),
  .is (bif (true && (ok == true)) then .bool (((op != 41)) || ((pos == 0))) else undef),
  .is (.bool (ok && (((op != 41)) || ((pos == 0))))),
  .is (.bool (ok && (((op != 41)) || ((pos == 0))))),
  .is (bif (true && ((ok && (((op != 41)) || ((pos == 0)))) == true)) then .pointer (some ⟨w.heap.size, 0, none⟩) else undef),
  .is (bif (true && ((ok && (((op != 41)) || ((pos == 0)))) == true)) then .int .i64 op else undef),
  .is (bif (true && ((ok && (((op != 41)) || ((pos == 0)))) == true)) then .bool ((op != 25)) else undef),
  .is (bif (true && ((ok && (((op != 41)) || ((pos == 0)))) == true)) then .bool ((op != 25)) else undef),
  .is (bif ((true && ((ok && (((op != 41)) || ((pos == 0)))) == true)) && (((op != 25)) == false)) then .pointer (some ⟨w.heap.size, 3, none⟩) else undef),
  .is (bif ((true && ((ok && (((op != 41)) || ((pos == 0)))) == true)) && (((op != 25)) == false)) then .int .i64 attr else undef),
  .is (bif ((true && ((ok && (((op != 41)) || ((pos == 0)))) == true)) && (((op != 25)) == false)) then .bool ((attr == 0)) else undef),
  .is (bif (true && ((ok && (((op != 41)) || ((pos == 0)))) == true)) then .bool (((op != 25)) || ((attr == 0))) else undef),
  .is (.bool ((ok && (((op != 41)) || ((pos == 0)))) && (((op != 25)) || ((attr == 0))))),
  .is (.bool ((ok && (((op != 41)) || ((pos == 0)))) && (((op != 25)) || ((attr == 0)))))]

def leafB (op : Int) : Bool := ((((op == 41)) || ((op == 42))) || ((decide (25 ≤ op)) && (decide (op ≤ 31))))
def rinB (x : InputV) : Bool := (fun (op kind pos attr : Int) (L : Bool) => (fun (ok : Bool) => ((ok && (((op != 41)) || ((pos == 0)))) && (((op != 25)) || ((attr == 0))))) (((((((L && (decide (1 ≤ kind))) && (decide (kind ≤ 4))) && (decide (0 ≤ pos))) && (decide (pos ≤ 7))) && (decide ((-1) ≤ attr))) && (decide (attr ≤ 7))))) x.op x.kind x.pos x.attr (leafB x.op)
theorem rin_in (x : InputV) : rinB x = inB x := by
  obtain ⟨op, kind, pos, attr⟩ := x
  unfold rinB inB leafB badI
  simp only
  rw [Bool.eq_iff_iff]
  by_cases h41 : op = 41
  · subst h41; simp; omega
  · by_cases h25 : op = 25
    · subst h25; simp; omega
    · simp [h41, h25]; omega
set_option maxRecDepth 100000 in
set_option maxHeartbeats 2000000 in
theorem leaf_any (op : Int) (w : World) : Calls Try.prog 32 #[.int .i64 op] w fun e w' => e = .returned (.bool (leafB op)) ∧ Below w.heap.size w w' := by
  unfold leafB
  go_enter Try.func32, Try.ntmps32
  go_upto_region 1 with fail
  refine wp_region_s (fun qk => (lfR op).getD qk .any) (by kernel_rfl) ?_ ?_
  · refine BOk.cons rfl [] [0] rfl rfl (by kernel_rfl) (by kernel_rfl) (fun qK qa wr hB qO qF hK => ?_) ?_
    · have e0 : qa.tmps[0]? = some (.int .i64 op) := qO.1.trans rfl
      clear qO qF
      go_simp
      exact hK _ _ (Below.refl _ _) rfl
    refine BOk.cons rfl [0] [] rfl rfl (by kernel_rfl) (by kernel_rfl) (fun qK qa wr hB qO qF hK => ?_) ?_
    · have e3 : qa.tmps[3]? = some (.int .i64 op) := fis qF.1 rfl rfl
      clear qO qF
      go_simp
      refine hK _ _ (Below.refl _ _) ?_
      show (_ : Value) = _
      first | rfl | (simp; done) | (simp; omega) | (congr 1; simp; done) | (congr 1; rw [decide_eq_decide]; omega)
    refine BOk.cons rfl [1] [] rfl rfl (by kernel_rfl) (by kernel_rfl) (fun qK qa wr hB qO qF hK => ?_) ?_
    · have e4 : qa.tmps[4]? = some (.bool ((op == 41))) := fis qF.1 rfl rfl
      clear qO qF
      go_simp
      exact hK _ _ (Below.refl _ _) (by first | rfl | (show (_ : Value) = _; simp_all; done))
    refine BOk.optT rfl [] [0] rfl 2 false rfl rfl rfl rfl (by kernel_rfl) (by kernel_rfl) (by kernel_rfl) (fun hp hc hP qK qa wr hB qO qF hK => ?_) ?_
    · have e0 : qa.tmps[0]? = some (.int .i64 op) := qO.1.trans rfl
      clear qO qF
      go_simp
      exact hK _ _ (Below.refl _ _) rfl
    refine BOk.optT rfl [3] [] rfl 2 false rfl rfl rfl rfl (by kernel_rfl) (by kernel_rfl) (by kernel_rfl) (fun hp hc hP qK qa wr hB qO qF hK => ?_) ?_
    · have e6 : qa.tmps[6]? = some (.int .i64 op) := fif qF.1 rfl hP rfl
      clear qO qF
      go_simp
      refine hK _ _ (Below.refl _ _) ?_
      show (_ : Value) = _
      first | rfl | (simp; done) | (simp; omega) | (congr 1; simp; done) | (congr 1; rw [decide_eq_decide]; omega)
    refine BOk.cons rfl [2, 4] [] rfl rfl (by kernel_rfl) (by kernel_rfl) (fun qK qa wr hB qO qF hK => ?_) ?_
    · have e5 : qa.tmps[5]? = some (.bool ((op == 41))) := fis qF.1 rfl rfl
      obtain ⟨u7, e7, r4⟩ := qF.2.1
      have r4 : u7 = (bif (true && (((op == 41)) == false)) then .bool ((op == 42)) else undef) := r4
      clear qO qF
      rcases (Bool.eq_false_or_eq_true (((op == 41)))).symm with hcc | hcc
      · rw [hcc] at e5
        have e7 : qa.tmps[7]? = some (.bool (((op == 42)))) := (show u7 = .bool (((op == 42))) from r4.trans (by (first | rw [hcc] | skip); first | rfl | (rw [hP]; rfl))) ▸ e7
        go_simp
        exact hK _ _ (Below.refl _ _) (by show (_ : Value) = _; first | (rw [hcc]; first | rfl | (simp; done)) | (simp_all; done))
      · rw [hcc] at e5
        go_simp
        exact hK _ _ (Below.refl _ _) (by show (_ : Value) = _; first | (rw [hcc]; first | rfl | (simp; done)) | (simp_all; done))
    refine BOk.cons rfl [5] [] rfl rfl (by kernel_rfl) (by kernel_rfl) (fun qK qa wr hB qO qF hK => ?_) ?_
    · have e8 : qa.tmps[8]? = some (.bool (((op == 41)) || ((op == 42)))) := fis qF.1 rfl rfl
      clear qO qF
      go_simp
      exact hK _ _ (Below.refl _ _) (by first | rfl | (show (_ : Value) = _; simp_all; done))
    refine BOk.optT rfl [] [0] rfl 6 false rfl rfl rfl rfl (by kernel_rfl) (by kernel_rfl) (by kernel_rfl) (fun hp hc hP qK qa wr hB qO qF hK => ?_) ?_
    · have e0 : qa.tmps[0]? = some (.int .i64 op) := qO.1.trans rfl
      clear qO qF
      go_simp
      exact hK _ _ (Below.refl _ _) rfl
    refine BOk.optT rfl [7] [] rfl 6 false rfl rfl rfl rfl (by kernel_rfl) (by kernel_rfl) (by kernel_rfl) (fun hp hc hP qK qa wr hB qO qF hK => ?_) ?_
    · have e10 : qa.tmps[10]? = some (.int .i64 op) := fif qF.1 rfl hP rfl
      clear qO qF
      go_simp
      refine hK _ _ (Below.refl _ _) ?_
      show (_ : Value) = _
      first | rfl | (simp; done) | (simp; omega) | (congr 1; simp; done) | (congr 1; rw [decide_eq_decide]; omega)
    refine BOk.optT rfl [8] [] rfl 6 false rfl rfl rfl rfl (by kernel_rfl) (by kernel_rfl) (by kernel_rfl) (fun hp hc hP qK qa wr hB qO qF hK => ?_) ?_
    · have e11 : qa.tmps[11]? = some (.bool (decide (25 ≤ op))) := fif qF.1 rfl hP rfl
      clear qO qF
      go_simp
      exact hK _ _ (Below.refl _ _) (by first | rfl | (show (_ : Value) = _; simp_all; done))
    refine BOk.optX rfl [] [0] rfl 9 true rfl rfl rfl rfl (by kernel_rfl) (by kernel_rfl) (by kernel_rfl) (fun hp hc hP qK qa wr hB qO qF hK => ?_) ?_
    · have e0 : qa.tmps[0]? = some (.int .i64 op) := qO.1.trans rfl
      clear qO qF
      go_simp
      exact hK _ _ (Below.refl _ _) rfl
    refine BOk.optX rfl [10] [] rfl 9 true rfl rfl rfl rfl (by kernel_rfl) (by kernel_rfl) (by kernel_rfl) (fun hp hc hP qK qa wr hB qO qF hK => ?_) ?_
    · have e13 : qa.tmps[13]? = some (.int .i64 op) := fif qF.1 rfl hP rfl
      clear qO qF
      go_simp
      refine hK _ _ (Below.refl _ _) ?_
      show (_ : Value) = _
      first | rfl | (simp; done) | (simp; omega) | (congr 1; simp; done) | (congr 1; rw [decide_eq_decide]; omega)
    refine BOk.optT rfl [9, 11] [] rfl 6 false rfl rfl rfl rfl (by kernel_rfl) (by kernel_rfl) (by kernel_rfl) (fun hp hc hP qK qa wr hB qO qF hK => ?_) ?_
    · have e12 : qa.tmps[12]? = some (.bool (decide (25 ≤ op))) := fif qF.1 rfl hP rfl
      obtain ⟨u14, e14, r11⟩ := qF.2.1
      have r11 : u14 = (bif ((true && ((((op == 41)) || ((op == 42))) == false)) && ((decide (25 ≤ op)) == true)) then .bool (decide (op ≤ 31)) else undef) := r11
      clear qO qF
      rcases (Bool.eq_false_or_eq_true ((decide (25 ≤ op)))).symm with hcc | hcc
      · rw [hcc] at e12
        go_simp
        exact hK _ _ (Below.refl _ _) (by show (_ : Value) = _; first | (rw [hcc]; first | rfl | (simp; done)) | (simp_all; done))
      · rw [hcc] at e12
        have e14 : qa.tmps[14]? = some (.bool ((decide (op ≤ 31)))) := (show u14 = .bool ((decide (op ≤ 31))) from r11.trans (by (first | rw [hcc] | skip); first | rfl | (rw [hP]; rfl))) ▸ e14
        go_simp
        exact hK _ _ (Below.refl _ _) (by show (_ : Value) = _; first | (rw [hcc]; first | rfl | (simp; done)) | (simp_all; done))
    refine BOk.cons rfl [6, 12] [] rfl rfl (by kernel_rfl) (by kernel_rfl) (fun qK qa wr hB qO qF hK => ?_) ?_
    · have e9 : qa.tmps[9]? = some (.bool (((op == 41)) || ((op == 42)))) := fis qF.1 rfl rfl
      obtain ⟨u15, e15, r12⟩ := qF.2.1
      have r12 : u15 = (bif (true && ((((op == 41)) || ((op == 42))) == false)) then .bool ((decide (25 ≤ op)) && (decide (op ≤ 31))) else undef) := r12
      clear qO qF
      rcases (Bool.eq_false_or_eq_true ((((op == 41)) || ((op == 42))))).symm with hcc | hcc
      · rw [hcc] at e9
        have e15 : qa.tmps[15]? = some (.bool (((decide (25 ≤ op)) && (decide (op ≤ 31))))) := (show u15 = .bool (((decide (25 ≤ op)) && (decide (op ≤ 31)))) from r12.trans (by (first | rw [hcc] | skip); first | rfl | (rw [hP]; rfl))) ▸ e15
        go_simp
        exact hK _ _ (Below.refl _ _) (by show (_ : Value) = _; first | (rw [hcc]; first | rfl | (simp; done)) | (simp_all; done))
      · rw [hcc] at e9
        go_simp
        exact hK _ _ (Below.refl _ _) (by show (_ : Value) = _; first | (rw [hcc]; first | rfl | (simp; done)) | (simp_all; done))
    refine BOk.cons rfl [13] [] rfl rfl (by kernel_rfl) (by kernel_rfl) (fun qK qa wr hB qO qF hK => ?_) ?_
    · have e16 : qa.tmps[16]? = some (.bool ((((op == 41)) || ((op == 42))) || ((decide (25 ≤ op)) && (decide (op ≤ 31))))) := fis qF.1 rfl rfl
      clear qO qF
      go_simp
      exact hK _ _ (Below.refl _ _) (by first | rfl | (show (_ : Value) = _; simp_all; done))
    exact BOk.nil
  intro vals wr hl hB hR
  match vals, hl with
  | [z3, z4, z5, z6, z7, z8, z9, z10, z11, z12, z13, z14, z15, z16, z2], _ =>
  have r14 : z2 = .bool ((((op == 41)) || ((op == 42))) || ((decide (25 ≤ op)) && (decide (op ≤ 31)))) := hR 14 _ rfl
  subst r14
  clear hR
  simp only [List.cons_append, List.nil_append, putAll, Act.put, List.setIfInBounds_toArray, List.set_cons_zero, List.set_cons_succ]
  go_wp2_with fail
  go_ret
  exact ⟨rfl, hB⟩
set_option maxRecDepth 100000 in
set_option maxHeartbeats 2000000 in
theorem rin_any (x : InputV) (w : World) : Calls Try.prog 16 #[.agg #[.int .i64 x.op, .int .i64 x.kind, .int .i64 x.pos, .int .i64 x.attr]] w fun e w' => e = .returned (.bool (inB x)) ∧ Below w.heap.size w w' := by
  rw [← rin_in]
  obtain ⟨op, kind, pos, attr⟩ := x
  unfold rinB
  simp only
  obtain ⟨L, hL⟩ : ∃ L, leafB op = L := ⟨_, rfl⟩
  have hl : ∀ w : World, Calls Try.prog 32 #[.int .i64 op] w fun e w' => e = .returned (.bool L) ∧ Below w.heap.size w w' := fun w => by
    have := leaf_any op w
    rw [hL] at this
    exact this
  rw [hL]
  have HL := Lib.hid hl
  have kx := Bk.new w 39 #[.int .i64 op, .int .i64 kind, .int .i64 pos, .int .i64 attr]
  have hbe : Below w.heap.size w (w.alloc (.cells #[.int .i64 op, .int .i64 kind, .int .i64 pos, .int .i64 attr] 39)) := (Below.refl _ _).alloc (Nat.le_refl _) _
  have x0 := kx.cell 0
  have x1 := kx.cell 1
  have x2 := kx.cell 2
  have x3 := kx.cell 3
  have KX := Lib.hid kx
  have HB := Lib.hid hbe
  generalize hok : (((((((L && (decide (1 ≤ kind))) && (decide (kind ≤ 4))) && (decide (0 ≤ pos))) && (decide (pos ≤ 7))) && (decide ((-1) ≤ attr))) && (decide (attr ≤ 7)))) = ok
  have HOK := Lib.hid hok
  clear kx hbe hl hL hok
  go_enter Try.func16, Try.ntmps16
  go_upto_region 1 with fail
  refine wp_region_s (fun qk => (riR1 op kind pos attr L w).getD qk .any) (by kernel_rfl) ?_ ?_
  · refine BOk.cons rfl [] [1] rfl rfl (by kernel_rfl) (by kernel_rfl) (fun qK qa wr hB qO qF hK => ?_) ?_
    · have e1 : qa.tmps[1]? = some (.pointer (some ⟨w.heap.size, 0, none⟩)) := qO.1.trans rfl
      clear qO qF
      go_simp
      exact hK _ _ (Below.refl _ _) rfl
    refine BOk.cons rfl [0] [] rfl rfl (by kernel_rfl) (by kernel_rfl) (fun qK qa wr hB qO qF hK => ?_) ?_
    · have e4 : qa.tmps[4]? = some (.pointer (some ⟨w.heap.size, 0, none⟩)) := fis qF.1 rfl rfl
      clear qO qF
      have hx0 := (bcell hB _ _ (World.block_lt_of_cell? _ _ x0)).trans x0
      go_simp
      exact hK _ _ (Below.refl _ _) rfl
    refine BOk.cons rfl [1] [] rfl rfl (by kernel_rfl) (by kernel_rfl) (fun qK qa wr hB qO qF hK => ?_) ?_
    · have e5 : qa.tmps[5]? = some (.int .i64 op) := fis qF.1 rfl rfl
      clear qO qF
      go_simp
      go_at_call 32
      refine (HL.out _).mono ?_
      rintro e w2 ⟨rfl, hb2⟩
      exact hK _ _ hb2 rfl
    refine BOk.cons rfl [2] [] rfl rfl (by kernel_rfl) (by kernel_rfl) (fun qK qa wr hB qO qF hK => ?_) ?_
    · have e6 : qa.tmps[6]? = some (.bool L) := fis qF.1 rfl rfl
      clear qO qF
      go_simp
      exact hK _ _ (Below.refl _ _) (by first | rfl | (show (_ : Value) = _; simp_all; done))
    refine BOk.optT rfl [] [1] rfl 3 true rfl rfl rfl rfl (by kernel_rfl) (by kernel_rfl) (by kernel_rfl) (fun hp hc hP qK qa wr hB qO qF hK => ?_) ?_
    · have e1 : qa.tmps[1]? = some (.pointer (some ⟨w.heap.size, 0, none⟩)) := qO.1.trans rfl
      clear qO qF
      go_simp
      exact hK _ _ (Below.refl _ _) rfl
    refine BOk.optT rfl [4] [] rfl 3 true rfl rfl rfl rfl (by kernel_rfl) (by kernel_rfl) (by kernel_rfl) (fun hp hc hP qK qa wr hB qO qF hK => ?_) ?_
    · have e8 : qa.tmps[8]? = some (.pointer (some ⟨w.heap.size, 1, none⟩)) := fif qF.1 rfl hP rfl
      clear qO qF
      have hx1 := (bcell hB _ _ (World.block_lt_of_cell? _ _ x1)).trans x1
      go_simp
      exact hK _ _ (Below.refl _ _) rfl
    refine BOk.optT rfl [5] [] rfl 3 true rfl rfl rfl rfl (by kernel_rfl) (by kernel_rfl) (by kernel_rfl) (fun hp hc hP qK qa wr hB qO qF hK => ?_) ?_
    · have e9 : qa.tmps[9]? = some (.int .i64 kind) := fif qF.1 rfl hP rfl
      clear qO qF
      go_simp
      refine hK _ _ (Below.refl _ _) ?_
      show (_ : Value) = _
      first | rfl | (simp; done) | (simp; omega) | (congr 1; simp; done) | (congr 1; rw [decide_eq_decide]; omega)
    refine BOk.cons rfl [3, 6] [] rfl rfl (by kernel_rfl) (by kernel_rfl) (fun qK qa wr hB qO qF hK => ?_) ?_
    · have e7 : qa.tmps[7]? = some (.bool L) := fis qF.1 rfl rfl
      obtain ⟨u10, e10, r6⟩ := qF.2.1
      have r6 : u10 = (bif (true && (L == true)) then .bool (decide (1 ≤ kind)) else undef) := r6
      clear qO qF
      rcases (Bool.eq_false_or_eq_true (L)).symm with hcc | hcc
      · rw [hcc] at e7
        go_simp
        exact hK _ _ (Below.refl _ _) (by show (_ : Value) = _; first | (rw [hcc]; first | rfl | (simp; done)) | (simp_all; done))
      · rw [hcc] at e7
        have e10 : qa.tmps[10]? = some (.bool ((decide (1 ≤ kind)))) := (show u10 = .bool ((decide (1 ≤ kind))) from r6.trans (by (first | rw [hcc] | skip); first | rfl | (rw [hP]; rfl))) ▸ e10
        go_simp
        exact hK _ _ (Below.refl _ _) (by show (_ : Value) = _; first | (rw [hcc]; first | rfl | (simp; done)) | (simp_all; done))
    refine BOk.cons rfl [7] [] rfl rfl (by kernel_rfl) (by kernel_rfl) (fun qK qa wr hB qO qF hK => ?_) ?_
    · have e11 : qa.tmps[11]? = some (.bool (L && (decide (1 ≤ kind)))) := fis qF.1 rfl rfl
      clear qO qF
      go_simp
      exact hK _ _ (Below.refl _ _) (by first | rfl | (show (_ : Value) = _; simp_all; done))
    refine BOk.optT rfl [] [1] rfl 8 true rfl rfl rfl rfl (by kernel_rfl) (by kernel_rfl) (by kernel_rfl) (fun hp hc hP qK qa wr hB qO qF hK => ?_) ?_
    · have e1 : qa.tmps[1]? = some (.pointer (some ⟨w.heap.size, 0, none⟩)) := qO.1.trans rfl
      clear qO qF
      go_simp
      exact hK _ _ (Below.refl _ _) rfl
    refine BOk.optT rfl [9] [] rfl 8 true rfl rfl rfl rfl (by kernel_rfl) (by kernel_rfl) (by kernel_rfl) (fun hp hc hP qK qa wr hB qO qF hK => ?_) ?_
    · have e13 : qa.tmps[13]? = some (.pointer (some ⟨w.heap.size, 1, none⟩)) := fif qF.1 rfl hP rfl
      clear qO qF
      have hx1 := (bcell hB _ _ (World.block_lt_of_cell? _ _ x1)).trans x1
      go_simp
      exact hK _ _ (Below.refl _ _) rfl
    refine BOk.optT rfl [10] [] rfl 8 true rfl rfl rfl rfl (by kernel_rfl) (by kernel_rfl) (by kernel_rfl) (fun hp hc hP qK qa wr hB qO qF hK => ?_) ?_
    · have e14 : qa.tmps[14]? = some (.int .i64 kind) := fif qF.1 rfl hP rfl
      clear qO qF
      go_simp
      refine hK _ _ (Below.refl _ _) ?_
      show (_ : Value) = _
      first | rfl | (simp; done) | (simp; omega) | (congr 1; simp; done) | (congr 1; rw [decide_eq_decide]; omega)
    refine BOk.cons rfl [8, 11] [] rfl rfl (by kernel_rfl) (by kernel_rfl) (fun qK qa wr hB qO qF hK => ?_) ?_
    · have e12 : qa.tmps[12]? = some (.bool (L && (decide (1 ≤ kind)))) := fis qF.1 rfl rfl
      obtain ⟨u15, e15, r11⟩ := qF.2.1
      have r11 : u15 = (bif (true && ((L && (decide (1 ≤ kind))) == true)) then .bool (decide (kind ≤ 4)) else undef) := r11
      clear qO qF
      rcases (Bool.eq_false_or_eq_true ((L && (decide (1 ≤ kind))))).symm with hcc | hcc
      · rw [hcc] at e12
        go_simp
        exact hK _ _ (Below.refl _ _) (by show (_ : Value) = _; first | (rw [hcc]; first | rfl | (simp; done)) | (simp_all; done))
      · rw [hcc] at e12
        have e15 : qa.tmps[15]? = some (.bool ((decide (kind ≤ 4)))) := (show u15 = .bool ((decide (kind ≤ 4))) from r11.trans (by (first | rw [hcc] | skip); first | rfl | (rw [hP]; rfl))) ▸ e15
        go_simp
        exact hK _ _ (Below.refl _ _) (by show (_ : Value) = _; first | (rw [hcc]; first | rfl | (simp; done)) | (simp_all; done))
    refine BOk.cons rfl [12] [] rfl rfl (by kernel_rfl) (by kernel_rfl) (fun qK qa wr hB qO qF hK => ?_) ?_
    · have e16 : qa.tmps[16]? = some (.bool ((L && (decide (1 ≤ kind))) && (decide (kind ≤ 4)))) := fis qF.1 rfl rfl
      clear qO qF
      go_simp
      exact hK _ _ (Below.refl _ _) (by first | rfl | (show (_ : Value) = _; simp_all; done))
    refine BOk.optT rfl [] [1] rfl 13 true rfl rfl rfl rfl (by kernel_rfl) (by kernel_rfl) (by kernel_rfl) (fun hp hc hP qK qa wr hB qO qF hK => ?_) ?_
    · have e1 : qa.tmps[1]? = some (.pointer (some ⟨w.heap.size, 0, none⟩)) := qO.1.trans rfl
      clear qO qF
      go_simp
      exact hK _ _ (Below.refl _ _) rfl
    refine BOk.optT rfl [14] [] rfl 13 true rfl rfl rfl rfl (by kernel_rfl) (by kernel_rfl) (by kernel_rfl) (fun hp hc hP qK qa wr hB qO qF hK => ?_) ?_
    · have e18 : qa.tmps[18]? = some (.pointer (some ⟨w.heap.size, 2, none⟩)) := fif qF.1 rfl hP rfl
      clear qO qF
      have hx2 := (bcell hB _ _ (World.block_lt_of_cell? _ _ x2)).trans x2
      go_simp
      exact hK _ _ (Below.refl _ _) rfl
    refine BOk.optT rfl [15] [] rfl 13 true rfl rfl rfl rfl (by kernel_rfl) (by kernel_rfl) (by kernel_rfl) (fun hp hc hP qK qa wr hB qO qF hK => ?_) ?_
    · have e19 : qa.tmps[19]? = some (.int .i64 pos) := fif qF.1 rfl hP rfl
      clear qO qF
      go_simp
      refine hK _ _ (Below.refl _ _) ?_
      show (_ : Value) = _
      first | rfl | (simp; done) | (simp; omega) | (congr 1; simp; done) | (congr 1; rw [decide_eq_decide]; omega)
    refine BOk.cons rfl [13, 16] [] rfl rfl (by kernel_rfl) (by kernel_rfl) (fun qK qa wr hB qO qF hK => ?_) ?_
    · have e17 : qa.tmps[17]? = some (.bool ((L && (decide (1 ≤ kind))) && (decide (kind ≤ 4)))) := fis qF.1 rfl rfl
      obtain ⟨u20, e20, r16⟩ := qF.2.1
      have r16 : u20 = (bif (true && (((L && (decide (1 ≤ kind))) && (decide (kind ≤ 4))) == true)) then .bool (decide (0 ≤ pos)) else undef) := r16
      clear qO qF
      rcases (Bool.eq_false_or_eq_true (((L && (decide (1 ≤ kind))) && (decide (kind ≤ 4))))).symm with hcc | hcc
      · rw [hcc] at e17
        go_simp
        exact hK _ _ (Below.refl _ _) (by show (_ : Value) = _; first | (rw [hcc]; first | rfl | (simp; done)) | (simp_all; done))
      · rw [hcc] at e17
        have e20 : qa.tmps[20]? = some (.bool ((decide (0 ≤ pos)))) := (show u20 = .bool ((decide (0 ≤ pos))) from r16.trans (by (first | rw [hcc] | skip); first | rfl | (rw [hP]; rfl))) ▸ e20
        go_simp
        exact hK _ _ (Below.refl _ _) (by show (_ : Value) = _; first | (rw [hcc]; first | rfl | (simp; done)) | (simp_all; done))
    refine BOk.cons rfl [17] [] rfl rfl (by kernel_rfl) (by kernel_rfl) (fun qK qa wr hB qO qF hK => ?_) ?_
    · have e21 : qa.tmps[21]? = some (.bool (((L && (decide (1 ≤ kind))) && (decide (kind ≤ 4))) && (decide (0 ≤ pos)))) := fis qF.1 rfl rfl
      clear qO qF
      go_simp
      exact hK _ _ (Below.refl _ _) (by first | rfl | (show (_ : Value) = _; simp_all; done))
    refine BOk.optT rfl [] [1] rfl 18 true rfl rfl rfl rfl (by kernel_rfl) (by kernel_rfl) (by kernel_rfl) (fun hp hc hP qK qa wr hB qO qF hK => ?_) ?_
    · have e1 : qa.tmps[1]? = some (.pointer (some ⟨w.heap.size, 0, none⟩)) := qO.1.trans rfl
      clear qO qF
      go_simp
      exact hK _ _ (Below.refl _ _) rfl
    refine BOk.optT rfl [19] [] rfl 18 true rfl rfl rfl rfl (by kernel_rfl) (by kernel_rfl) (by kernel_rfl) (fun hp hc hP qK qa wr hB qO qF hK => ?_) ?_
    · have e23 : qa.tmps[23]? = some (.pointer (some ⟨w.heap.size, 2, none⟩)) := fif qF.1 rfl hP rfl
      clear qO qF
      have hx2 := (bcell hB _ _ (World.block_lt_of_cell? _ _ x2)).trans x2
      go_simp
      exact hK _ _ (Below.refl _ _) rfl
    refine BOk.optT rfl [20] [] rfl 18 true rfl rfl rfl rfl (by kernel_rfl) (by kernel_rfl) (by kernel_rfl) (fun hp hc hP qK qa wr hB qO qF hK => ?_) ?_
    · have e24 : qa.tmps[24]? = some (.int .i64 pos) := fif qF.1 rfl hP rfl
      clear qO qF
      go_simp
      refine hK _ _ (Below.refl _ _) ?_
      show (_ : Value) = _
      first | rfl | (simp; done) | (simp; omega) | (congr 1; simp; done) | (congr 1; rw [decide_eq_decide]; omega)
    refine BOk.cons rfl [18, 21] [] rfl rfl (by kernel_rfl) (by kernel_rfl) (fun qK qa wr hB qO qF hK => ?_) ?_
    · have e22 : qa.tmps[22]? = some (.bool (((L && (decide (1 ≤ kind))) && (decide (kind ≤ 4))) && (decide (0 ≤ pos)))) := fis qF.1 rfl rfl
      obtain ⟨u25, e25, r21⟩ := qF.2.1
      have r21 : u25 = (bif (true && ((((L && (decide (1 ≤ kind))) && (decide (kind ≤ 4))) && (decide (0 ≤ pos))) == true)) then .bool (decide (pos ≤ 7)) else undef) := r21
      clear qO qF
      rcases (Bool.eq_false_or_eq_true ((((L && (decide (1 ≤ kind))) && (decide (kind ≤ 4))) && (decide (0 ≤ pos))))).symm with hcc | hcc
      · rw [hcc] at e22
        go_simp
        exact hK _ _ (Below.refl _ _) (by show (_ : Value) = _; first | (rw [hcc]; first | rfl | (simp; done)) | (simp_all; done))
      · rw [hcc] at e22
        have e25 : qa.tmps[25]? = some (.bool ((decide (pos ≤ 7)))) := (show u25 = .bool ((decide (pos ≤ 7))) from r21.trans (by (first | rw [hcc] | skip); first | rfl | (rw [hP]; rfl))) ▸ e25
        go_simp
        exact hK _ _ (Below.refl _ _) (by show (_ : Value) = _; first | (rw [hcc]; first | rfl | (simp; done)) | (simp_all; done))
    refine BOk.cons rfl [22] [] rfl rfl (by kernel_rfl) (by kernel_rfl) (fun qK qa wr hB qO qF hK => ?_) ?_
    · have e26 : qa.tmps[26]? = some (.bool ((((L && (decide (1 ≤ kind))) && (decide (kind ≤ 4))) && (decide (0 ≤ pos))) && (decide (pos ≤ 7)))) := fis qF.1 rfl rfl
      clear qO qF
      go_simp
      exact hK _ _ (Below.refl _ _) (by first | rfl | (show (_ : Value) = _; simp_all; done))
    refine BOk.optT rfl [] [1] rfl 23 true rfl rfl rfl rfl (by kernel_rfl) (by kernel_rfl) (by kernel_rfl) (fun hp hc hP qK qa wr hB qO qF hK => ?_) ?_
    · have e1 : qa.tmps[1]? = some (.pointer (some ⟨w.heap.size, 0, none⟩)) := qO.1.trans rfl
      clear qO qF
      go_simp
      exact hK _ _ (Below.refl _ _) rfl
    refine BOk.optT rfl [24] [] rfl 23 true rfl rfl rfl rfl (by kernel_rfl) (by kernel_rfl) (by kernel_rfl) (fun hp hc hP qK qa wr hB qO qF hK => ?_) ?_
    · have e28 : qa.tmps[28]? = some (.pointer (some ⟨w.heap.size, 3, none⟩)) := fif qF.1 rfl hP rfl
      clear qO qF
      have hx3 := (bcell hB _ _ (World.block_lt_of_cell? _ _ x3)).trans x3
      go_simp
      exact hK _ _ (Below.refl _ _) rfl
    refine BOk.optT rfl [25] [] rfl 23 true rfl rfl rfl rfl (by kernel_rfl) (by kernel_rfl) (by kernel_rfl) (fun hp hc hP qK qa wr hB qO qF hK => ?_) ?_
    · have e29 : qa.tmps[29]? = some (.int .i64 attr) := fif qF.1 rfl hP rfl
      clear qO qF
      go_simp
      refine hK _ _ (Below.refl _ _) ?_
      show (_ : Value) = _
      first | rfl | (simp; done) | (simp; omega) | (congr 1; simp; done) | (congr 1; rw [decide_eq_decide]; omega)
    refine BOk.cons rfl [23, 26] [] rfl rfl (by kernel_rfl) (by kernel_rfl) (fun qK qa wr hB qO qF hK => ?_) ?_
    · have e27 : qa.tmps[27]? = some (.bool ((((L && (decide (1 ≤ kind))) && (decide (kind ≤ 4))) && (decide (0 ≤ pos))) && (decide (pos ≤ 7)))) := fis qF.1 rfl rfl
      obtain ⟨u30, e30, r26⟩ := qF.2.1
      have r26 : u30 = (bif (true && (((((L && (decide (1 ≤ kind))) && (decide (kind ≤ 4))) && (decide (0 ≤ pos))) && (decide (pos ≤ 7))) == true)) then .bool (decide ((-1) ≤ attr)) else undef) := r26
      clear qO qF
      rcases (Bool.eq_false_or_eq_true (((((L && (decide (1 ≤ kind))) && (decide (kind ≤ 4))) && (decide (0 ≤ pos))) && (decide (pos ≤ 7))))).symm with hcc | hcc
      · rw [hcc] at e27
        go_simp
        exact hK _ _ (Below.refl _ _) (by show (_ : Value) = _; first | (rw [hcc]; first | rfl | (simp; done)) | (simp_all; done))
      · rw [hcc] at e27
        have e30 : qa.tmps[30]? = some (.bool ((decide ((-1) ≤ attr)))) := (show u30 = .bool ((decide ((-1) ≤ attr))) from r26.trans (by (first | rw [hcc] | skip); first | rfl | (rw [hP]; rfl))) ▸ e30
        go_simp
        exact hK _ _ (Below.refl _ _) (by show (_ : Value) = _; first | (rw [hcc]; first | rfl | (simp; done)) | (simp_all; done))
    refine BOk.cons rfl [27] [] rfl rfl (by kernel_rfl) (by kernel_rfl) (fun qK qa wr hB qO qF hK => ?_) ?_
    · have e31 : qa.tmps[31]? = some (.bool (((((L && (decide (1 ≤ kind))) && (decide (kind ≤ 4))) && (decide (0 ≤ pos))) && (decide (pos ≤ 7))) && (decide ((-1) ≤ attr)))) := fis qF.1 rfl rfl
      clear qO qF
      go_simp
      exact hK _ _ (Below.refl _ _) (by first | rfl | (show (_ : Value) = _; simp_all; done))
    refine BOk.optT rfl [] [1] rfl 28 true rfl rfl rfl rfl (by kernel_rfl) (by kernel_rfl) (by kernel_rfl) (fun hp hc hP qK qa wr hB qO qF hK => ?_) ?_
    · have e1 : qa.tmps[1]? = some (.pointer (some ⟨w.heap.size, 0, none⟩)) := qO.1.trans rfl
      clear qO qF
      go_simp
      exact hK _ _ (Below.refl _ _) rfl
    refine BOk.optT rfl [29] [] rfl 28 true rfl rfl rfl rfl (by kernel_rfl) (by kernel_rfl) (by kernel_rfl) (fun hp hc hP qK qa wr hB qO qF hK => ?_) ?_
    · have e33 : qa.tmps[33]? = some (.pointer (some ⟨w.heap.size, 3, none⟩)) := fif qF.1 rfl hP rfl
      clear qO qF
      have hx3 := (bcell hB _ _ (World.block_lt_of_cell? _ _ x3)).trans x3
      go_simp
      exact hK _ _ (Below.refl _ _) rfl
    refine BOk.optT rfl [30] [] rfl 28 true rfl rfl rfl rfl (by kernel_rfl) (by kernel_rfl) (by kernel_rfl) (fun hp hc hP qK qa wr hB qO qF hK => ?_) ?_
    · have e34 : qa.tmps[34]? = some (.int .i64 attr) := fif qF.1 rfl hP rfl
      clear qO qF
      go_simp
      refine hK _ _ (Below.refl _ _) ?_
      show (_ : Value) = _
      first | rfl | (simp; done) | (simp; omega) | (congr 1; simp; done) | (congr 1; rw [decide_eq_decide]; omega)
    refine BOk.cons rfl [28, 31] [] rfl rfl (by kernel_rfl) (by kernel_rfl) (fun qK qa wr hB qO qF hK => ?_) ?_
    · have e32 : qa.tmps[32]? = some (.bool (((((L && (decide (1 ≤ kind))) && (decide (kind ≤ 4))) && (decide (0 ≤ pos))) && (decide (pos ≤ 7))) && (decide ((-1) ≤ attr)))) := fis qF.1 rfl rfl
      obtain ⟨u35, e35, r31⟩ := qF.2.1
      have r31 : u35 = (bif (true && ((((((L && (decide (1 ≤ kind))) && (decide (kind ≤ 4))) && (decide (0 ≤ pos))) && (decide (pos ≤ 7))) && (decide ((-1) ≤ attr))) == true)) then .bool (decide (attr ≤ 7)) else undef) := r31
      clear qO qF
      rcases (Bool.eq_false_or_eq_true ((((((L && (decide (1 ≤ kind))) && (decide (kind ≤ 4))) && (decide (0 ≤ pos))) && (decide (pos ≤ 7))) && (decide ((-1) ≤ attr))))).symm with hcc | hcc
      · rw [hcc] at e32
        go_simp
        exact hK _ _ (Below.refl _ _) (by show (_ : Value) = _; first | (rw [hcc]; first | rfl | (simp; done)) | (simp_all; done))
      · rw [hcc] at e32
        have e35 : qa.tmps[35]? = some (.bool ((decide (attr ≤ 7)))) := (show u35 = .bool ((decide (attr ≤ 7))) from r31.trans (by (first | rw [hcc] | skip); first | rfl | (rw [hP]; rfl))) ▸ e35
        go_simp
        exact hK _ _ (Below.refl _ _) (by show (_ : Value) = _; first | (rw [hcc]; first | rfl | (simp; done)) | (simp_all; done))
    refine BOk.cons rfl [32] [] rfl rfl (by kernel_rfl) (by kernel_rfl) (fun qK qa wr hB qO qF hK => ?_) ?_
    · have e36 : qa.tmps[36]? = some (.bool ((((((L && (decide (1 ≤ kind))) && (decide (kind ≤ 4))) && (decide (0 ≤ pos))) && (decide (pos ≤ 7))) && (decide ((-1) ≤ attr))) && (decide (attr ≤ 7)))) := fis qF.1 rfl rfl
      clear qO qF
      go_simp
      exact hK _ _ (Below.refl _ _) (by first | rfl | (show (_ : Value) = _; simp_all; done))
    exact BOk.nil
  intro vals wr hl hB hR
  obtain ⟨qc0, qd0, rfl, hc0, hd0⟩ := split_len 24 10 vals (by first | exact hl | simpa using hl)
  match qc0, hc0 with
  | [z4, z5, z6, z7, z8, z9, z10, z11, z12, z13, z14, z15, z16, z17, z18, z19, z20, z21, z22, z23, z24, z25, z26, z27], _ =>
  match qd0, hd0 with
  | [z28, z29, z30, z31, z32, z33, z34, z35, z36, z3], _ =>
  have r33 : z3 = .bool ((((((L && (decide (1 ≤ kind))) && (decide (kind ≤ 4))) && (decide (0 ≤ pos))) && (decide (pos ≤ 7))) && (decide ((-1) ≤ attr))) && (decide (attr ≤ 7))) := hR 33 _ rfl
  subst r33
  clear hR
  simp only [List.cons_append, List.nil_append, putAll, Act.put, List.setIfInBounds_toArray, List.set_cons_zero, List.set_cons_succ]
  rw [HOK.out]
  have KX := Lib.hid (KX.out.old hB)
  have HB := Lib.hid (HB.out.trans (hB.mono HB.out.size))
  clear x0 x1 x2 x3 hB
  have x0 : wr.cell? ⟨w.heap.size, 0, none⟩ = some (.int .i64 op) := KX.out.cell 0
  have x1 : wr.cell? ⟨w.heap.size, 1, none⟩ = some (.int .i64 kind) := KX.out.cell 1
  have x2 : wr.cell? ⟨w.heap.size, 2, none⟩ = some (.int .i64 pos) := KX.out.cell 2
  have x3 : wr.cell? ⟨w.heap.size, 3, none⟩ = some (.int .i64 attr) := KX.out.cell 3
  go_upto_region 2 with fail
  refine wp_region_s (fun qk => (riR2 op kind pos attr ok w).getD qk .any) (by kernel_rfl) ?_ ?_
  · refine BOk.cons rfl [] [3] rfl rfl (by kernel_rfl) (by kernel_rfl) (fun qK qa wr hB qO qF hK => ?_) ?_
    · have e3 : qa.tmps[3]? = some (.bool ok) := qO.1.trans rfl
      clear qO qF
      go_simp
      exact hK _ _ (Below.refl _ _) (by first | rfl | (show (_ : Value) = _; simp_all; done))
    refine BOk.cons rfl [0] [] rfl rfl (by kernel_rfl) (by kernel_rfl) (fun qK qa wr hB qO qF hK => ?_) ?_
    · have e37 : qa.tmps[37]? = some (.bool ok) := fis qF.1 rfl rfl
      clear qO qF
      go_simp
      exact hK _ _ (Below.refl _ _) (by first | rfl | (show (_ : Value) = _; simp_all; done))
    refine BOk.optT rfl [] [1] rfl 1 true rfl rfl rfl rfl (by kernel_rfl) (by kernel_rfl) (by kernel_rfl) (fun hp hc hP qK qa wr hB qO qF hK => ?_) ?_
    · have e1 : qa.tmps[1]? = some (.pointer (some ⟨w.heap.size, 0, none⟩)) := qO.1.trans rfl
      clear qO qF
      go_simp
      exact hK _ _ (Below.refl _ _) rfl
    refine BOk.optT rfl [2] [] rfl 1 true rfl rfl rfl rfl (by kernel_rfl) (by kernel_rfl) (by kernel_rfl) (fun hp hc hP qK qa wr hB qO qF hK => ?_) ?_
    · have e39 : qa.tmps[39]? = some (.pointer (some ⟨w.heap.size, 0, none⟩)) := fif qF.1 rfl hP rfl
      clear qO qF
      have hx0 := (bcell hB _ _ (World.block_lt_of_cell? _ _ x0)).trans x0
      go_simp
      exact hK _ _ (Below.refl _ _) rfl
    refine BOk.optT rfl [3] [] rfl 1 true rfl rfl rfl rfl (by kernel_rfl) (by kernel_rfl) (by kernel_rfl) (fun hp hc hP qK qa wr hB qO qF hK => ?_) ?_
    · have e40 : qa.tmps[40]? = some (.int .i64 op) := fif qF.1 rfl hP rfl
      clear qO qF
      go_simp
      refine hK _ _ (Below.refl _ _) ?_
      show (_ : Value) = _
      first | rfl | (simp; done) | (simp; omega) | (congr 1; simp; done) | (congr 1; rw [decide_eq_decide]; omega)
    refine BOk.optT rfl [4] [] rfl 1 true rfl rfl rfl rfl (by kernel_rfl) (by kernel_rfl) (by kernel_rfl) (fun hp hc hP qK qa wr hB qO qF hK => ?_) ?_
    · have e41 : qa.tmps[41]? = some (.bool ((op != 41))) := fif qF.1 rfl hP rfl
      clear qO qF
      go_simp
      exact hK _ _ (Below.refl _ _) (by first | rfl | (show (_ : Value) = _; simp_all; done))
    refine BOk.optX rfl [] [1] rfl 5 false rfl rfl rfl rfl (by kernel_rfl) (by kernel_rfl) (by kernel_rfl) (fun hp hc hP qK qa wr hB qO qF hK => ?_) ?_
    · have e1 : qa.tmps[1]? = some (.pointer (some ⟨w.heap.size, 0, none⟩)) := qO.1.trans rfl
      clear qO qF
      go_simp
      exact hK _ _ (Below.refl _ _) rfl
    refine BOk.optX rfl [6] [] rfl 5 false rfl rfl rfl rfl (by kernel_rfl) (by kernel_rfl) (by kernel_rfl) (fun hp hc hP qK qa wr hB qO qF hK => ?_) ?_
    · have e43 : qa.tmps[43]? = some (.pointer (some ⟨w.heap.size, 2, none⟩)) := fif qF.1 rfl hP rfl
      clear qO qF
      have hx2 := (bcell hB _ _ (World.block_lt_of_cell? _ _ x2)).trans x2
      go_simp
      exact hK _ _ (Below.refl _ _) rfl
    refine BOk.optX rfl [7] [] rfl 5 false rfl rfl rfl rfl (by kernel_rfl) (by kernel_rfl) (by kernel_rfl) (fun hp hc hP qK qa wr hB qO qF hK => ?_) ?_
    · have e44 : qa.tmps[44]? = some (.int .i64 pos) := fif qF.1 rfl hP rfl
      clear qO qF
      go_simp
      refine hK _ _ (Below.refl _ _) ?_
      show (_ : Value) = _
      first | rfl | (simp; done) | (simp; omega) | (congr 1; simp; done) | (congr 1; rw [decide_eq_decide]; omega)
    refine BOk.optT rfl [5, 8] [] rfl 1 true rfl rfl rfl rfl (by kernel_rfl) (by kernel_rfl) (by kernel_rfl) (fun hp hc hP qK qa wr hB qO qF hK => ?_) ?_
    · have e42 : qa.tmps[42]? = some (.bool ((op != 41))) := fif qF.1 rfl hP rfl
      obtain ⟨u45, e45, r8⟩ := qF.2.1
      have r8 : u45 = (bif ((true && (ok == true)) && (((op != 41)) == false)) then .bool ((pos == 0)) else undef) := r8
      clear qO qF
      rcases (Bool.eq_false_or_eq_true (((op != 41)))).symm with hcc | hcc
      · rw [hcc] at e42
        have e45 : qa.tmps[45]? = some (.bool (((pos == 0)))) := (show u45 = .bool (((pos == 0))) from r8.trans (by (first | rw [hcc] | skip); first | rfl | (rw [hP]; rfl))) ▸ e45
        go_simp
        exact hK _ _ (Below.refl _ _) (by show (_ : Value) = _; first | (rw [hcc]; first | rfl | (simp; done)) | (simp_all; done))
      · rw [hcc] at e42
        go_simp
        exact hK _ _ (Below.refl _ _) (by show (_ : Value) = _; first | (rw [hcc]; first | rfl | (simp; done)) | (simp_all; done))
    refine BOk.cons rfl [1, 9] [] rfl rfl (by kernel_rfl) (by kernel_rfl) (fun qK qa wr hB qO qF hK => ?_) ?_
    · have e38 : qa.tmps[38]? = some (.bool ok) := fis qF.1 rfl rfl
      obtain ⟨u46, e46, r9⟩ := qF.2.1
      have r9 : u46 = (bif (true && (ok == true)) then .bool (((op != 41)) || ((pos == 0))) else undef) := r9
      clear qO qF
      rcases (Bool.eq_false_or_eq_true (ok)).symm with hcc | hcc
      · rw [hcc] at e38
        go_simp
        exact hK _ _ (Below.refl _ _) (by show (_ : Value) = _; first | (rw [hcc]; first | rfl | (simp; done)) | (simp_all; done))
      · rw [hcc] at e38
        have e46 : qa.tmps[46]? = some (.bool ((((op != 41)) || ((pos == 0))))) := (show u46 = .bool ((((op != 41)) || ((pos == 0)))) from r9.trans (by (first | rw [hcc] | skip); first | rfl | (rw [hP]; rfl))) ▸ e46
        go_simp
        exact hK _ _ (Below.refl _ _) (by show (_ : Value) = _; first | (rw [hcc]; first | rfl | (simp; done)) | (simp_all; done))
    refine BOk.cons rfl [10] [] rfl rfl (by kernel_rfl) (by kernel_rfl) (fun qK qa wr hB qO qF hK => ?_) ?_
    · have e47 : qa.tmps[47]? = some (.bool (ok && (((op != 41)) || ((pos == 0))))) := fis qF.1 rfl rfl
      clear qO qF
      go_simp
      exact hK _ _ (Below.refl _ _) (by first | rfl | (show (_ : Value) = _; simp_all; done))
    refine BOk.optT rfl [] [1] rfl 11 true rfl rfl rfl rfl (by kernel_rfl) (by kernel_rfl) (by kernel_rfl) (fun hp hc hP qK qa wr hB qO qF hK => ?_) ?_
    · have e1 : qa.tmps[1]? = some (.pointer (some ⟨w.heap.size, 0, none⟩)) := qO.1.trans rfl
      clear qO qF
      go_simp
      exact hK _ _ (Below.refl _ _) rfl
    refine BOk.optT rfl [12] [] rfl 11 true rfl rfl rfl rfl (by kernel_rfl) (by kernel_rfl) (by kernel_rfl) (fun hp hc hP qK qa wr hB qO qF hK => ?_) ?_
    · have e49 : qa.tmps[49]? = some (.pointer (some ⟨w.heap.size, 0, none⟩)) := fif qF.1 rfl hP rfl
      clear qO qF
      have hx0 := (bcell hB _ _ (World.block_lt_of_cell? _ _ x0)).trans x0
      go_simp
      exact hK _ _ (Below.refl _ _) rfl
    refine BOk.optT rfl [13] [] rfl 11 true rfl rfl rfl rfl (by kernel_rfl) (by kernel_rfl) (by kernel_rfl) (fun hp hc hP qK qa wr hB qO qF hK => ?_) ?_
    · have e50 : qa.tmps[50]? = some (.int .i64 op) := fif qF.1 rfl hP rfl
      clear qO qF
      go_simp
      refine hK _ _ (Below.refl _ _) ?_
      show (_ : Value) = _
      first | rfl | (simp; done) | (simp; omega) | (congr 1; simp; done) | (congr 1; rw [decide_eq_decide]; omega)
    refine BOk.optT rfl [14] [] rfl 11 true rfl rfl rfl rfl (by kernel_rfl) (by kernel_rfl) (by kernel_rfl) (fun hp hc hP qK qa wr hB qO qF hK => ?_) ?_
    · have e51 : qa.tmps[51]? = some (.bool ((op != 25))) := fif qF.1 rfl hP rfl
      clear qO qF
      go_simp
      exact hK _ _ (Below.refl _ _) (by first | rfl | (show (_ : Value) = _; simp_all; done))
    refine BOk.optX rfl [] [1] rfl 15 false rfl rfl rfl rfl (by kernel_rfl) (by kernel_rfl) (by kernel_rfl) (fun hp hc hP qK qa wr hB qO qF hK => ?_) ?_
    · have e1 : qa.tmps[1]? = some (.pointer (some ⟨w.heap.size, 0, none⟩)) := qO.1.trans rfl
      clear qO qF
      go_simp
      exact hK _ _ (Below.refl _ _) rfl
    refine BOk.optX rfl [16] [] rfl 15 false rfl rfl rfl rfl (by kernel_rfl) (by kernel_rfl) (by kernel_rfl) (fun hp hc hP qK qa wr hB qO qF hK => ?_) ?_
    · have e53 : qa.tmps[53]? = some (.pointer (some ⟨w.heap.size, 3, none⟩)) := fif qF.1 rfl hP rfl
      clear qO qF
      have hx3 := (bcell hB _ _ (World.block_lt_of_cell? _ _ x3)).trans x3
      go_simp
      exact hK _ _ (Below.refl _ _) rfl
    refine BOk.optX rfl [17] [] rfl 15 false rfl rfl rfl rfl (by kernel_rfl) (by kernel_rfl) (by kernel_rfl) (fun hp hc hP qK qa wr hB qO qF hK => ?_) ?_
    · have e54 : qa.tmps[54]? = some (.int .i64 attr) := fif qF.1 rfl hP rfl
      clear qO qF
      go_simp
      refine hK _ _ (Below.refl _ _) ?_
      show (_ : Value) = _
      first | rfl | (simp; done) | (simp; omega) | (congr 1; simp; done) | (congr 1; rw [decide_eq_decide]; omega)
    refine BOk.optT rfl [15, 18] [] rfl 11 true rfl rfl rfl rfl (by kernel_rfl) (by kernel_rfl) (by kernel_rfl) (fun hp hc hP qK qa wr hB qO qF hK => ?_) ?_
    · have e52 : qa.tmps[52]? = some (.bool ((op != 25))) := fif qF.1 rfl hP rfl
      obtain ⟨u55, e55, r18⟩ := qF.2.1
      have r18 : u55 = (bif ((true && ((ok && (((op != 41)) || ((pos == 0)))) == true)) && (((op != 25)) == false)) then .bool ((attr == 0)) else undef) := r18
      clear qO qF
      rcases (Bool.eq_false_or_eq_true (((op != 25)))).symm with hcc | hcc
      · rw [hcc] at e52
        have e55 : qa.tmps[55]? = some (.bool (((attr == 0)))) := (show u55 = .bool (((attr == 0))) from r18.trans (by (first | rw [hcc] | skip); first | rfl | (rw [hP]; rfl))) ▸ e55
        go_simp
        exact hK _ _ (Below.refl _ _) (by show (_ : Value) = _; first | (rw [hcc]; first | rfl | (simp; done)) | (simp_all; done))
      · rw [hcc] at e52
        go_simp
        exact hK _ _ (Below.refl _ _) (by show (_ : Value) = _; first | (rw [hcc]; first | rfl | (simp; done)) | (simp_all; done))
    refine BOk.cons rfl [11, 19] [] rfl rfl (by kernel_rfl) (by kernel_rfl) (fun qK qa wr hB qO qF hK => ?_) ?_
    · have e48 : qa.tmps[48]? = some (.bool (ok && (((op != 41)) || ((pos == 0))))) := fis qF.1 rfl rfl
      obtain ⟨u56, e56, r19⟩ := qF.2.1
      have r19 : u56 = (bif (true && ((ok && (((op != 41)) || ((pos == 0)))) == true)) then .bool (((op != 25)) || ((attr == 0))) else undef) := r19
      clear qO qF
      rcases (Bool.eq_false_or_eq_true ((ok && (((op != 41)) || ((pos == 0)))))).symm with hcc | hcc
      · rw [hcc] at e48
        go_simp
        exact hK _ _ (Below.refl _ _) (by show (_ : Value) = _; first | (rw [hcc]; first | rfl | (simp; done)) | (simp_all; done))
      · rw [hcc] at e48
        have e56 : qa.tmps[56]? = some (.bool ((((op != 25)) || ((attr == 0))))) := (show u56 = .bool ((((op != 25)) || ((attr == 0)))) from r19.trans (by (first | rw [hcc] | skip); first | rfl | (rw [hP]; rfl))) ▸ e56
        go_simp
        exact hK _ _ (Below.refl _ _) (by show (_ : Value) = _; first | (rw [hcc]; first | rfl | (simp; done)) | (simp_all; done))
    refine BOk.cons rfl [20] [] rfl rfl (by kernel_rfl) (by kernel_rfl) (fun qK qa wr hB qO qF hK => ?_) ?_
    · have e57 : qa.tmps[57]? = some (.bool ((ok && (((op != 41)) || ((pos == 0)))) && (((op != 25)) || ((attr == 0))))) := fis qF.1 rfl rfl
      clear qO qF
      go_simp
      exact hK _ _ (Below.refl _ _) (by first | rfl | (show (_ : Value) = _; simp_all; done))
    exact BOk.nil
  intro vals wr hl hB hR
  match vals, hl with
  | [y37, y38, y39, y40, y41, y42, y43, y44, y45, y46, y47, y48, y49, y50, y51, y52, y53, y54, y55, y56, y57, y2], _ =>
  have r21 : y2 = .bool ((ok && (((op != 41)) || ((pos == 0)))) && (((op != 25)) || ((attr == 0)))) := hR 21 _ rfl
  subst r21
  clear hR
  simp only [List.cons_append, List.nil_append, putAll, Act.put, List.setIfInBounds_toArray, List.set_cons_zero, List.set_cons_succ]
  go_wp2_with fail
  go_ret
  exact ⟨rfl, HB.out.trans (hB.mono HB.out.size)⟩

/-- The registers that an instruction reads. -/
def readsL (x : InsV) : List Int := if x.op = 52 then [x.a] else [x.a, x.b].take (opnd x.op)
def rdR3 (op dst a b : Int) (m : Nat) (w : World) : List Spec := [.is (.pointer (some ⟨w.heap.size, 2, none⟩)),
  .is (.int .i64 a),
  .is (.pointer (some ⟨w.heap.size, 3, none⟩)),
  .is (.int .i64 b),
  .st (fun v w => ∃ g, v = .slice (some ⟨g, 0, none⟩) 2 2 ∧ Bk w g 3 #[.int .i64 a, .int .i64 b]) (fun _ _ _ hb ⟨g, h1, h2⟩ => ⟨g, h1, h2.old hb⟩),
  .is (.pointer (some ⟨w.heap.size, 0, none⟩)),
  .is (.int .i64 op),
  .is (.int .i64 (m : Nat)),
  .st (fun v w => ∃ g, v = .slice (some ⟨g, 0, none⟩) m 2 ∧ Bk w g 3 #[.int .i64 a, .int .i64 b]) (fun _ _ _ hb ⟨g, h1, h2⟩ => ⟨g, h1, h2.old hb⟩),
  .st (fun v w => ∃ g, v = .slice (some ⟨g, 0, none⟩) m 2 ∧ Bk w g 3 #[.int .i64 a, .int .i64 b]) (fun _ _ _ hb ⟨g, h1, h2⟩ => ⟨g, h1, h2.old hb⟩)]

set_option maxRecDepth 100000 in
set_option maxHeartbeats 2000000 in
theorem reads_tell (dst a b : Int) (w : World) : Calls Try.prog 29 #[.agg #[.int .i64 52, .int .i64 dst, .int .i64 a, .int .i64 b]] w fun e w' => ∃ g, e = .returned (.slice (some ⟨g, 0, none⟩) 1 1) ∧ Bk w' g 3 #[.int .i64 a] ∧ Below w.heap.size w w' := by
  go_enter Try.func29, Try.ntmps29
  go_wp2_with fail
  go_ret
  exact ⟨_, rfl, Bk.newAt (by simp) _ _, ((Below.refl _ _).alloc (Nat.le_refl _) _).alloc (by simp) _⟩
set_option maxRecDepth 100000 in
set_option maxHeartbeats 2000000 in
theorem reads_ops (op dst a b : Int) (h52 : op ≠ 52) (m : Nat) (hm : opnd op = m) (w : World) : Calls Try.prog 29 #[.agg #[.int .i64 op, .int .i64 dst, .int .i64 a, .int .i64 b]] w fun e w' => ∃ g, e = .returned (.slice (some ⟨g, 0, none⟩) m 2) ∧ Bk w' g 3 #[.int .i64 a, .int .i64 b] ∧ Below w.heap.size w w' := by
  have hm2 : m ≤ 2 := by rw [← hm]; unfold opnd; split <;> (try split) <;> omega
  have hm3 : (m : Int) ≤ 2 := by omega
  have g52 : (op == 52) = false := by rw [beq_eq_false_iff_ne]; exact h52
  have ho : ∀ w : World, Calls Try.prog 22 #[.int .i64 op] w fun e w' => e = .returned (.int .i64 (m : Nat)) ∧ Below w.heap.size w w' := fun w => by
    have := operands_any op w
    rw [hm] at this
    exact this.mono fun e w' ⟨h1, h2⟩ => ⟨h1, by subst h2; exact Below.refl _ _⟩
  have kx := Bk.new w 43 #[.int .i64 op, .int .i64 dst, .int .i64 a, .int .i64 b]
  have hbe : Below w.heap.size w (w.alloc (.cells #[.int .i64 op, .int .i64 dst, .int .i64 a, .int .i64 b] 43)) := (Below.refl _ _).alloc (Nat.le_refl _) _
  have x0 := kx.cell 0
  have x1 := kx.cell 1
  have x2 := kx.cell 2
  have x3 := kx.cell 3
  have HB := Lib.hid hbe
  have HO := Lib.hid ho
  clear kx hbe ho hm h52
  go_enter Try.func29, Try.ntmps29
  go_wp2_with fail
  refine wp_region_b (by kernel_rfl) (fun qk => (rdR3 op dst a b m w).getD qk .any) (by kernel_rfl) ?_ ?_
  · refine BOk.cons rfl [] [1] rfl rfl (by kernel_rfl) (by kernel_rfl) (fun qK qa wr hB qO qF hK => ?_) ?_
    · have e1 : qa.tmps[1]? = some (.pointer (some ⟨w.heap.size, 0, none⟩)) := qO.1.trans rfl
      clear qO qF
      go_simp
      exact hK _ _ (Below.refl _ _) rfl
    refine BOk.cons rfl [0] [] rfl rfl (by kernel_rfl) (by kernel_rfl) (fun qK qa wr hB qO qF hK => ?_) ?_
    · have e9 : qa.tmps[9]? = some (.pointer (some ⟨w.heap.size, 2, none⟩)) := fis qF.1 rfl rfl
      clear qO qF
      have hx2 := (bcell hB _ _ (World.block_lt_of_cell? _ _ x2)).trans x2
      go_simp
      exact hK _ _ (Below.refl _ _) rfl
    refine BOk.cons rfl [] [1] rfl rfl (by kernel_rfl) (by kernel_rfl) (fun qK qa wr hB qO qF hK => ?_) ?_
    · have e1 : qa.tmps[1]? = some (.pointer (some ⟨w.heap.size, 0, none⟩)) := qO.1.trans rfl
      clear qO qF
      go_simp
      exact hK _ _ (Below.refl _ _) rfl
    refine BOk.cons rfl [2] [] rfl rfl (by kernel_rfl) (by kernel_rfl) (fun qK qa wr hB qO qF hK => ?_) ?_
    · have e11 : qa.tmps[11]? = some (.pointer (some ⟨w.heap.size, 3, none⟩)) := fis qF.1 rfl rfl
      clear qO qF
      have hx3 := (bcell hB _ _ (World.block_lt_of_cell? _ _ x3)).trans x3
      go_simp
      exact hK _ _ (Below.refl _ _) rfl
    refine BOk.cons rfl [1, 3] [] rfl rfl (by kernel_rfl) (by kernel_rfl) (fun qK qa wr hB qO qF hK => ?_) ?_
    · have e10 : qa.tmps[10]? = some (.int .i64 a) := fis qF.1 rfl rfl
      have e12 : qa.tmps[12]? = some (.int .i64 b) := fis qF.2.1 rfl rfl
      clear qO qF
      go_simp
      exact hK _ _ ((Below.refl _ _).alloc (Nat.le_refl _) _) ⟨_, rfl, Bk.new _ _ _⟩
    refine BOk.cons rfl [] [1] rfl rfl (by kernel_rfl) (by kernel_rfl) (fun qK qa wr hB qO qF hK => ?_) ?_
    · have e1 : qa.tmps[1]? = some (.pointer (some ⟨w.heap.size, 0, none⟩)) := qO.1.trans rfl
      clear qO qF
      go_simp
      exact hK _ _ (Below.refl _ _) rfl
    refine BOk.cons rfl [5] [] rfl rfl (by kernel_rfl) (by kernel_rfl) (fun qK qa wr hB qO qF hK => ?_) ?_
    · have e14 : qa.tmps[14]? = some (.pointer (some ⟨w.heap.size, 0, none⟩)) := fis qF.1 rfl rfl
      clear qO qF
      have hx0 := (bcell hB _ _ (World.block_lt_of_cell? _ _ x0)).trans x0
      go_simp
      exact hK _ _ (Below.refl _ _) rfl
    refine BOk.cons rfl [6] [] rfl rfl (by kernel_rfl) (by kernel_rfl) (fun qK qa wr hB qO qF hK => ?_) ?_
    · have e15 : qa.tmps[15]? = some (.int .i64 op) := fis qF.1 rfl rfl
      clear qO qF
      go_simp
      go_at_call 22
      refine (HO.out _).mono ?_
      rintro e w2 ⟨rfl, hb2⟩
      exact hK _ _ hb2 rfl
    refine BOk.cons rfl [4, 7] [] rfl rfl (by kernel_rfl) (by kernel_rfl) (fun qK qa wr hB qO qF hK => ?_) ?_
    · obtain ⟨u13, e13, r4⟩ := qF.1
      obtain ⟨g13, h13, k13⟩ := (show ∃ g, u13 = .slice (some ⟨g, 0, none⟩) 2 2 ∧ Bk wr g 3 #[.int .i64 a, .int .i64 b] from r4)
      subst h13
      have e13 : qa.tmps[13]? = some (.slice (some ⟨g13, 0, none⟩) 2 2) := e13
      have e16 : qa.tmps[16]? = some (.int .i64 (m : Nat)) := fis qF.2.1 rfl rfl
      clear qO qF
      go_simp
      exact hK _ _ (Below.refl _ _) ⟨_, rfl, k13⟩
    refine BOk.cons rfl [8] [] rfl rfl (by kernel_rfl) (by kernel_rfl) (fun qK qa wr hB qO qF hK => ?_) ?_
    · obtain ⟨u17, e17, r8⟩ := qF.1
      obtain ⟨g17, h17, k17⟩ := (show ∃ g, u17 = .slice (some ⟨g, 0, none⟩) m 2 ∧ Bk wr g 3 #[.int .i64 a, .int .i64 b] from r8)
      subst h17
      have e17 : qa.tmps[17]? = some (.slice (some ⟨g17, 0, none⟩) m 2) := e17
      clear qO qF
      go_simp
      exact hK _ _ (Below.refl _ _) ⟨_, rfl, k17⟩
    exact BOk.nil
  intro vals wr hl hB hR
  match vals, hl with
  | [z9, z10, z11, z12, z13, z14, z15, z16, z17, z2], _ =>
  obtain ⟨g, r9, hk⟩ := (show ∃ g, z2 = .slice (some ⟨g, 0, none⟩) m 2 ∧ Bk wr g 3 #[.int .i64 a, .int .i64 b] from hR 9 _ rfl)
  subst r9
  clear hR
  simp only [List.cons_append, List.nil_append, putAll, Act.put, List.setIfInBounds_toArray, List.set_cons_zero, List.set_cons_succ]
  go_wp2_with fail
  go_ret
  exact ⟨g, rfl, hk, HB.out.trans (hB.mono HB.out.size)⟩
end Go.Proofs.Ytadblgfppnpamaa
