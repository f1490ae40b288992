/- Layer 18: which inputs, which code may be, by the program. No conditions. -/
import Derived.Test.YtadblgfppnpamaaVmG2
namespace Go.Proofs.Ytadblgfppnpamaa
open Go.RowKit
set_option linter.unusedVariables false
set_option linter.unusedSimpArgs false

def inR1 (op kind pos attr : Int) (w : World) : List Spec := [.is (.pointer (some ⟨w.heap.size, 1, none⟩)),
  .is (.int .i64 kind),
  .is (.bool (decide (kind < 1))),
  .is (.bool (decide (kind < 1))),
  .is (bif (true && ((decide (kind < 1)) == false)) then .pointer (some ⟨w.heap.size, 1, none⟩) else undef),
  .is (bif (true && ((decide (kind < 1)) == false)) then .int .i64 kind else undef),
  .is (bif (true && ((decide (kind < 1)) == false)) then .bool (decide (4 < kind)) else undef),
  .is (.bool ((decide (kind < 1)) || (decide (4 < kind)))),
  .is (.bool ((decide (kind < 1)) || (decide (4 < kind)))),
  .is (bif (true && (((decide (kind < 1)) || (decide (4 < kind))) == false)) then .pointer (some ⟨w.heap.size, 2, none⟩) else undef),
  .is (bif (true && (((decide (kind < 1)) || (decide (4 < kind))) == false)) then .int .i64 pos else undef),
  .is (bif (true && (((decide (kind < 1)) || (decide (4 < kind))) == false)) then .bool (decide (pos < 0)) else undef),
  .is (.bool (((decide (kind < 1)) || (decide (4 < kind))) || (decide (pos < 0)))),
  .is (.bool (((decide (kind < 1)) || (decide (4 < kind))) || (decide (pos < 0)))),
  .is (bif (true && ((((decide (kind < 1)) || (decide (4 < kind))) || (decide (pos < 0))) == false)) then .pointer (some ⟨w.heap.size, 2, none⟩) else undef),
  .is (bif (true && ((((decide (kind < 1)) || (decide (4 < kind))) || (decide (pos < 0))) == false)) then .int .i64 pos else undef),
  .is (bif (true && ((((decide (kind < 1)) || (decide (4 < kind))) || (decide (pos < 0))) == false)) then .bool (decide (8 ≤ pos)) else undef),
  .is (.bool ((((decide (kind < 1)) || (decide (4 < kind))) || (decide (pos < 0))) || (decide (8 ≤ pos)))),
  .is (.bool ((((decide (kind < 1)) || (decide (4 < kind))) || (decide (pos < 0))) || (decide (8 ≤ pos)))),
  .is (bif (true && (((((decide (kind < 1)) || (decide (4 < kind))) || (decide (pos < 0))) || (decide (8 ≤ pos))) == false)) then .pointer (some ⟨w.heap.size, 3, none⟩) else undef),
  .is (bif (true && (((((decide (kind < 1)) || (decide (4 < kind))) || (decide (pos < 0))) || (decide (8 ≤ pos))) == false)) then .int .i64 attr else undef),
  .is (bif (true && (((((decide (kind < 1)) || (decide (4 < kind))) || (decide (pos < 0))) || (decide (8 ≤ pos))) == false)) then .bool (decide (attr < (-1))) else undef),
  .is (.bool (((((decide (kind < 1)) || (decide (4 < kind))) || (decide (pos < 0))) || (decide (8 ≤ pos))) || (decide (attr < (-1))))),
  .is (.bool (((((decide (kind < 1)) || (decide (4 < kind))) || (decide (pos < 0))) || (decide (8 ≤ pos))) || (decide (attr < (-1))))),
  .is (bif (true && ((((((decide (kind < 1)) || (decide (4 < kind))) || (decide (pos < 0))) || (decide (8 ≤ pos))) || (decide (attr < (-1)))) == false)) then .pointer (some ⟨w.heap.size, 3, none⟩) else undef),
  .is (bif (true && ((((((decide (kind < 1)) || (decide (4 < kind))) || (decide (pos < 0))) || (decide (8 ≤ pos))) || (decide (attr < (-1)))) == false)) then .int .i64 attr else undef),
  .is (bif (true && ((((((decide (kind < 1)) || (decide (4 < kind))) || (decide (pos < 0))) || (decide (8 ≤ pos))) || (decide (attr < (-1)))) == false)) then .bool (decide (8 ≤ attr)) else undef),
  .is (.bool ((((((decide (kind < 1)) || (decide (4 < kind))) || (decide (pos < 0))) || (decide (8 ≤ pos))) || (decide (attr < (-1)))) || (decide (8 ≤ attr))))]
def inR7 (op kind pos attr : Int) (w : World) : List Spec := [.is (.pointer (some ⟨w.heap.size, 0, none⟩)),
  .is (.int .i64 op),
  .is (.bool ((op == 42))),
  .is (.bool ((op == 42))),
  .is (bif (true && (((op == 42)) == false)) then .pointer (some ⟨w.heap.size, 0, none⟩) else undef),
  .is (bif (true && (((op == 42)) == false)) then .int .i64 op else undef),
  .is (bif (true && (((op == 42)) == false)) then .bool (decide (26 ≤ op)) else undef),
  .is (bif (true && (((op == 42)) == false)) then .bool (decide (26 ≤ op)) else undef),
  .is (bif ((true && (((op == 42)) == false)) && ((decide (26 ≤ op)) == true)) then .pointer (some ⟨w.heap.size, 0, none⟩) else undef),
  .is (bif ((true && (((op == 42)) == false)) && ((decide (26 ≤ op)) == true)) then .int .i64 op else undef),
  .is (bif ((true && (((op == 42)) == false)) && ((decide (26 ≤ op)) == true)) then .bool (decide (op ≤ 31)) else undef),
  .is (bif (true && (((op == 42)) == false)) then .bool ((decide (26 ≤ op)) && (decide (op ≤ 31))) else undef),
  .is (.bool (((op == 42)) || ((decide (26 ≤ op)) && (decide (op ≤ 31))))),
  .is (.bool (((op == 42)) || ((decide (26 ≤ op)) && (decide (op ≤ 31)))))]

def badI (op kind pos attr : Int) : Bool := ((((((decide (kind < 1)) || (decide (4 < kind))) || (decide (pos < 0))) || (decide (8 ≤ pos))) || (decide (attr < (-1)))) || (decide (8 ≤ attr)))
/-- May it be an input? -/
def inB (x : InputV) : Bool := !(badI x.op x.kind x.pos x.attr) && (if x.op = 41 then (x.pos == 0) else if x.op = 25 then (x.attr == 0) else ((x.op == 42) || ((decide (26 ≤ x.op)) && (decide (x.op ≤ 31)))))
set_option maxRecDepth 100000 in
set_option maxHeartbeats 2000000 in
theorem pin_bad (op : Int) (kind pos attr : Int) (hbad : badI op kind pos attr = true) (w : World) :
    Calls Try.prog 26 #[.agg #[.int .i64 op, .int .i64 kind, .int .i64 pos, .int .i64 attr]] w fun e w' => e = .returned (.bool (false)) ∧ Below w.heap.size w w' := by
  unfold badI at hbad
  have kx := Bk.new w 39 #[.int .i64 op, .int .i64 kind, .int .i64 pos, .int .i64 attr]
  have hbe : Below w.heap.size w (w.alloc (.cells #[.int .i64 op, .int .i64 kind, .int .i64 pos, .int .i64 attr] 39)) := (Below.refl _ _).alloc (Nat.le_refl _) _
  have x0 := kx.cell 0
  have x1 := kx.cell 1
  have x2 := kx.cell 2
  have x3 := kx.cell 3
  have KX := Lib.hid kx
  have HB := Lib.hid hbe
  clear kx hbe
  go_enter Try.func26, Try.ntmps26
  go_upto_region 1 with fail
  refine wp_region_s (fun qk => (inR1 op kind pos attr w).getD qk .any) (by kernel_rfl) ?_ ?_
  · refine BOk.cons rfl [] [1] rfl rfl (by kernel_rfl) (by kernel_rfl) (fun qK qa wr hB qO qF hK => ?_) ?_
    · have e1 : qa.tmps[1]? = some (.pointer (some ⟨w.heap.size, 0, none⟩)) := qO.1.trans rfl
      clear qO qF
      go_simp
      exact hK _ _ (Below.refl _ _) rfl
    refine BOk.cons rfl [0] [] rfl rfl (by kernel_rfl) (by kernel_rfl) (fun qK qa wr hB qO qF hK => ?_) ?_
    · have e3 : qa.tmps[3]? = some (.pointer (some ⟨w.heap.size, 1, none⟩)) := fis qF.1 rfl rfl
      clear qO qF
      have hx1 := (bcell hB _ _ (World.block_lt_of_cell? _ _ x1)).trans x1
      go_simp
      exact hK _ _ (Below.refl _ _) rfl
    refine BOk.cons rfl [1] [] rfl rfl (by kernel_rfl) (by kernel_rfl) (fun qK qa wr hB qO qF hK => ?_) ?_
    · have e4 : qa.tmps[4]? = some (.int .i64 kind) := fis qF.1 rfl rfl
      clear qO qF
      go_simp
      refine hK _ _ (Below.refl _ _) ?_
      show (_ : Value) = _
      first | rfl | (simp; done) | (simp; omega) | (congr 1; simp; done) | (congr 1; rw [decide_eq_decide]; omega)
    refine BOk.cons rfl [2] [] rfl rfl (by kernel_rfl) (by kernel_rfl) (fun qK qa wr hB qO qF hK => ?_) ?_
    · have e5 : qa.tmps[5]? = some (.bool (decide (kind < 1))) := fis qF.1 rfl rfl
      clear qO qF
      go_simp
      exact hK _ _ (Below.refl _ _) (by first | rfl | (show (_ : Value) = _; simp_all; done))
    refine BOk.optT rfl [] [1] rfl 3 false rfl rfl rfl rfl (by kernel_rfl) (by kernel_rfl) (by kernel_rfl) (fun hp hc hP qK qa wr hB qO qF hK => ?_) ?_
    · have e1 : qa.tmps[1]? = some (.pointer (some ⟨w.heap.size, 0, none⟩)) := qO.1.trans rfl
      clear qO qF
      go_simp
      exact hK _ _ (Below.refl _ _) rfl
    refine BOk.optT rfl [4] [] rfl 3 false rfl rfl rfl rfl (by kernel_rfl) (by kernel_rfl) (by kernel_rfl) (fun hp hc hP qK qa wr hB qO qF hK => ?_) ?_
    · have e7 : qa.tmps[7]? = some (.pointer (some ⟨w.heap.size, 1, none⟩)) := fif qF.1 rfl hP rfl
      clear qO qF
      have hx1 := (bcell hB _ _ (World.block_lt_of_cell? _ _ x1)).trans x1
      go_simp
      exact hK _ _ (Below.refl _ _) rfl
    refine BOk.optT rfl [5] [] rfl 3 false rfl rfl rfl rfl (by kernel_rfl) (by kernel_rfl) (by kernel_rfl) (fun hp hc hP qK qa wr hB qO qF hK => ?_) ?_
    · have e8 : qa.tmps[8]? = some (.int .i64 kind) := fif qF.1 rfl hP rfl
      clear qO qF
      go_simp
      refine hK _ _ (Below.refl _ _) ?_
      show (_ : Value) = _
      first | rfl | (simp; done) | (simp; omega) | (congr 1; simp; done) | (congr 1; rw [decide_eq_decide]; omega)
    refine BOk.cons rfl [3, 6] [] rfl rfl (by kernel_rfl) (by kernel_rfl) (fun qK qa wr hB qO qF hK => ?_) ?_
    · have e6 : qa.tmps[6]? = some (.bool (decide (kind < 1))) := fis qF.1 rfl rfl
      obtain ⟨u9, e9, r6⟩ := qF.2.1
      have r6 : u9 = (bif (true && ((decide (kind < 1)) == false)) then .bool (decide (4 < kind)) else undef) := r6
      clear qO qF
      rcases (Bool.eq_false_or_eq_true ((decide (kind < 1)))).symm with hcc | hcc
      · rw [hcc] at e6
        have e9 : qa.tmps[9]? = some (.bool ((decide (4 < kind)))) := (show u9 = .bool ((decide (4 < kind))) from r6.trans (by (first | rw [hcc] | skip); first | rfl | (rw [hP]; rfl))) ▸ e9
        go_simp
        exact hK _ _ (Below.refl _ _) (by show (_ : Value) = _; first | (rw [hcc]; first | rfl | (simp; done)) | (simp_all; done))
      · rw [hcc] at e6
        go_simp
        exact hK _ _ (Below.refl _ _) (by show (_ : Value) = _; first | (rw [hcc]; first | rfl | (simp; done)) | (simp_all; done))
    refine BOk.cons rfl [7] [] rfl rfl (by kernel_rfl) (by kernel_rfl) (fun qK qa wr hB qO qF hK => ?_) ?_
    · have e10 : qa.tmps[10]? = some (.bool ((decide (kind < 1)) || (decide (4 < kind)))) := fis qF.1 rfl rfl
      clear qO qF
      go_simp
      exact hK _ _ (Below.refl _ _) (by first | rfl | (show (_ : Value) = _; simp_all; done))
    refine BOk.optT rfl [] [1] rfl 8 false rfl rfl rfl rfl (by kernel_rfl) (by kernel_rfl) (by kernel_rfl) (fun hp hc hP qK qa wr hB qO qF hK => ?_) ?_
    · have e1 : qa.tmps[1]? = some (.pointer (some ⟨w.heap.size, 0, none⟩)) := qO.1.trans rfl
      clear qO qF
      go_simp
      exact hK _ _ (Below.refl _ _) rfl
    refine BOk.optT rfl [9] [] rfl 8 false rfl rfl rfl rfl (by kernel_rfl) (by kernel_rfl) (by kernel_rfl) (fun hp hc hP qK qa wr hB qO qF hK => ?_) ?_
    · have e12 : qa.tmps[12]? = some (.pointer (some ⟨w.heap.size, 2, none⟩)) := fif qF.1 rfl hP rfl
      clear qO qF
      have hx2 := (bcell hB _ _ (World.block_lt_of_cell? _ _ x2)).trans x2
      go_simp
      exact hK _ _ (Below.refl _ _) rfl
    refine BOk.optT rfl [10] [] rfl 8 false rfl rfl rfl rfl (by kernel_rfl) (by kernel_rfl) (by kernel_rfl) (fun hp hc hP qK qa wr hB qO qF hK => ?_) ?_
    · have e13 : qa.tmps[13]? = some (.int .i64 pos) := fif qF.1 rfl hP rfl
      clear qO qF
      go_simp
      refine hK _ _ (Below.refl _ _) ?_
      show (_ : Value) = _
      first | rfl | (simp; done) | (simp; omega) | (congr 1; simp; done) | (congr 1; rw [decide_eq_decide]; omega)
    refine BOk.cons rfl [8, 11] [] rfl rfl (by kernel_rfl) (by kernel_rfl) (fun qK qa wr hB qO qF hK => ?_) ?_
    · have e11 : qa.tmps[11]? = some (.bool ((decide (kind < 1)) || (decide (4 < kind)))) := fis qF.1 rfl rfl
      obtain ⟨u14, e14, r11⟩ := qF.2.1
      have r11 : u14 = (bif (true && (((decide (kind < 1)) || (decide (4 < kind))) == false)) then .bool (decide (pos < 0)) else undef) := r11
      clear qO qF
      rcases (Bool.eq_false_or_eq_true (((decide (kind < 1)) || (decide (4 < kind))))).symm with hcc | hcc
      · rw [hcc] at e11
        have e14 : qa.tmps[14]? = some (.bool ((decide (pos < 0)))) := (show u14 = .bool ((decide (pos < 0))) from r11.trans (by (first | rw [hcc] | skip); first | rfl | (rw [hP]; rfl))) ▸ e14
        go_simp
        exact hK _ _ (Below.refl _ _) (by show (_ : Value) = _; first | (rw [hcc]; first | rfl | (simp; done)) | (simp_all; done))
      · rw [hcc] at e11
        go_simp
        exact hK _ _ (Below.refl _ _) (by show (_ : Value) = _; first | (rw [hcc]; first | rfl | (simp; done)) | (simp_all; done))
    refine BOk.cons rfl [12] [] rfl rfl (by kernel_rfl) (by kernel_rfl) (fun qK qa wr hB qO qF hK => ?_) ?_
    · have e15 : qa.tmps[15]? = some (.bool (((decide (kind < 1)) || (decide (4 < kind))) || (decide (pos < 0)))) := fis qF.1 rfl rfl
      clear qO qF
      go_simp
      exact hK _ _ (Below.refl _ _) (by first | rfl | (show (_ : Value) = _; simp_all; done))
    refine BOk.optT rfl [] [1] rfl 13 false rfl rfl rfl rfl (by kernel_rfl) (by kernel_rfl) (by kernel_rfl) (fun hp hc hP qK qa wr hB qO qF hK => ?_) ?_
    · have e1 : qa.tmps[1]? = some (.pointer (some ⟨w.heap.size, 0, none⟩)) := qO.1.trans rfl
      clear qO qF
      go_simp
      exact hK _ _ (Below.refl _ _) rfl
    refine BOk.optT rfl [14] [] rfl 13 false rfl rfl rfl rfl (by kernel_rfl) (by kernel_rfl) (by kernel_rfl) (fun hp hc hP qK qa wr hB qO qF hK => ?_) ?_
    · have e17 : qa.tmps[17]? = some (.pointer (some ⟨w.heap.size, 2, none⟩)) := fif qF.1 rfl hP rfl
      clear qO qF
      have hx2 := (bcell hB _ _ (World.block_lt_of_cell? _ _ x2)).trans x2
      go_simp
      exact hK _ _ (Below.refl _ _) rfl
    refine BOk.optT rfl [15] [] rfl 13 false rfl rfl rfl rfl (by kernel_rfl) (by kernel_rfl) (by kernel_rfl) (fun hp hc hP qK qa wr hB qO qF hK => ?_) ?_
    · have e18 : qa.tmps[18]? = some (.int .i64 pos) := fif qF.1 rfl hP rfl
      clear qO qF
      go_simp
      refine hK _ _ (Below.refl _ _) ?_
      show (_ : Value) = _
      first | rfl | (simp; done) | (simp; omega) | (congr 1; simp; done) | (congr 1; rw [decide_eq_decide]; omega)
    refine BOk.cons rfl [13, 16] [] rfl rfl (by kernel_rfl) (by kernel_rfl) (fun qK qa wr hB qO qF hK => ?_) ?_
    · have e16 : qa.tmps[16]? = some (.bool (((decide (kind < 1)) || (decide (4 < kind))) || (decide (pos < 0)))) := fis qF.1 rfl rfl
      obtain ⟨u19, e19, r16⟩ := qF.2.1
      have r16 : u19 = (bif (true && ((((decide (kind < 1)) || (decide (4 < kind))) || (decide (pos < 0))) == false)) then .bool (decide (8 ≤ pos)) else undef) := r16
      clear qO qF
      rcases (Bool.eq_false_or_eq_true ((((decide (kind < 1)) || (decide (4 < kind))) || (decide (pos < 0))))).symm with hcc | hcc
      · rw [hcc] at e16
        have e19 : qa.tmps[19]? = some (.bool ((decide (8 ≤ pos)))) := (show u19 = .bool ((decide (8 ≤ pos))) from r16.trans (by (first | rw [hcc] | skip); first | rfl | (rw [hP]; rfl))) ▸ e19
        go_simp
        exact hK _ _ (Below.refl _ _) (by show (_ : Value) = _; first | (rw [hcc]; first | rfl | (simp; done)) | (simp_all; done))
      · rw [hcc] at e16
        go_simp
        exact hK _ _ (Below.refl _ _) (by show (_ : Value) = _; first | (rw [hcc]; first | rfl | (simp; done)) | (simp_all; done))
    refine BOk.cons rfl [17] [] rfl rfl (by kernel_rfl) (by kernel_rfl) (fun qK qa wr hB qO qF hK => ?_) ?_
    · have e20 : qa.tmps[20]? = some (.bool ((((decide (kind < 1)) || (decide (4 < kind))) || (decide (pos < 0))) || (decide (8 ≤ pos)))) := fis qF.1 rfl rfl
      clear qO qF
      go_simp
      exact hK _ _ (Below.refl _ _) (by first | rfl | (show (_ : Value) = _; simp_all; done))
    refine BOk.optT rfl [] [1] rfl 18 false rfl rfl rfl rfl (by kernel_rfl) (by kernel_rfl) (by kernel_rfl) (fun hp hc hP qK qa wr hB qO qF hK => ?_) ?_
    · have e1 : qa.tmps[1]? = some (.pointer (some ⟨w.heap.size, 0, none⟩)) := qO.1.trans rfl
      clear qO qF
      go_simp
      exact hK _ _ (Below.refl _ _) rfl
    refine BOk.optT rfl [19] [] rfl 18 false rfl rfl rfl rfl (by kernel_rfl) (by kernel_rfl) (by kernel_rfl) (fun hp hc hP qK qa wr hB qO qF hK => ?_) ?_
    · have e22 : qa.tmps[22]? = some (.pointer (some ⟨w.heap.size, 3, none⟩)) := fif qF.1 rfl hP rfl
      clear qO qF
      have hx3 := (bcell hB _ _ (World.block_lt_of_cell? _ _ x3)).trans x3
      go_simp
      exact hK _ _ (Below.refl _ _) rfl
    refine BOk.optT rfl [20] [] rfl 18 false rfl rfl rfl rfl (by kernel_rfl) (by kernel_rfl) (by kernel_rfl) (fun hp hc hP qK qa wr hB qO qF hK => ?_) ?_
    · have e23 : qa.tmps[23]? = some (.int .i64 attr) := fif qF.1 rfl hP rfl
      clear qO qF
      go_simp
      refine hK _ _ (Below.refl _ _) ?_
      show (_ : Value) = _
      first | rfl | (simp; done) | (simp; omega) | (congr 1; simp; done) | (congr 1; rw [decide_eq_decide]; omega)
    refine BOk.cons rfl [18, 21] [] rfl rfl (by kernel_rfl) (by kernel_rfl) (fun qK qa wr hB qO qF hK => ?_) ?_
    · have e21 : qa.tmps[21]? = some (.bool ((((decide (kind < 1)) || (decide (4 < kind))) || (decide (pos < 0))) || (decide (8 ≤ pos)))) := fis qF.1 rfl rfl
      obtain ⟨u24, e24, r21⟩ := qF.2.1
      have r21 : u24 = (bif (true && (((((decide (kind < 1)) || (decide (4 < kind))) || (decide (pos < 0))) || (decide (8 ≤ pos))) == false)) then .bool (decide (attr < (-1))) else undef) := r21
      clear qO qF
      rcases (Bool.eq_false_or_eq_true (((((decide (kind < 1)) || (decide (4 < kind))) || (decide (pos < 0))) || (decide (8 ≤ pos))))).symm with hcc | hcc
      · rw [hcc] at e21
        have e24 : qa.tmps[24]? = some (.bool ((decide (attr < (-1))))) := (show u24 = .bool ((decide (attr < (-1)))) from r21.trans (by (first | rw [hcc] | skip); first | rfl | (rw [hP]; rfl))) ▸ e24
        go_simp
        exact hK _ _ (Below.refl _ _) (by show (_ : Value) = _; first | (rw [hcc]; first | rfl | (simp; done)) | (simp_all; done))
      · rw [hcc] at e21
        go_simp
        exact hK _ _ (Below.refl _ _) (by show (_ : Value) = _; first | (rw [hcc]; first | rfl | (simp; done)) | (simp_all; done))
    refine BOk.cons rfl [22] [] rfl rfl (by kernel_rfl) (by kernel_rfl) (fun qK qa wr hB qO qF hK => ?_) ?_
    · have e25 : qa.tmps[25]? = some (.bool (((((decide (kind < 1)) || (decide (4 < kind))) || (decide (pos < 0))) || (decide (8 ≤ pos))) || (decide (attr < (-1))))) := fis qF.1 rfl rfl
      clear qO qF
      go_simp
      exact hK _ _ (Below.refl _ _) (by first | rfl | (show (_ : Value) = _; simp_all; done))
    refine BOk.optT rfl [] [1] rfl 23 false rfl rfl rfl rfl (by kernel_rfl) (by kernel_rfl) (by kernel_rfl) (fun hp hc hP qK qa wr hB qO qF hK => ?_) ?_
    · have e1 : qa.tmps[1]? = some (.pointer (some ⟨w.heap.size, 0, none⟩)) := qO.1.trans rfl
      clear qO qF
      go_simp
      exact hK _ _ (Below.refl _ _) rfl
    refine BOk.optT rfl [24] [] rfl 23 false rfl rfl rfl rfl (by kernel_rfl) (by kernel_rfl) (by kernel_rfl) (fun hp hc hP qK qa wr hB qO qF hK => ?_) ?_
    · have e27 : qa.tmps[27]? = some (.pointer (some ⟨w.heap.size, 3, none⟩)) := fif qF.1 rfl hP rfl
      clear qO qF
      have hx3 := (bcell hB _ _ (World.block_lt_of_cell? _ _ x3)).trans x3
      go_simp
      exact hK _ _ (Below.refl _ _) rfl
    refine BOk.optT rfl [25] [] rfl 23 false rfl rfl rfl rfl (by kernel_rfl) (by kernel_rfl) (by kernel_rfl) (fun hp hc hP qK qa wr hB qO qF hK => ?_) ?_
    · have e28 : qa.tmps[28]? = some (.int .i64 attr) := fif qF.1 rfl hP rfl
      clear qO qF
      go_simp
      refine hK _ _ (Below.refl _ _) ?_
      show (_ : Value) = _
      first | rfl | (simp; done) | (simp; omega) | (congr 1; simp; done) | (congr 1; rw [decide_eq_decide]; omega)
    refine BOk.cons rfl [23, 26] [] rfl rfl (by kernel_rfl) (by kernel_rfl) (fun qK qa wr hB qO qF hK => ?_) ?_
    · have e26 : qa.tmps[26]? = some (.bool (((((decide (kind < 1)) || (decide (4 < kind))) || (decide (pos < 0))) || (decide (8 ≤ pos))) || (decide (attr < (-1))))) := fis qF.1 rfl rfl
      obtain ⟨u29, e29, r26⟩ := qF.2.1
      have r26 : u29 = (bif (true && ((((((decide (kind < 1)) || (decide (4 < kind))) || (decide (pos < 0))) || (decide (8 ≤ pos))) || (decide (attr < (-1)))) == false)) then .bool (decide (8 ≤ attr)) else undef) := r26
      clear qO qF
      rcases (Bool.eq_false_or_eq_true ((((((decide (kind < 1)) || (decide (4 < kind))) || (decide (pos < 0))) || (decide (8 ≤ pos))) || (decide (attr < (-1)))))).symm with hcc | hcc
      · rw [hcc] at e26
        have e29 : qa.tmps[29]? = some (.bool ((decide (8 ≤ attr)))) := (show u29 = .bool ((decide (8 ≤ attr))) from r26.trans (by (first | rw [hcc] | skip); first | rfl | (rw [hP]; rfl))) ▸ e29
        go_simp
        exact hK _ _ (Below.refl _ _) (by show (_ : Value) = _; first | (rw [hcc]; first | rfl | (simp; done)) | (simp_all; done))
      · rw [hcc] at e26
        go_simp
        exact hK _ _ (Below.refl _ _) (by show (_ : Value) = _; first | (rw [hcc]; first | rfl | (simp; done)) | (simp_all; done))
    exact BOk.nil
  intro vals wr hl hB hR
  match vals, hl with
  | [z3, z4, z5, z6, z7, z8, z9, z10, z11, z12, z13, z14, z15, z16, z17, z18, z19, z20, z21, z22, z23, z24, z25, z26, z27, z28, z29, z30], _ =>
  have r27 : z30 = .bool ((((((decide (kind < 1)) || (decide (4 < kind))) || (decide (pos < 0))) || (decide (8 ≤ pos))) || (decide (attr < (-1)))) || (decide (8 ≤ attr))) := hR 27 _ rfl
  subst r27
  clear hR
  simp only [List.cons_append, List.nil_append, putAll, Act.put, List.setIfInBounds_toArray, List.set_cons_zero, List.set_cons_succ]
  rw [hbad]
  have KX := Lib.hid (KX.out.old hB)
  have HB := Lib.hid (HB.out.trans (hB.mono HB.out.size))
  clear x0 x1 x2 x3 hB
  have x0 : wr.cell? ⟨w.heap.size, 0, none⟩ = some (.int .i64 op) := KX.out.cell 0
  have x1 : wr.cell? ⟨w.heap.size, 1, none⟩ = some (.int .i64 kind) := KX.out.cell 1
  have x2 : wr.cell? ⟨w.heap.size, 2, none⟩ = some (.int .i64 pos) := KX.out.cell 2
  have x3 : wr.cell? ⟨w.heap.size, 3, none⟩ = some (.int .i64 attr) := KX.out.cell 3
  go_wp2_with fail
  go_ret
  exact ⟨rfl, HB.out⟩

set_option maxRecDepth 100000 in
set_option maxHeartbeats 2000000 in
theorem pin_cur (kind pos attr : Int) (hbad : badI 41 kind pos attr = false) (w : World) :
    Calls Try.prog 26 #[.agg #[.int .i64 41, .int .i64 kind, .int .i64 pos, .int .i64 attr]] w fun e w' => e = .returned (.bool (pos == 0)) ∧ Below w.heap.size w w' := by
  unfold badI at hbad
  have kx := Bk.new w 39 #[.int .i64 41, .int .i64 kind, .int .i64 pos, .int .i64 attr]
  have hbe : Below w.heap.size w (w.alloc (.cells #[.int .i64 41, .int .i64 kind, .int .i64 pos, .int .i64 attr] 39)) := (Below.refl _ _).alloc (Nat.le_refl _) _
  have x0 := kx.cell 0
  have x1 := kx.cell 1
  have x2 := kx.cell 2
  have x3 := kx.cell 3
  have KX := Lib.hid kx
  have HB := Lib.hid hbe
  clear kx hbe
  go_enter Try.func26, Try.ntmps26
  go_upto_region 1 with fail
  refine wp_region_s (fun qk => (inR1 41 kind pos attr w).getD qk .any) (by kernel_rfl) ?_ ?_
  · refine BOk.cons rfl [] [1] rfl rfl (by kernel_rfl) (by kernel_rfl) (fun qK qa wr hB qO qF hK => ?_) ?_
    · have e1 : qa.tmps[1]? = some (.pointer (some ⟨w.heap.size, 0, none⟩)) := qO.1.trans rfl
      clear qO qF
      go_simp
      exact hK _ _ (Below.refl _ _) rfl
    refine BOk.cons rfl [0] [] rfl rfl (by kernel_rfl) (by kernel_rfl) (fun qK qa wr hB qO qF hK => ?_) ?_
    · have e3 : qa.tmps[3]? = some (.pointer (some ⟨w.heap.size, 1, none⟩)) := fis qF.1 rfl rfl
      clear qO qF
      have hx1 := (bcell hB _ _ (World.block_lt_of_cell? _ _ x1)).trans x1
      go_simp
      exact hK _ _ (Below.refl _ _) rfl
    refine BOk.cons rfl [1] [] rfl rfl (by kernel_rfl) (by kernel_rfl) (fun qK qa wr hB qO qF hK => ?_) ?_
    · have e4 : qa.tmps[4]? = some (.int .i64 kind) := fis qF.1 rfl rfl
      clear qO qF
      go_simp
      refine hK _ _ (Below.refl _ _) ?_
      show (_ : Value) = _
      first | rfl | (simp; done) | (simp; omega) | (congr 1; simp; done) | (congr 1; rw [decide_eq_decide]; omega)
    refine BOk.cons rfl [2] [] rfl rfl (by kernel_rfl) (by kernel_rfl) (fun qK qa wr hB qO qF hK => ?_) ?_
    · have e5 : qa.tmps[5]? = some (.bool (decide (kind < 1))) := fis qF.1 rfl rfl
      clear qO qF
      go_simp
      exact hK _ _ (Below.refl _ _) (by first | rfl | (show (_ : Value) = _; simp_all; done))
    refine BOk.optT rfl [] [1] rfl 3 false rfl rfl rfl rfl (by kernel_rfl) (by kernel_rfl) (by kernel_rfl) (fun hp hc hP qK qa wr hB qO qF hK => ?_) ?_
    · have e1 : qa.tmps[1]? = some (.pointer (some ⟨w.heap.size, 0, none⟩)) := qO.1.trans rfl
      clear qO qF
      go_simp
      exact hK _ _ (Below.refl _ _) rfl
    refine BOk.optT rfl [4] [] rfl 3 false rfl rfl rfl rfl (by kernel_rfl) (by kernel_rfl) (by kernel_rfl) (fun hp hc hP qK qa wr hB qO qF hK => ?_) ?_
    · have e7 : qa.tmps[7]? = some (.pointer (some ⟨w.heap.size, 1, none⟩)) := fif qF.1 rfl hP rfl
      clear qO qF
      have hx1 := (bcell hB _ _ (World.block_lt_of_cell? _ _ x1)).trans x1
      go_simp
      exact hK _ _ (Below.refl _ _) rfl
    refine BOk.optT rfl [5] [] rfl 3 false rfl rfl rfl rfl (by kernel_rfl) (by kernel_rfl) (by kernel_rfl) (fun hp hc hP qK qa wr hB qO qF hK => ?_) ?_
    · have e8 : qa.tmps[8]? = some (.int .i64 kind) := fif qF.1 rfl hP rfl
      clear qO qF
      go_simp
      refine hK _ _ (Below.refl _ _) ?_
      show (_ : Value) = _
      first | rfl | (simp; done) | (simp; omega) | (congr 1; simp; done) | (congr 1; rw [decide_eq_decide]; omega)
    refine BOk.cons rfl [3, 6] [] rfl rfl (by kernel_rfl) (by kernel_rfl) (fun qK qa wr hB qO qF hK => ?_) ?_
    · have e6 : qa.tmps[6]? = some (.bool (decide (kind < 1))) := fis qF.1 rfl rfl
      obtain ⟨u9, e9, r6⟩ := qF.2.1
      have r6 : u9 = (bif (true && ((decide (kind < 1)) == false)) then .bool (decide (4 < kind)) else undef) := r6
      clear qO qF
      rcases (Bool.eq_false_or_eq_true ((decide (kind < 1)))).symm with hcc | hcc
      · rw [hcc] at e6
        have e9 : qa.tmps[9]? = some (.bool ((decide (4 < kind)))) := (show u9 = .bool ((decide (4 < kind))) from r6.trans (by (first | rw [hcc] | skip); first | rfl | (rw [hP]; rfl))) ▸ e9
        go_simp
        exact hK _ _ (Below.refl _ _) (by show (_ : Value) = _; first | (rw [hcc]; first | rfl | (simp; done)) | (simp_all; done))
      · rw [hcc] at e6
        go_simp
        exact hK _ _ (Below.refl _ _) (by show (_ : Value) = _; first | (rw [hcc]; first | rfl | (simp; done)) | (simp_all; done))
    refine BOk.cons rfl [7] [] rfl rfl (by kernel_rfl) (by kernel_rfl) (fun qK qa wr hB qO qF hK => ?_) ?_
    · have e10 : qa.tmps[10]? = some (.bool ((decide (kind < 1)) || (decide (4 < kind)))) := fis qF.1 rfl rfl
      clear qO qF
      go_simp
      exact hK _ _ (Below.refl _ _) (by first | rfl | (show (_ : Value) = _; simp_all; done))
    refine BOk.optT rfl [] [1] rfl 8 false rfl rfl rfl rfl (by kernel_rfl) (by kernel_rfl) (by kernel_rfl) (fun hp hc hP qK qa wr hB qO qF hK => ?_) ?_
    · have e1 : qa.tmps[1]? = some (.pointer (some ⟨w.heap.size, 0, none⟩)) := qO.1.trans rfl
      clear qO qF
      go_simp
      exact hK _ _ (Below.refl _ _) rfl
    refine BOk.optT rfl [9] [] rfl 8 false rfl rfl rfl rfl (by kernel_rfl) (by kernel_rfl) (by kernel_rfl) (fun hp hc hP qK qa wr hB qO qF hK => ?_) ?_
    · have e12 : qa.tmps[12]? = some (.pointer (some ⟨w.heap.size, 2, none⟩)) := fif qF.1 rfl hP rfl
      clear qO qF
      have hx2 := (bcell hB _ _ (World.block_lt_of_cell? _ _ x2)).trans x2
      go_simp
      exact hK _ _ (Below.refl _ _) rfl
    refine BOk.optT rfl [10] [] rfl 8 false rfl rfl rfl rfl (by kernel_rfl) (by kernel_rfl) (by kernel_rfl) (fun hp hc hP qK qa wr hB qO qF hK => ?_) ?_
    · have e13 : qa.tmps[13]? = some (.int .i64 pos) := fif qF.1 rfl hP rfl
      clear qO qF
      go_simp
      refine hK _ _ (Below.refl _ _) ?_
      show (_ : Value) = _
      first | rfl | (simp; done) | (simp; omega) | (congr 1; simp; done) | (congr 1; rw [decide_eq_decide]; omega)
    refine BOk.cons rfl [8, 11] [] rfl rfl (by kernel_rfl) (by kernel_rfl) (fun qK qa wr hB qO qF hK => ?_) ?_
    · have e11 : qa.tmps[11]? = some (.bool ((decide (kind < 1)) || (decide (4 < kind)))) := fis qF.1 rfl rfl
      obtain ⟨u14, e14, r11⟩ := qF.2.1
      have r11 : u14 = (bif (true && (((decide (kind < 1)) || (decide (4 < kind))) == false)) then .bool (decide (pos < 0)) else undef) := r11
      clear qO qF
      rcases (Bool.eq_false_or_eq_true (((decide (kind < 1)) || (decide (4 < kind))))).symm with hcc | hcc
      · rw [hcc] at e11
        have e14 : qa.tmps[14]? = some (.bool ((decide (pos < 0)))) := (show u14 = .bool ((decide (pos < 0))) from r11.trans (by (first | rw [hcc] | skip); first | rfl | (rw [hP]; rfl))) ▸ e14
        go_simp
        exact hK _ _ (Below.refl _ _) (by show (_ : Value) = _; first | (rw [hcc]; first | rfl | (simp; done)) | (simp_all; done))
      · rw [hcc] at e11
        go_simp
        exact hK _ _ (Below.refl _ _) (by show (_ : Value) = _; first | (rw [hcc]; first | rfl | (simp; done)) | (simp_all; done))
    refine BOk.cons rfl [12] [] rfl rfl (by kernel_rfl) (by kernel_rfl) (fun qK qa wr hB qO qF hK => ?_) ?_
    · have e15 : qa.tmps[15]? = some (.bool (((decide (kind < 1)) || (decide (4 < kind))) || (decide (pos < 0)))) := fis qF.1 rfl rfl
      clear qO qF
      go_simp
      exact hK _ _ (Below.refl _ _) (by first | rfl | (show (_ : Value) = _; simp_all; done))
    refine BOk.optT rfl [] [1] rfl 13 false rfl rfl rfl rfl (by kernel_rfl) (by kernel_rfl) (by kernel_rfl) (fun hp hc hP qK qa wr hB qO qF hK => ?_) ?_
    · have e1 : qa.tmps[1]? = some (.pointer (some ⟨w.heap.size, 0, none⟩)) := qO.1.trans rfl
      clear qO qF
      go_simp
      exact hK _ _ (Below.refl _ _) rfl
    refine BOk.optT rfl [14] [] rfl 13 false rfl rfl rfl rfl (by kernel_rfl) (by kernel_rfl) (by kernel_rfl) (fun hp hc hP qK qa wr hB qO qF hK => ?_) ?_
    · have e17 : qa.tmps[17]? = some (.pointer (some ⟨w.heap.size, 2, none⟩)) := fif qF.1 rfl hP rfl
      clear qO qF
      have hx2 := (bcell hB _ _ (World.block_lt_of_cell? _ _ x2)).trans x2
      go_simp
      exact hK _ _ (Below.refl _ _) rfl
    refine BOk.optT rfl [15] [] rfl 13 false rfl rfl rfl rfl (by kernel_rfl) (by kernel_rfl) (by kernel_rfl) (fun hp hc hP qK qa wr hB qO qF hK => ?_) ?_
    · have e18 : qa.tmps[18]? = some (.int .i64 pos) := fif qF.1 rfl hP rfl
      clear qO qF
      go_simp
      refine hK _ _ (Below.refl _ _) ?_
      show (_ : Value) = _
      first | rfl | (simp; done) | (simp; omega) | (congr 1; simp; done) | (congr 1; rw [decide_eq_decide]; omega)
    refine BOk.cons rfl [13, 16] [] rfl rfl (by kernel_rfl) (by kernel_rfl) (fun qK qa wr hB qO qF hK => ?_) ?_
    · have e16 : qa.tmps[16]? = some (.bool (((decide (kind < 1)) || (decide (4 < kind))) || (decide (pos < 0)))) := fis qF.1 rfl rfl
      obtain ⟨u19, e19, r16⟩ := qF.2.1
      have r16 : u19 = (bif (true && ((((decide (kind < 1)) || (decide (4 < kind))) || (decide (pos < 0))) == false)) then .bool (decide (8 ≤ pos)) else undef) := r16
      clear qO qF
      rcases (Bool.eq_false_or_eq_true ((((decide (kind < 1)) || (decide (4 < kind))) || (decide (pos < 0))))).symm with hcc | hcc
      · rw [hcc] at e16
        have e19 : qa.tmps[19]? = some (.bool ((decide (8 ≤ pos)))) := (show u19 = .bool ((decide (8 ≤ pos))) from r16.trans (by (first | rw [hcc] | skip); first | rfl | (rw [hP]; rfl))) ▸ e19
        go_simp
        exact hK _ _ (Below.refl _ _) (by show (_ : Value) = _; first | (rw [hcc]; first | rfl | (simp; done)) | (simp_all; done))
      · rw [hcc] at e16
        go_simp
        exact hK _ _ (Below.refl _ _) (by show (_ : Value) = _; first | (rw [hcc]; first | rfl | (simp; done)) | (simp_all; done))
    refine BOk.cons rfl [17] [] rfl rfl (by kernel_rfl) (by kernel_rfl) (fun qK qa wr hB qO qF hK => ?_) ?_
    · have e20 : qa.tmps[20]? = some (.bool ((((decide (kind < 1)) || (decide (4 < kind))) || (decide (pos < 0))) || (decide (8 ≤ pos)))) := fis qF.1 rfl rfl
      clear qO qF
      go_simp
      exact hK _ _ (Below.refl _ _) (by first | rfl | (show (_ : Value) = _; simp_all; done))
    refine BOk.optT rfl [] [1] rfl 18 false rfl rfl rfl rfl (by kernel_rfl) (by kernel_rfl) (by kernel_rfl) (fun hp hc hP qK qa wr hB qO qF hK => ?_) ?_
    · have e1 : qa.tmps[1]? = some (.pointer (some ⟨w.heap.size, 0, none⟩)) := qO.1.trans rfl
      clear qO qF
      go_simp
      exact hK _ _ (Below.refl _ _) rfl
    refine BOk.optT rfl [19] [] rfl 18 false rfl rfl rfl rfl (by kernel_rfl) (by kernel_rfl) (by kernel_rfl) (fun hp hc hP qK qa wr hB qO qF hK => ?_) ?_
    · have e22 : qa.tmps[22]? = some (.pointer (some ⟨w.heap.size, 3, none⟩)) := fif qF.1 rfl hP rfl
      clear qO qF
      have hx3 := (bcell hB _ _ (World.block_lt_of_cell? _ _ x3)).trans x3
      go_simp
      exact hK _ _ (Below.refl _ _) rfl
    refine BOk.optT rfl [20] [] rfl 18 false rfl rfl rfl rfl (by kernel_rfl) (by kernel_rfl) (by kernel_rfl) (fun hp hc hP qK qa wr hB qO qF hK => ?_) ?_
    · have e23 : qa.tmps[23]? = some (.int .i64 attr) := fif qF.1 rfl hP rfl
      clear qO qF
      go_simp
      refine hK _ _ (Below.refl _ _) ?_
      show (_ : Value) = _
      first | rfl | (simp; done) | (simp; omega) | (congr 1; simp; done) | (congr 1; rw [decide_eq_decide]; omega)
    refine BOk.cons rfl [18, 21] [] rfl rfl (by kernel_rfl) (by kernel_rfl) (fun qK qa wr hB qO qF hK => ?_) ?_
    · have e21 : qa.tmps[21]? = some (.bool ((((decide (kind < 1)) || (decide (4 < kind))) || (decide (pos < 0))) || (decide (8 ≤ pos)))) := fis qF.1 rfl rfl
      obtain ⟨u24, e24, r21⟩ := qF.2.1
      have r21 : u24 = (bif (true && (((((decide (kind < 1)) || (decide (4 < kind))) || (decide (pos < 0))) || (decide (8 ≤ pos))) == false)) then .bool (decide (attr < (-1))) else undef) := r21
      clear qO qF
      rcases (Bool.eq_false_or_eq_true (((((decide (kind < 1)) || (decide (4 < kind))) || (decide (pos < 0))) || (decide (8 ≤ pos))))).symm with hcc | hcc
      · rw [hcc] at e21
        have e24 : qa.tmps[24]? = some (.bool ((decide (attr < (-1))))) := (show u24 = .bool ((decide (attr < (-1)))) from r21.trans (by (first | rw [hcc] | skip); first | rfl | (rw [hP]; rfl))) ▸ e24
        go_simp
        exact hK _ _ (Below.refl _ _) (by show (_ : Value) = _; first | (rw [hcc]; first | rfl | (simp; done)) | (simp_all; done))
      · rw [hcc] at e21
        go_simp
        exact hK _ _ (Below.refl _ _) (by show (_ : Value) = _; first | (rw [hcc]; first | rfl | (simp; done)) | (simp_all; done))
    refine BOk.cons rfl [22] [] rfl rfl (by kernel_rfl) (by kernel_rfl) (fun qK qa wr hB qO qF hK => ?_) ?_
    · have e25 : qa.tmps[25]? = some (.bool (((((decide (kind < 1)) || (decide (4 < kind))) || (decide (pos < 0))) || (decide (8 ≤ pos))) || (decide (attr < (-1))))) := fis qF.1 rfl rfl
      clear qO qF
      go_simp
      exact hK _ _ (Below.refl _ _) (by first | rfl | (show (_ : Value) = _; simp_all; done))
    refine BOk.optT rfl [] [1] rfl 23 false rfl rfl rfl rfl (by kernel_rfl) (by kernel_rfl) (by kernel_rfl) (fun hp hc hP qK qa wr hB qO qF hK => ?_) ?_
    · have e1 : qa.tmps[1]? = some (.pointer (some ⟨w.heap.size, 0, none⟩)) := qO.1.trans rfl
      clear qO qF
      go_simp
      exact hK _ _ (Below.refl _ _) rfl
    refine BOk.optT rfl [24] [] rfl 23 false rfl rfl rfl rfl (by kernel_rfl) (by kernel_rfl) (by kernel_rfl) (fun hp hc hP qK qa wr hB qO qF hK => ?_) ?_
    · have e27 : qa.tmps[27]? = some (.pointer (some ⟨w.heap.size, 3, none⟩)) := fif qF.1 rfl hP rfl
      clear qO qF
      have hx3 := (bcell hB _ _ (World.block_lt_of_cell? _ _ x3)).trans x3
      go_simp
      exact hK _ _ (Below.refl _ _) rfl
    refine BOk.optT rfl [25] [] rfl 23 false rfl rfl rfl rfl (by kernel_rfl) (by kernel_rfl) (by kernel_rfl) (fun hp hc hP qK qa wr hB qO qF hK => ?_) ?_
    · have e28 : qa.tmps[28]? = some (.int .i64 attr) := fif qF.1 rfl hP rfl
      clear qO qF
      go_simp
      refine hK _ _ (Below.refl _ _) ?_
      show (_ : Value) = _
      first | rfl | (simp; done) | (simp; omega) | (congr 1; simp; done) | (congr 1; rw [decide_eq_decide]; omega)
    refine BOk.cons rfl [23, 26] [] rfl rfl (by kernel_rfl) (by kernel_rfl) (fun qK qa wr hB qO qF hK => ?_) ?_
    · have e26 : qa.tmps[26]? = some (.bool (((((decide (kind < 1)) || (decide (4 < kind))) || (decide (pos < 0))) || (decide (8 ≤ pos))) || (decide (attr < (-1))))) := fis qF.1 rfl rfl
      obtain ⟨u29, e29, r26⟩ := qF.2.1
      have r26 : u29 = (bif (true && ((((((decide (kind < 1)) || (decide (4 < kind))) || (decide (pos < 0))) || (decide (8 ≤ pos))) || (decide (attr < (-1)))) == false)) then .bool (decide (8 ≤ attr)) else undef) := r26
      clear qO qF
      rcases (Bool.eq_false_or_eq_true ((((((decide (kind < 1)) || (decide (4 < kind))) || (decide (pos < 0))) || (decide (8 ≤ pos))) || (decide (attr < (-1)))))).symm with hcc | hcc
      · rw [hcc] at e26
        have e29 : qa.tmps[29]? = some (.bool ((decide (8 ≤ attr)))) := (show u29 = .bool ((decide (8 ≤ attr))) from r26.trans (by (first | rw [hcc] | skip); first | rfl | (rw [hP]; rfl))) ▸ e29
        go_simp
        exact hK _ _ (Below.refl _ _) (by show (_ : Value) = _; first | (rw [hcc]; first | rfl | (simp; done)) | (simp_all; done))
      · rw [hcc] at e26
        go_simp
        exact hK _ _ (Below.refl _ _) (by show (_ : Value) = _; first | (rw [hcc]; first | rfl | (simp; done)) | (simp_all; done))
    exact BOk.nil
  intro vals wr hl hB hR
  match vals, hl with
  | [z3, z4, z5, z6, z7, z8, z9, z10, z11, z12, z13, z14, z15, z16, z17, z18, z19, z20, z21, z22, z23, z24, z25, z26, z27, z28, z29, z30], _ =>
  have r27 : z30 = .bool ((((((decide (kind < 1)) || (decide (4 < kind))) || (decide (pos < 0))) || (decide (8 ≤ pos))) || (decide (attr < (-1)))) || (decide (8 ≤ attr))) := hR 27 _ rfl
  subst r27
  clear hR
  simp only [List.cons_append, List.nil_append, putAll, Act.put, List.setIfInBounds_toArray, List.set_cons_zero, List.set_cons_succ]
  rw [hbad]
  have KX := Lib.hid (KX.out.old hB)
  have HB := Lib.hid (HB.out.trans (hB.mono HB.out.size))
  clear x0 x1 x2 x3 hB
  have x0 : wr.cell? ⟨w.heap.size, 0, none⟩ = some (.int .i64 41) := KX.out.cell 0
  have x1 : wr.cell? ⟨w.heap.size, 1, none⟩ = some (.int .i64 kind) := KX.out.cell 1
  have x2 : wr.cell? ⟨w.heap.size, 2, none⟩ = some (.int .i64 pos) := KX.out.cell 2
  have x3 : wr.cell? ⟨w.heap.size, 3, none⟩ = some (.int .i64 attr) := KX.out.cell 3
  go_wp2_with fail
  go_ret
  exact ⟨rfl, HB.out⟩

set_option maxRecDepth 100000 in
set_option maxHeartbeats 2000000 in
theorem pin_cnt (kind pos attr : Int) (hbad : badI 25 kind pos attr = false) (w : World) :
    Calls Try.prog 26 #[.agg #[.int .i64 25, .int .i64 kind, .int .i64 pos, .int .i64 attr]] w fun e w' => e = .returned (.bool (attr == 0)) ∧ Below w.heap.size w w' := by
  unfold badI at hbad
  have kx := Bk.new w 39 #[.int .i64 25, .int .i64 kind, .int .i64 pos, .int .i64 attr]
  have hbe : Below w.heap.size w (w.alloc (.cells #[.int .i64 25, .int .i64 kind, .int .i64 pos, .int .i64 attr] 39)) := (Below.refl _ _).alloc (Nat.le_refl _) _
  have x0 := kx.cell 0
  have x1 := kx.cell 1
  have x2 := kx.cell 2
  have x3 := kx.cell 3
  have KX := Lib.hid kx
  have HB := Lib.hid hbe
  clear kx hbe
  go_enter Try.func26, Try.ntmps26
  go_upto_region 1 with fail
  refine wp_region_s (fun qk => (inR1 25 kind pos attr w).getD qk .any) (by kernel_rfl) ?_ ?_
  · refine BOk.cons rfl [] [1] rfl rfl (by kernel_rfl) (by kernel_rfl) (fun qK qa wr hB qO qF hK => ?_) ?_
    · have e1 : qa.tmps[1]? = some (.pointer (some ⟨w.heap.size, 0, none⟩)) := qO.1.trans rfl
      clear qO qF
      go_simp
      exact hK _ _ (Below.refl _ _) rfl
    refine BOk.cons rfl [0] [] rfl rfl (by kernel_rfl) (by kernel_rfl) (fun qK qa wr hB qO qF hK => ?_) ?_
    · have e3 : qa.tmps[3]? = some (.pointer (some ⟨w.heap.size, 1, none⟩)) := fis qF.1 rfl rfl
      clear qO qF
      have hx1 := (bcell hB _ _ (World.block_lt_of_cell? _ _ x1)).trans x1
      go_simp
      exact hK _ _ (Below.refl _ _) rfl
    refine BOk.cons rfl [1] [] rfl rfl (by kernel_rfl) (by kernel_rfl) (fun qK qa wr hB qO qF hK => ?_) ?_
    · have e4 : qa.tmps[4]? = some (.int .i64 kind) := fis qF.1 rfl rfl
      clear qO qF
      go_simp
      refine hK _ _ (Below.refl _ _) ?_
      show (_ : Value) = _
      first | rfl | (simp; done) | (simp; omega) | (congr 1; simp; done) | (congr 1; rw [decide_eq_decide]; omega)
    refine BOk.cons rfl [2] [] rfl rfl (by kernel_rfl) (by kernel_rfl) (fun qK qa wr hB qO qF hK => ?_) ?_
    · have e5 : qa.tmps[5]? = some (.bool (decide (kind < 1))) := fis qF.1 rfl rfl
      clear qO qF
      go_simp
      exact hK _ _ (Below.refl _ _) (by first | rfl | (show (_ : Value) = _; simp_all; done))
    refine BOk.optT rfl [] [1] rfl 3 false rfl rfl rfl rfl (by kernel_rfl) (by kernel_rfl) (by kernel_rfl) (fun hp hc hP qK qa wr hB qO qF hK => ?_) ?_
    · have e1 : qa.tmps[1]? = some (.pointer (some ⟨w.heap.size, 0, none⟩)) := qO.1.trans rfl
      clear qO qF
      go_simp
      exact hK _ _ (Below.refl _ _) rfl
    refine BOk.optT rfl [4] [] rfl 3 false rfl rfl rfl rfl (by kernel_rfl) (by kernel_rfl) (by kernel_rfl) (fun hp hc hP qK qa wr hB qO qF hK => ?_) ?_
    · have e7 : qa.tmps[7]? = some (.pointer (some ⟨w.heap.size, 1, none⟩)) := fif qF.1 rfl hP rfl
      clear qO qF
      have hx1 := (bcell hB _ _ (World.block_lt_of_cell? _ _ x1)).trans x1
      go_simp
      exact hK _ _ (Below.refl _ _) rfl
    refine BOk.optT rfl [5] [] rfl 3 false rfl rfl rfl rfl (by kernel_rfl) (by kernel_rfl) (by kernel_rfl) (fun hp hc hP qK qa wr hB qO qF hK => ?_) ?_
    · have e8 : qa.tmps[8]? = some (.int .i64 kind) := fif qF.1 rfl hP rfl
      clear qO qF
      go_simp
      refine hK _ _ (Below.refl _ _) ?_
      show (_ : Value) = _
      first | rfl | (simp; done) | (simp; omega) | (congr 1; simp; done) | (congr 1; rw [decide_eq_decide]; omega)
    refine BOk.cons rfl [3, 6] [] rfl rfl (by kernel_rfl) (by kernel_rfl) (fun qK qa wr hB qO qF hK => ?_) ?_
    · have e6 : qa.tmps[6]? = some (.bool (decide (kind < 1))) := fis qF.1 rfl rfl
      obtain ⟨u9, e9, r6⟩ := qF.2.1
      have r6 : u9 = (bif (true && ((decide (kind < 1)) == false)) then .bool (decide (4 < kind)) else undef) := r6
      clear qO qF
      rcases (Bool.eq_false_or_eq_true ((decide (kind < 1)))).symm with hcc | hcc
      · rw [hcc] at e6
        have e9 : qa.tmps[9]? = some (.bool ((decide (4 < kind)))) := (show u9 = .bool ((decide (4 < kind))) from r6.trans (by (first | rw [hcc] | skip); first | rfl | (rw [hP]; rfl))) ▸ e9
        go_simp
        exact hK _ _ (Below.refl _ _) (by show (_ : Value) = _; first | (rw [hcc]; first | rfl | (simp; done)) | (simp_all; done))
      · rw [hcc] at e6
        go_simp
        exact hK _ _ (Below.refl _ _) (by show (_ : Value) = _; first | (rw [hcc]; first | rfl | (simp; done)) | (simp_all; done))
    refine BOk.cons rfl [7] [] rfl rfl (by kernel_rfl) (by kernel_rfl) (fun qK qa wr hB qO qF hK => ?_) ?_
    · have e10 : qa.tmps[10]? = some (.bool ((decide (kind < 1)) || (decide (4 < kind)))) := fis qF.1 rfl rfl
      clear qO qF
      go_simp
      exact hK _ _ (Below.refl _ _) (by first | rfl | (show (_ : Value) = _; simp_all; done))
    refine BOk.optT rfl [] [1] rfl 8 false rfl rfl rfl rfl (by kernel_rfl) (by kernel_rfl) (by kernel_rfl) (fun hp hc hP qK qa wr hB qO qF hK => ?_) ?_
    · have e1 : qa.tmps[1]? = some (.pointer (some ⟨w.heap.size, 0, none⟩)) := qO.1.trans rfl
      clear qO qF
      go_simp
      exact hK _ _ (Below.refl _ _) rfl
    refine BOk.optT rfl [9] [] rfl 8 false rfl rfl rfl rfl (by kernel_rfl) (by kernel_rfl) (by kernel_rfl) (fun hp hc hP qK qa wr hB qO qF hK => ?_) ?_
    · have e12 : qa.tmps[12]? = some (.pointer (some ⟨w.heap.size, 2, none⟩)) := fif qF.1 rfl hP rfl
      clear qO qF
      have hx2 := (bcell hB _ _ (World.block_lt_of_cell? _ _ x2)).trans x2
      go_simp
      exact hK _ _ (Below.refl _ _) rfl
    refine BOk.optT rfl [10] [] rfl 8 false rfl rfl rfl rfl (by kernel_rfl) (by kernel_rfl) (by kernel_rfl) (fun hp hc hP qK qa wr hB qO qF hK => ?_) ?_
    · have e13 : qa.tmps[13]? = some (.int .i64 pos) := fif qF.1 rfl hP rfl
      clear qO qF
      go_simp
      refine hK _ _ (Below.refl _ _) ?_
      show (_ : Value) = _
      first | rfl | (simp; done) | (simp; omega) | (congr 1; simp; done) | (congr 1; rw [decide_eq_decide]; omega)
    refine BOk.cons rfl [8, 11] [] rfl rfl (by kernel_rfl) (by kernel_rfl) (fun qK qa wr hB qO qF hK => ?_) ?_
    · have e11 : qa.tmps[11]? = some (.bool ((decide (kind < 1)) || (decide (4 < kind)))) := fis qF.1 rfl rfl
      obtain ⟨u14, e14, r11⟩ := qF.2.1
      have r11 : u14 = (bif (true && (((decide (kind < 1)) || (decide (4 < kind))) == false)) then .bool (decide (pos < 0)) else undef) := r11
      clear qO qF
      rcases (Bool.eq_false_or_eq_true (((decide (kind < 1)) || (decide (4 < kind))))).symm with hcc | hcc
      · rw [hcc] at e11
        have e14 : qa.tmps[14]? = some (.bool ((decide (pos < 0)))) := (show u14 = .bool ((decide (pos < 0))) from r11.trans (by (first | rw [hcc] | skip); first | rfl | (rw [hP]; rfl))) ▸ e14
        go_simp
        exact hK _ _ (Below.refl _ _) (by show (_ : Value) = _; first | (rw [hcc]; first | rfl | (simp; done)) | (simp_all; done))
      · rw [hcc] at e11
        go_simp
        exact hK _ _ (Below.refl _ _) (by show (_ : Value) = _; first | (rw [hcc]; first | rfl | (simp; done)) | (simp_all; done))
    refine BOk.cons rfl [12] [] rfl rfl (by kernel_rfl) (by kernel_rfl) (fun qK qa wr hB qO qF hK => ?_) ?_
    · have e15 : qa.tmps[15]? = some (.bool (((decide (kind < 1)) || (decide (4 < kind))) || (decide (pos < 0)))) := fis qF.1 rfl rfl
      clear qO qF
      go_simp
      exact hK _ _ (Below.refl _ _) (by first | rfl | (show (_ : Value) = _; simp_all; done))
    refine BOk.optT rfl [] [1] rfl 13 false rfl rfl rfl rfl (by kernel_rfl) (by kernel_rfl) (by kernel_rfl) (fun hp hc hP qK qa wr hB qO qF hK => ?_) ?_
    · have e1 : qa.tmps[1]? = some (.pointer (some ⟨w.heap.size, 0, none⟩)) := qO.1.trans rfl
      clear qO qF
      go_simp
      exact hK _ _ (Below.refl _ _) rfl
    refine BOk.optT rfl [14] [] rfl 13 false rfl rfl rfl rfl (by kernel_rfl) (by kernel_rfl) (by kernel_rfl) (fun hp hc hP qK qa wr hB qO qF hK => ?_) ?_
    · have e17 : qa.tmps[17]? = some (.pointer (some ⟨w.heap.size, 2, none⟩)) := fif qF.1 rfl hP rfl
      clear qO qF
      have hx2 := (bcell hB _ _ (World.block_lt_of_cell? _ _ x2)).trans x2
      go_simp
      exact hK _ _ (Below.refl _ _) rfl
    refine BOk.optT rfl [15] [] rfl 13 false rfl rfl rfl rfl (by kernel_rfl) (by kernel_rfl) (by kernel_rfl) (fun hp hc hP qK qa wr hB qO qF hK => ?_) ?_
    · have e18 : qa.tmps[18]? = some (.int .i64 pos) := fif qF.1 rfl hP rfl
      clear qO qF
      go_simp
      refine hK _ _ (Below.refl _ _) ?_
      show (_ : Value) = _
      first | rfl | (simp; done) | (simp; omega) | (congr 1; simp; done) | (congr 1; rw [decide_eq_decide]; omega)
    refine BOk.cons rfl [13, 16] [] rfl rfl (by kernel_rfl) (by kernel_rfl) (fun qK qa wr hB qO qF hK => ?_) ?_
    · have e16 : qa.tmps[16]? = some (.bool (((decide (kind < 1)) || (decide (4 < kind))) || (decide (pos < 0)))) := fis qF.1 rfl rfl
      obtain ⟨u19, e19, r16⟩ := qF.2.1
      have r16 : u19 = (bif (true && ((((decide (kind < 1)) || (decide (4 < kind))) || (decide (pos < 0))) == false)) then .bool (decide (8 ≤ pos)) else undef) := r16
      clear qO qF
      rcases (Bool.eq_false_or_eq_true ((((decide (kind < 1)) || (decide (4 < kind))) || (decide (pos < 0))))).symm with hcc | hcc
      · rw [hcc] at e16
        have e19 : qa.tmps[19]? = some (.bool ((decide (8 ≤ pos)))) := (show u19 = .bool ((decide (8 ≤ pos))) from r16.trans (by (first | rw [hcc] | skip); first | rfl | (rw [hP]; rfl))) ▸ e19
        go_simp
        exact hK _ _ (Below.refl _ _) (by show (_ : Value) = _; first | (rw [hcc]; first | rfl | (simp; done)) | (simp_all; done))
      · rw [hcc] at e16
        go_simp
        exact hK _ _ (Below.refl _ _) (by show (_ : Value) = _; first | (rw [hcc]; first | rfl | (simp; done)) | (simp_all; done))
    refine BOk.cons rfl [17] [] rfl rfl (by kernel_rfl) (by kernel_rfl) (fun qK qa wr hB qO qF hK => ?_) ?_
    · have e20 : qa.tmps[20]? = some (.bool ((((decide (kind < 1)) || (decide (4 < kind))) || (decide (pos < 0))) || (decide (8 ≤ pos)))) := fis qF.1 rfl rfl
      clear qO qF
      go_simp
      exact hK _ _ (Below.refl _ _) (by first | rfl | (show (_ : Value) = _; simp_all; done))
    refine BOk.optT rfl [] [1] rfl 18 false rfl rfl rfl rfl (by kernel_rfl) (by kernel_rfl) (by kernel_rfl) (fun hp hc hP qK qa wr hB qO qF hK => ?_) ?_
    · have e1 : qa.tmps[1]? = some (.pointer (some ⟨w.heap.size, 0, none⟩)) := qO.1.trans rfl
      clear qO qF
      go_simp
      exact hK _ _ (Below.refl _ _) rfl
    refine BOk.optT rfl [19] [] rfl 18 false rfl rfl rfl rfl (by kernel_rfl) (by kernel_rfl) (by kernel_rfl) (fun hp hc hP qK qa wr hB qO qF hK => ?_) ?_
    · have e22 : qa.tmps[22]? = some (.pointer (some ⟨w.heap.size, 3, none⟩)) := fif qF.1 rfl hP rfl
      clear qO qF
      have hx3 := (bcell hB _ _ (World.block_lt_of_cell? _ _ x3)).trans x3
      go_simp
      exact hK _ _ (Below.refl _ _) rfl
    refine BOk.optT rfl [20] [] rfl 18 false rfl rfl rfl rfl (by kernel_rfl) (by kernel_rfl) (by kernel_rfl) (fun hp hc hP qK qa wr hB qO qF hK => ?_) ?_
    · have e23 : qa.tmps[23]? = some (.int .i64 attr) := fif qF.1 rfl hP rfl
      clear qO qF
      go_simp
      refine hK _ _ (Below.refl _ _) ?_
      show (_ : Value) = _
      first | rfl | (simp; done) | (simp; omega) | (congr 1; simp; done) | (congr 1; rw [decide_eq_decide]; omega)
    refine BOk.cons rfl [18, 21] [] rfl rfl (by kernel_rfl) (by kernel_rfl) (fun qK qa wr hB qO qF hK => ?_) ?_
    · have e21 : qa.tmps[21]? = some (.bool ((((decide (kind < 1)) || (decide (4 < kind))) || (decide (pos < 0))) || (decide (8 ≤ pos)))) := fis qF.1 rfl rfl
      obtain ⟨u24, e24, r21⟩ := qF.2.1
      have r21 : u24 = (bif (true && (((((decide (kind < 1)) || (decide (4 < kind))) || (decide (pos < 0))) || (decide (8 ≤ pos))) == false)) then .bool (decide (attr < (-1))) else undef) := r21
      clear qO qF
      rcases (Bool.eq_false_or_eq_true (((((decide (kind < 1)) || (decide (4 < kind))) || (decide (pos < 0))) || (decide (8 ≤ pos))))).symm with hcc | hcc
      · rw [hcc] at e21
        have e24 : qa.tmps[24]? = some (.bool ((decide (attr < (-1))))) := (show u24 = .bool ((decide (attr < (-1)))) from r21.trans (by (first | rw [hcc] | skip); first | rfl | (rw [hP]; rfl))) ▸ e24
        go_simp
        exact hK _ _ (Below.refl _ _) (by show (_ : Value) = _; first | (rw [hcc]; first | rfl | (simp; done)) | (simp_all; done))
      · rw [hcc] at e21
        go_simp
        exact hK _ _ (Below.refl _ _) (by show (_ : Value) = _; first | (rw [hcc]; first | rfl | (simp; done)) | (simp_all; done))
    refine BOk.cons rfl [22] [] rfl rfl (by kernel_rfl) (by kernel_rfl) (fun qK qa wr hB qO qF hK => ?_) ?_
    · have e25 : qa.tmps[25]? = some (.bool (((((decide (kind < 1)) || (decide (4 < kind))) || (decide (pos < 0))) || (decide (8 ≤ pos))) || (decide (attr < (-1))))) := fis qF.1 rfl rfl
      clear qO qF
      go_simp
      exact hK _ _ (Below.refl _ _) (by first | rfl | (show (_ : Value) = _; simp_all; done))
    refine BOk.optT rfl [] [1] rfl 23 false rfl rfl rfl rfl (by kernel_rfl) (by kernel_rfl) (by kernel_rfl) (fun hp hc hP qK qa wr hB qO qF hK => ?_) ?_
    · have e1 : qa.tmps[1]? = some (.pointer (some ⟨w.heap.size, 0, none⟩)) := qO.1.trans rfl
      clear qO qF
      go_simp
      exact hK _ _ (Below.refl _ _) rfl
    refine BOk.optT rfl [24] [] rfl 23 false rfl rfl rfl rfl (by kernel_rfl) (by kernel_rfl) (by kernel_rfl) (fun hp hc hP qK qa wr hB qO qF hK => ?_) ?_
    · have e27 : qa.tmps[27]? = some (.pointer (some ⟨w.heap.size, 3, none⟩)) := fif qF.1 rfl hP rfl
      clear qO qF
      have hx3 := (bcell hB _ _ (World.block_lt_of_cell? _ _ x3)).trans x3
      go_simp
      exact hK _ _ (Below.refl _ _) rfl
    refine BOk.optT rfl [25] [] rfl 23 false rfl rfl rfl rfl (by kernel_rfl) (by kernel_rfl) (by kernel_rfl) (fun hp hc hP qK qa wr hB qO qF hK => ?_) ?_
    · have e28 : qa.tmps[28]? = some (.int .i64 attr) := fif qF.1 rfl hP rfl
      clear qO qF
      go_simp
      refine hK _ _ (Below.refl _ _) ?_
      show (_ : Value) = _
      first | rfl | (simp; done) | (simp; omega) | (congr 1; simp; done) | (congr 1; rw [decide_eq_decide]; omega)
    refine BOk.cons rfl [23, 26] [] rfl rfl (by kernel_rfl) (by kernel_rfl) (fun qK qa wr hB qO qF hK => ?_) ?_
    · have e26 : qa.tmps[26]? = some (.bool (((((decide (kind < 1)) || (decide (4 < kind))) || (decide (pos < 0))) || (decide (8 ≤ pos))) || (decide (attr < (-1))))) := fis qF.1 rfl rfl
      obtain ⟨u29, e29, r26⟩ := qF.2.1
      have r26 : u29 = (bif (true && ((((((decide (kind < 1)) || (decide (4 < kind))) || (decide (pos < 0))) || (decide (8 ≤ pos))) || (decide (attr < (-1)))) == false)) then .bool (decide (8 ≤ attr)) else undef) := r26
      clear qO qF
      rcases (Bool.eq_false_or_eq_true ((((((decide (kind < 1)) || (decide (4 < kind))) || (decide (pos < 0))) || (decide (8 ≤ pos))) || (decide (attr < (-1)))))).symm with hcc | hcc
      · rw [hcc] at e26
        have e29 : qa.tmps[29]? = some (.bool ((decide (8 ≤ attr)))) := (show u29 = .bool ((decide (8 ≤ attr))) from r26.trans (by (first | rw [hcc] | skip); first | rfl | (rw [hP]; rfl))) ▸ e29
        go_simp
        exact hK _ _ (Below.refl _ _) (by show (_ : Value) = _; first | (rw [hcc]; first | rfl | (simp; done)) | (simp_all; done))
      · rw [hcc] at e26
        go_simp
        exact hK _ _ (Below.refl _ _) (by show (_ : Value) = _; first | (rw [hcc]; first | rfl | (simp; done)) | (simp_all; done))
    exact BOk.nil
  intro vals wr hl hB hR
  match vals, hl with
  | [z3, z4, z5, z6, z7, z8, z9, z10, z11, z12, z13, z14, z15, z16, z17, z18, z19, z20, z21, z22, z23, z24, z25, z26, z27, z28, z29, z30], _ =>
  have r27 : z30 = .bool ((((((decide (kind < 1)) || (decide (4 < kind))) || (decide (pos < 0))) || (decide (8 ≤ pos))) || (decide (attr < (-1)))) || (decide (8 ≤ attr))) := hR 27 _ rfl
  subst r27
  clear hR
  simp only [List.cons_append, List.nil_append, putAll, Act.put, List.setIfInBounds_toArray, List.set_cons_zero, List.set_cons_succ]
  rw [hbad]
  have KX := Lib.hid (KX.out.old hB)
  have HB := Lib.hid (HB.out.trans (hB.mono HB.out.size))
  clear x0 x1 x2 x3 hB
  have x0 : wr.cell? ⟨w.heap.size, 0, none⟩ = some (.int .i64 25) := KX.out.cell 0
  have x1 : wr.cell? ⟨w.heap.size, 1, none⟩ = some (.int .i64 kind) := KX.out.cell 1
  have x2 : wr.cell? ⟨w.heap.size, 2, none⟩ = some (.int .i64 pos) := KX.out.cell 2
  have x3 : wr.cell? ⟨w.heap.size, 3, none⟩ = some (.int .i64 attr) := KX.out.cell 3
  go_wp2_with fail
  go_ret
  exact ⟨rfl, HB.out⟩

set_option maxRecDepth 100000 in
set_option maxHeartbeats 2000000 in
theorem pin_etc (op : Int) (kind pos attr : Int) (hbad : badI op kind pos attr = false) (h41 : op ≠ 41) (h25 : op ≠ 25) (w : World) :
    Calls Try.prog 26 #[.agg #[.int .i64 op, .int .i64 kind, .int .i64 pos, .int .i64 attr]] w fun e w' => e = .returned (.bool ((((op == 42)) || ((decide (26 ≤ op)) && (decide (op ≤ 31)))))) ∧ Below w.heap.size w w' := by
  unfold badI at hbad
  have kx := Bk.new w 39 #[.int .i64 op, .int .i64 kind, .int .i64 pos, .int .i64 attr]
  have hbe : Below w.heap.size w (w.alloc (.cells #[.int .i64 op, .int .i64 kind, .int .i64 pos, .int .i64 attr] 39)) := (Below.refl _ _).alloc (Nat.le_refl _) _
  have x0 := kx.cell 0
  have x1 := kx.cell 1
  have x2 := kx.cell 2
  have x3 := kx.cell 3
  have KX := Lib.hid kx
  have HB := Lib.hid hbe
  clear kx hbe
  go_enter Try.func26, Try.ntmps26
  go_upto_region 1 with fail
  refine wp_region_s (fun qk => (inR1 op kind pos attr w).getD qk .any) (by kernel_rfl) ?_ ?_
  · refine BOk.cons rfl [] [1] rfl rfl (by kernel_rfl) (by kernel_rfl) (fun qK qa wr hB qO qF hK => ?_) ?_
    · have e1 : qa.tmps[1]? = some (.pointer (some ⟨w.heap.size, 0, none⟩)) := qO.1.trans rfl
      clear qO qF
      go_simp
      exact hK _ _ (Below.refl _ _) rfl
    refine BOk.cons rfl [0] [] rfl rfl (by kernel_rfl) (by kernel_rfl) (fun qK qa wr hB qO qF hK => ?_) ?_
    · have e3 : qa.tmps[3]? = some (.pointer (some ⟨w.heap.size, 1, none⟩)) := fis qF.1 rfl rfl
      clear qO qF
      have hx1 := (bcell hB _ _ (World.block_lt_of_cell? _ _ x1)).trans x1
      go_simp
      exact hK _ _ (Below.refl _ _) rfl
    refine BOk.cons rfl [1] [] rfl rfl (by kernel_rfl) (by kernel_rfl) (fun qK qa wr hB qO qF hK => ?_) ?_
    · have e4 : qa.tmps[4]? = some (.int .i64 kind) := fis qF.1 rfl rfl
      clear qO qF
      go_simp
      refine hK _ _ (Below.refl _ _) ?_
      show (_ : Value) = _
      first | rfl | (simp; done) | (simp; omega) | (congr 1; simp; done) | (congr 1; rw [decide_eq_decide]; omega)
    refine BOk.cons rfl [2] [] rfl rfl (by kernel_rfl) (by kernel_rfl) (fun qK qa wr hB qO qF hK => ?_) ?_
    · have e5 : qa.tmps[5]? = some (.bool (decide (kind < 1))) := fis qF.1 rfl rfl
      clear qO qF
      go_simp
      exact hK _ _ (Below.refl _ _) (by first | rfl | (show (_ : Value) = _; simp_all; done))
    refine BOk.optT rfl [] [1] rfl 3 false rfl rfl rfl rfl (by kernel_rfl) (by kernel_rfl) (by kernel_rfl) (fun hp hc hP qK qa wr hB qO qF hK => ?_) ?_
    · have e1 : qa.tmps[1]? = some (.pointer (some ⟨w.heap.size, 0, none⟩)) := qO.1.trans rfl
      clear qO qF
      go_simp
      exact hK _ _ (Below.refl _ _) rfl
    refine BOk.optT rfl [4] [] rfl 3 false rfl rfl rfl rfl (by kernel_rfl) (by kernel_rfl) (by kernel_rfl) (fun hp hc hP qK qa wr hB qO qF hK => ?_) ?_
    · have e7 : qa.tmps[7]? = some (.pointer (some ⟨w.heap.size, 1, none⟩)) := fif qF.1 rfl hP rfl
      clear qO qF
      have hx1 := (bcell hB _ _ (World.block_lt_of_cell? _ _ x1)).trans x1
      go_simp
      exact hK _ _ (Below.refl _ _) rfl
    refine BOk.optT rfl [5] [] rfl 3 false rfl rfl rfl rfl (by kernel_rfl) (by kernel_rfl) (by kernel_rfl) (fun hp hc hP qK qa wr hB qO qF hK => ?_) ?_
    · have e8 : qa.tmps[8]? = some (.int .i64 kind) := fif qF.1 rfl hP rfl
      clear qO qF
      go_simp
      refine hK _ _ (Below.refl _ _) ?_
      show (_ : Value) = _
      first | rfl | (simp; done) | (simp; omega) | (congr 1; simp; done) | (congr 1; rw [decide_eq_decide]; omega)
    refine BOk.cons rfl [3, 6] [] rfl rfl (by kernel_rfl) (by kernel_rfl) (fun qK qa wr hB qO qF hK => ?_) ?_
    · have e6 : qa.tmps[6]? = some (.bool (decide (kind < 1))) := fis qF.1 rfl rfl
      obtain ⟨u9, e9, r6⟩ := qF.2.1
      have r6 : u9 = (bif (true && ((decide (kind < 1)) == false)) then .bool (decide (4 < kind)) else undef) := r6
      clear qO qF
      rcases (Bool.eq_false_or_eq_true ((decide (kind < 1)))).symm with hcc | hcc
      · rw [hcc] at e6
        have e9 : qa.tmps[9]? = some (.bool ((decide (4 < kind)))) := (show u9 = .bool ((decide (4 < kind))) from r6.trans (by (first | rw [hcc] | skip); first | rfl | (rw [hP]; rfl))) ▸ e9
        go_simp
        exact hK _ _ (Below.refl _ _) (by show (_ : Value) = _; first | (rw [hcc]; first | rfl | (simp; done)) | (simp_all; done))
      · rw [hcc] at e6
        go_simp
        exact hK _ _ (Below.refl _ _) (by show (_ : Value) = _; first | (rw [hcc]; first | rfl | (simp; done)) | (simp_all; done))
    refine BOk.cons rfl [7] [] rfl rfl (by kernel_rfl) (by kernel_rfl) (fun qK qa wr hB qO qF hK => ?_) ?_
    · have e10 : qa.tmps[10]? = some (.bool ((decide (kind < 1)) || (decide (4 < kind)))) := fis qF.1 rfl rfl
      clear qO qF
      go_simp
      exact hK _ _ (Below.refl _ _) (by first | rfl | (show (_ : Value) = _; simp_all; done))
    refine BOk.optT rfl [] [1] rfl 8 false rfl rfl rfl rfl (by kernel_rfl) (by kernel_rfl) (by kernel_rfl) (fun hp hc hP qK qa wr hB qO qF hK => ?_) ?_
    · have e1 : qa.tmps[1]? = some (.pointer (some ⟨w.heap.size, 0, none⟩)) := qO.1.trans rfl
      clear qO qF
      go_simp
      exact hK _ _ (Below.refl _ _) rfl
    refine BOk.optT rfl [9] [] rfl 8 false rfl rfl rfl rfl (by kernel_rfl) (by kernel_rfl) (by kernel_rfl) (fun hp hc hP qK qa wr hB qO qF hK => ?_) ?_
    · have e12 : qa.tmps[12]? = some (.pointer (some ⟨w.heap.size, 2, none⟩)) := fif qF.1 rfl hP rfl
      clear qO qF
      have hx2 := (bcell hB _ _ (World.block_lt_of_cell? _ _ x2)).trans x2
      go_simp
      exact hK _ _ (Below.refl _ _) rfl
    refine BOk.optT rfl [10] [] rfl 8 false rfl rfl rfl rfl (by kernel_rfl) (by kernel_rfl) (by kernel_rfl) (fun hp hc hP qK qa wr hB qO qF hK => ?_) ?_
    · have e13 : qa.tmps[13]? = some (.int .i64 pos) := fif qF.1 rfl hP rfl
      clear qO qF
      go_simp
      refine hK _ _ (Below.refl _ _) ?_
      show (_ : Value) = _
      first | rfl | (simp; done) | (simp; omega) | (congr 1; simp; done) | (congr 1; rw [decide_eq_decide]; omega)
    refine BOk.cons rfl [8, 11] [] rfl rfl (by kernel_rfl) (by kernel_rfl) (fun qK qa wr hB qO qF hK => ?_) ?_
    · have e11 : qa.tmps[11]? = some (.bool ((decide (kind < 1)) || (decide (4 < kind)))) := fis qF.1 rfl rfl
      obtain ⟨u14, e14, r11⟩ := qF.2.1
      have r11 : u14 = (bif (true && (((decide (kind < 1)) || (decide (4 < kind))) == false)) then .bool (decide (pos < 0)) else undef) := r11
      clear qO qF
      rcases (Bool.eq_false_or_eq_true (((decide (kind < 1)) || (decide (4 < kind))))).symm with hcc | hcc
      · rw [hcc] at e11
        have e14 : qa.tmps[14]? = some (.bool ((decide (pos < 0)))) := (show u14 = .bool ((decide (pos < 0))) from r11.trans (by (first | rw [hcc] | skip); first | rfl | (rw [hP]; rfl))) ▸ e14
        go_simp
        exact hK _ _ (Below.refl _ _) (by show (_ : Value) = _; first | (rw [hcc]; first | rfl | (simp; done)) | (simp_all; done))
      · rw [hcc] at e11
        go_simp
        exact hK _ _ (Below.refl _ _) (by show (_ : Value) = _; first | (rw [hcc]; first | rfl | (simp; done)) | (simp_all; done))
    refine BOk.cons rfl [12] [] rfl rfl (by kernel_rfl) (by kernel_rfl) (fun qK qa wr hB qO qF hK => ?_) ?_
    · have e15 : qa.tmps[15]? = some (.bool (((decide (kind < 1)) || (decide (4 < kind))) || (decide (pos < 0)))) := fis qF.1 rfl rfl
      clear qO qF
      go_simp
      exact hK _ _ (Below.refl _ _) (by first | rfl | (show (_ : Value) = _; simp_all; done))
    refine BOk.optT rfl [] [1] rfl 13 false rfl rfl rfl rfl (by kernel_rfl) (by kernel_rfl) (by kernel_rfl) (fun hp hc hP qK qa wr hB qO qF hK => ?_) ?_
    · have e1 : qa.tmps[1]? = some (.pointer (some ⟨w.heap.size, 0, none⟩)) := qO.1.trans rfl
      clear qO qF
      go_simp
      exact hK _ _ (Below.refl _ _) rfl
    refine BOk.optT rfl [14] [] rfl 13 false rfl rfl rfl rfl (by kernel_rfl) (by kernel_rfl) (by kernel_rfl) (fun hp hc hP qK qa wr hB qO qF hK => ?_) ?_
    · have e17 : qa.tmps[17]? = some (.pointer (some ⟨w.heap.size, 2, none⟩)) := fif qF.1 rfl hP rfl
      clear qO qF
      have hx2 := (bcell hB _ _ (World.block_lt_of_cell? _ _ x2)).trans x2
      go_simp
      exact hK _ _ (Below.refl _ _) rfl
    refine BOk.optT rfl [15] [] rfl 13 false rfl rfl rfl rfl (by kernel_rfl) (by kernel_rfl) (by kernel_rfl) (fun hp hc hP qK qa wr hB qO qF hK => ?_) ?_
    · have e18 : qa.tmps[18]? = some (.int .i64 pos) := fif qF.1 rfl hP rfl
      clear qO qF
      go_simp
      refine hK _ _ (Below.refl _ _) ?_
      show (_ : Value) = _
      first | rfl | (simp; done) | (simp; omega) | (congr 1; simp; done) | (congr 1; rw [decide_eq_decide]; omega)
    refine BOk.cons rfl [13, 16] [] rfl rfl (by kernel_rfl) (by kernel_rfl) (fun qK qa wr hB qO qF hK => ?_) ?_
    · have e16 : qa.tmps[16]? = some (.bool (((decide (kind < 1)) || (decide (4 < kind))) || (decide (pos < 0)))) := fis qF.1 rfl rfl
      obtain ⟨u19, e19, r16⟩ := qF.2.1
      have r16 : u19 = (bif (true && ((((decide (kind < 1)) || (decide (4 < kind))) || (decide (pos < 0))) == false)) then .bool (decide (8 ≤ pos)) else undef) := r16
      clear qO qF
      rcases (Bool.eq_false_or_eq_true ((((decide (kind < 1)) || (decide (4 < kind))) || (decide (pos < 0))))).symm with hcc | hcc
      · rw [hcc] at e16
        have e19 : qa.tmps[19]? = some (.bool ((decide (8 ≤ pos)))) := (show u19 = .bool ((decide (8 ≤ pos))) from r16.trans (by (first | rw [hcc] | skip); first | rfl | (rw [hP]; rfl))) ▸ e19
        go_simp
        exact hK _ _ (Below.refl _ _) (by show (_ : Value) = _; first | (rw [hcc]; first | rfl | (simp; done)) | (simp_all; done))
      · rw [hcc] at e16
        go_simp
        exact hK _ _ (Below.refl _ _) (by show (_ : Value) = _; first | (rw [hcc]; first | rfl | (simp; done)) | (simp_all; done))
    refine BOk.cons rfl [17] [] rfl rfl (by kernel_rfl) (by kernel_rfl) (fun qK qa wr hB qO qF hK => ?_) ?_
    · have e20 : qa.tmps[20]? = some (.bool ((((decide (kind < 1)) || (decide (4 < kind))) || (decide (pos < 0))) || (decide (8 ≤ pos)))) := fis qF.1 rfl rfl
      clear qO qF
      go_simp
      exact hK _ _ (Below.refl _ _) (by first | rfl | (show (_ : Value) = _; simp_all; done))
    refine BOk.optT rfl [] [1] rfl 18 false rfl rfl rfl rfl (by kernel_rfl) (by kernel_rfl) (by kernel_rfl) (fun hp hc hP qK qa wr hB qO qF hK => ?_) ?_
    · have e1 : qa.tmps[1]? = some (.pointer (some ⟨w.heap.size, 0, none⟩)) := qO.1.trans rfl
      clear qO qF
      go_simp
      exact hK _ _ (Below.refl _ _) rfl
    refine BOk.optT rfl [19] [] rfl 18 false rfl rfl rfl rfl (by kernel_rfl) (by kernel_rfl) (by kernel_rfl) (fun hp hc hP qK qa wr hB qO qF hK => ?_) ?_
    · have e22 : qa.tmps[22]? = some (.pointer (some ⟨w.heap.size, 3, none⟩)) := fif qF.1 rfl hP rfl
      clear qO qF
      have hx3 := (bcell hB _ _ (World.block_lt_of_cell? _ _ x3)).trans x3
      go_simp
      exact hK _ _ (Below.refl _ _) rfl
    refine BOk.optT rfl [20] [] rfl 18 false rfl rfl rfl rfl (by kernel_rfl) (by kernel_rfl) (by kernel_rfl) (fun hp hc hP qK qa wr hB qO qF hK => ?_) ?_
    · have e23 : qa.tmps[23]? = some (.int .i64 attr) := fif qF.1 rfl hP rfl
      clear qO qF
      go_simp
      refine hK _ _ (Below.refl _ _) ?_
      show (_ : Value) = _
      first | rfl | (simp; done) | (simp; omega) | (congr 1; simp; done) | (congr 1; rw [decide_eq_decide]; omega)
    refine BOk.cons rfl [18, 21] [] rfl rfl (by kernel_rfl) (by kernel_rfl) (fun qK qa wr hB qO qF hK => ?_) ?_
    · have e21 : qa.tmps[21]? = some (.bool ((((decide (kind < 1)) || (decide (4 < kind))) || (decide (pos < 0))) || (decide (8 ≤ pos)))) := fis qF.1 rfl rfl
      obtain ⟨u24, e24, r21⟩ := qF.2.1
      have r21 : u24 = (bif (true && (((((decide (kind < 1)) || (decide (4 < kind))) || (decide (pos < 0))) || (decide (8 ≤ pos))) == false)) then .bool (decide (attr < (-1))) else undef) := r21
      clear qO qF
      rcases (Bool.eq_false_or_eq_true (((((decide (kind < 1)) || (decide (4 < kind))) || (decide (pos < 0))) || (decide (8 ≤ pos))))).symm with hcc | hcc
      · rw [hcc] at e21
        have e24 : qa.tmps[24]? = some (.bool ((decide (attr < (-1))))) := (show u24 = .bool ((decide (attr < (-1)))) from r21.trans (by (first | rw [hcc] | skip); first | rfl | (rw [hP]; rfl))) ▸ e24
        go_simp
        exact hK _ _ (Below.refl _ _) (by show (_ : Value) = _; first | (rw [hcc]; first | rfl | (simp; done)) | (simp_all; done))
      · rw [hcc] at e21
        go_simp
        exact hK _ _ (Below.refl _ _) (by show (_ : Value) = _; first | (rw [hcc]; first | rfl | (simp; done)) | (simp_all; done))
    refine BOk.cons rfl [22] [] rfl rfl (by kernel_rfl) (by kernel_rfl) (fun qK qa wr hB qO qF hK => ?_) ?_
    · have e25 : qa.tmps[25]? = some (.bool (((((decide (kind < 1)) || (decide (4 < kind))) || (decide (pos < 0))) || (decide (8 ≤ pos))) || (decide (attr < (-1))))) := fis qF.1 rfl rfl
      clear qO qF
      go_simp
      exact hK _ _ (Below.refl _ _) (by first | rfl | (show (_ : Value) = _; simp_all; done))
    refine BOk.optT rfl [] [1] rfl 23 false rfl rfl rfl rfl (by kernel_rfl) (by kernel_rfl) (by kernel_rfl) (fun hp hc hP qK qa wr hB qO qF hK => ?_) ?_
    · have e1 : qa.tmps[1]? = some (.pointer (some ⟨w.heap.size, 0, none⟩)) := qO.1.trans rfl
      clear qO qF
      go_simp
      exact hK _ _ (Below.refl _ _) rfl
    refine BOk.optT rfl [24] [] rfl 23 false rfl rfl rfl rfl (by kernel_rfl) (by kernel_rfl) (by kernel_rfl) (fun hp hc hP qK qa wr hB qO qF hK => ?_) ?_
    · have e27 : qa.tmps[27]? = some (.pointer (some ⟨w.heap.size, 3, none⟩)) := fif qF.1 rfl hP rfl
      clear qO qF
      have hx3 := (bcell hB _ _ (World.block_lt_of_cell? _ _ x3)).trans x3
      go_simp
      exact hK _ _ (Below.refl _ _) rfl
    refine BOk.optT rfl [25] [] rfl 23 false rfl rfl rfl rfl (by kernel_rfl) (by kernel_rfl) (by kernel_rfl) (fun hp hc hP qK qa wr hB qO qF hK => ?_) ?_
    · have e28 : qa.tmps[28]? = some (.int .i64 attr) := fif qF.1 rfl hP rfl
      clear qO qF
      go_simp
      refine hK _ _ (Below.refl _ _) ?_
      show (_ : Value) = _
      first | rfl | (simp; done) | (simp; omega) | (congr 1; simp; done) | (congr 1; rw [decide_eq_decide]; omega)
    refine BOk.cons rfl [23, 26] [] rfl rfl (by kernel_rfl) (by kernel_rfl) (fun qK qa wr hB qO qF hK => ?_) ?_
    · have e26 : qa.tmps[26]? = some (.bool (((((decide (kind < 1)) || (decide (4 < kind))) || (decide (pos < 0))) || (decide (8 ≤ pos))) || (decide (attr < (-1))))) := fis qF.1 rfl rfl
      obtain ⟨u29, e29, r26⟩ := qF.2.1
      have r26 : u29 = (bif (true && ((((((decide (kind < 1)) || (decide (4 < kind))) || (decide (pos < 0))) || (decide (8 ≤ pos))) || (decide (attr < (-1)))) == false)) then .bool (decide (8 ≤ attr)) else undef) := r26
      clear qO qF
      rcases (Bool.eq_false_or_eq_true ((((((decide (kind < 1)) || (decide (4 < kind))) || (decide (pos < 0))) || (decide (8 ≤ pos))) || (decide (attr < (-1)))))).symm with hcc | hcc
      · rw [hcc] at e26
        have e29 : qa.tmps[29]? = some (.bool ((decide (8 ≤ attr)))) := (show u29 = .bool ((decide (8 ≤ attr))) from r26.trans (by (first | rw [hcc] | skip); first | rfl | (rw [hP]; rfl))) ▸ e29
        go_simp
        exact hK _ _ (Below.refl _ _) (by show (_ : Value) = _; first | (rw [hcc]; first | rfl | (simp; done)) | (simp_all; done))
      · rw [hcc] at e26
        go_simp
        exact hK _ _ (Below.refl _ _) (by show (_ : Value) = _; first | (rw [hcc]; first | rfl | (simp; done)) | (simp_all; done))
    exact BOk.nil
  intro vals wr hl hB hR
  match vals, hl with
  | [z3, z4, z5, z6, z7, z8, z9, z10, z11, z12, z13, z14, z15, z16, z17, z18, z19, z20, z21, z22, z23, z24, z25, z26, z27, z28, z29, z30], _ =>
  have r27 : z30 = .bool ((((((decide (kind < 1)) || (decide (4 < kind))) || (decide (pos < 0))) || (decide (8 ≤ pos))) || (decide (attr < (-1)))) || (decide (8 ≤ attr))) := hR 27 _ rfl
  subst r27
  clear hR
  simp only [List.cons_append, List.nil_append, putAll, Act.put, List.setIfInBounds_toArray, List.set_cons_zero, List.set_cons_succ]
  rw [hbad]
  have KX := Lib.hid (KX.out.old hB)
  have HB := Lib.hid (HB.out.trans (hB.mono HB.out.size))
  clear x0 x1 x2 x3 hB
  have x0 : wr.cell? ⟨w.heap.size, 0, none⟩ = some (.int .i64 op) := KX.out.cell 0
  have x1 : wr.cell? ⟨w.heap.size, 1, none⟩ = some (.int .i64 kind) := KX.out.cell 1
  have x2 : wr.cell? ⟨w.heap.size, 2, none⟩ = some (.int .i64 pos) := KX.out.cell 2
  have x3 : wr.cell? ⟨w.heap.size, 3, none⟩ = some (.int .i64 attr) := KX.out.cell 3
  have g41 : (op == 41) = false := by rw [beq_eq_false_iff_ne]; exact h41
  have g25 : (op == 25) = false := by rw [beq_eq_false_iff_ne]; exact h25
  clear h41 h25
  go_upto_region 7 with fail
  refine wp_region_s (fun qk => (inR7 op kind pos attr w).getD qk .any) (by kernel_rfl) ?_ ?_
  · refine BOk.cons rfl [] [1] rfl rfl (by kernel_rfl) (by kernel_rfl) (fun qK qa wr hB qO qF hK => ?_) ?_
    · have e1 : qa.tmps[1]? = some (.pointer (some ⟨w.heap.size, 0, none⟩)) := qO.1.trans rfl
      clear qO qF
      go_simp
      exact hK _ _ (Below.refl _ _) rfl
    refine BOk.cons rfl [0] [] rfl rfl (by kernel_rfl) (by kernel_rfl) (fun qK qa wr hB qO qF hK => ?_) ?_
    · have e45 : qa.tmps[45]? = some (.pointer (some ⟨w.heap.size, 0, none⟩)) := fis qF.1 rfl rfl
      clear qO qF
      have hx0 := (bcell hB _ _ (World.block_lt_of_cell? _ _ x0)).trans x0
      go_simp
      exact hK _ _ (Below.refl _ _) rfl
    refine BOk.cons rfl [1] [] rfl rfl (by kernel_rfl) (by kernel_rfl) (fun qK qa wr hB qO qF hK => ?_) ?_
    · have e46 : qa.tmps[46]? = some (.int .i64 op) := fis qF.1 rfl rfl
      clear qO qF
      go_simp
      refine hK _ _ (Below.refl _ _) ?_
      show (_ : Value) = _
      first | rfl | (simp; done) | (simp; omega) | (congr 1; simp; done) | (congr 1; rw [decide_eq_decide]; omega)
    refine BOk.cons rfl [2] [] rfl rfl (by kernel_rfl) (by kernel_rfl) (fun qK qa wr hB qO qF hK => ?_) ?_
    · have e47 : qa.tmps[47]? = some (.bool ((op == 42))) := fis qF.1 rfl rfl
      clear qO qF
      go_simp
      exact hK _ _ (Below.refl _ _) (by first | rfl | (show (_ : Value) = _; simp_all; done))
    refine BOk.optT rfl [] [1] rfl 3 false rfl rfl rfl rfl (by kernel_rfl) (by kernel_rfl) (by kernel_rfl) (fun hp hc hP qK qa wr hB qO qF hK => ?_) ?_
    · have e1 : qa.tmps[1]? = some (.pointer (some ⟨w.heap.size, 0, none⟩)) := qO.1.trans rfl
      clear qO qF
      go_simp
      exact hK _ _ (Below.refl _ _) rfl
    refine BOk.optT rfl [4] [] rfl 3 false rfl rfl rfl rfl (by kernel_rfl) (by kernel_rfl) (by kernel_rfl) (fun hp hc hP qK qa wr hB qO qF hK => ?_) ?_
    · have e49 : qa.tmps[49]? = some (.pointer (some ⟨w.heap.size, 0, none⟩)) := fif qF.1 rfl hP rfl
      clear qO qF
      have hx0 := (bcell hB _ _ (World.block_lt_of_cell? _ _ x0)).trans x0
      go_simp
      exact hK _ _ (Below.refl _ _) rfl
    refine BOk.optT rfl [5] [] rfl 3 false rfl rfl rfl rfl (by kernel_rfl) (by kernel_rfl) (by kernel_rfl) (fun hp hc hP qK qa wr hB qO qF hK => ?_) ?_
    · have e50 : qa.tmps[50]? = some (.int .i64 op) := fif qF.1 rfl hP rfl
      clear qO qF
      go_simp
      refine hK _ _ (Below.refl _ _) ?_
      show (_ : Value) = _
      first | rfl | (simp; done) | (simp; omega) | (congr 1; simp; done) | (congr 1; rw [decide_eq_decide]; omega)
    refine BOk.optT rfl [6] [] rfl 3 false rfl rfl rfl rfl (by kernel_rfl) (by kernel_rfl) (by kernel_rfl) (fun hp hc hP qK qa wr hB qO qF hK => ?_) ?_
    · have e51 : qa.tmps[51]? = some (.bool (decide (26 ≤ op))) := fif qF.1 rfl hP rfl
      clear qO qF
      go_simp
      exact hK _ _ (Below.refl _ _) (by first | rfl | (show (_ : Value) = _; simp_all; done))
    refine BOk.optX rfl [] [1] rfl 7 true rfl rfl rfl rfl (by kernel_rfl) (by kernel_rfl) (by kernel_rfl) (fun hp hc hP qK qa wr hB qO qF hK => ?_) ?_
    · have e1 : qa.tmps[1]? = some (.pointer (some ⟨w.heap.size, 0, none⟩)) := qO.1.trans rfl
      clear qO qF
      go_simp
      exact hK _ _ (Below.refl _ _) rfl
    refine BOk.optX rfl [8] [] rfl 7 true rfl rfl rfl rfl (by kernel_rfl) (by kernel_rfl) (by kernel_rfl) (fun hp hc hP qK qa wr hB qO qF hK => ?_) ?_
    · have e53 : qa.tmps[53]? = some (.pointer (some ⟨w.heap.size, 0, none⟩)) := fif qF.1 rfl hP rfl
      clear qO qF
      have hx0 := (bcell hB _ _ (World.block_lt_of_cell? _ _ x0)).trans x0
      go_simp
      exact hK _ _ (Below.refl _ _) rfl
    refine BOk.optX rfl [9] [] rfl 7 true rfl rfl rfl rfl (by kernel_rfl) (by kernel_rfl) (by kernel_rfl) (fun hp hc hP qK qa wr hB qO qF hK => ?_) ?_
    · have e54 : qa.tmps[54]? = some (.int .i64 op) := fif qF.1 rfl hP rfl
      clear qO qF
      go_simp
      refine hK _ _ (Below.refl _ _) ?_
      show (_ : Value) = _
      first | rfl | (simp; done) | (simp; omega) | (congr 1; simp; done) | (congr 1; rw [decide_eq_decide]; omega)
    refine BOk.optT rfl [7, 10] [] rfl 3 false rfl rfl rfl rfl (by kernel_rfl) (by kernel_rfl) (by kernel_rfl) (fun hp hc hP qK qa wr hB qO qF hK => ?_) ?_
    · have e52 : qa.tmps[52]? = some (.bool (decide (26 ≤ op))) := fif qF.1 rfl hP rfl
      obtain ⟨u55, e55, r10⟩ := qF.2.1
      have r10 : u55 = (bif ((true && (((op == 42)) == false)) && ((decide (26 ≤ op)) == true)) then .bool (decide (op ≤ 31)) else undef) := r10
      clear qO qF
      rcases (Bool.eq_false_or_eq_true ((decide (26 ≤ op)))).symm with hcc | hcc
      · rw [hcc] at e52
        go_simp
        exact hK _ _ (Below.refl _ _) (by show (_ : Value) = _; first | (rw [hcc]; first | rfl | (simp; done)) | (simp_all; done))
      · rw [hcc] at e52
        have e55 : qa.tmps[55]? = some (.bool ((decide (op ≤ 31)))) := (show u55 = .bool ((decide (op ≤ 31))) from r10.trans (by (first | rw [hcc] | skip); first | rfl | (rw [hP]; rfl))) ▸ e55
        go_simp
        exact hK _ _ (Below.refl _ _) (by show (_ : Value) = _; first | (rw [hcc]; first | rfl | (simp; done)) | (simp_all; done))
    refine BOk.cons rfl [3, 11] [] rfl rfl (by kernel_rfl) (by kernel_rfl) (fun qK qa wr hB qO qF hK => ?_) ?_
    · have e48 : qa.tmps[48]? = some (.bool ((op == 42))) := fis qF.1 rfl rfl
      obtain ⟨u56, e56, r11⟩ := qF.2.1
      have r11 : u56 = (bif (true && (((op == 42)) == false)) then .bool ((decide (26 ≤ op)) && (decide (op ≤ 31))) else undef) := r11
      clear qO qF
      rcases (Bool.eq_false_or_eq_true (((op == 42)))).symm with hcc | hcc
      · rw [hcc] at e48
        have e56 : qa.tmps[56]? = some (.bool (((decide (26 ≤ op)) && (decide (op ≤ 31))))) := (show u56 = .bool (((decide (26 ≤ op)) && (decide (op ≤ 31)))) from r11.trans (by (first | rw [hcc] | skip); first | rfl | (rw [hP]; rfl))) ▸ e56
        go_simp
        exact hK _ _ (Below.refl _ _) (by show (_ : Value) = _; first | (rw [hcc]; first | rfl | (simp; done)) | (simp_all; done))
      · rw [hcc] at e48
        go_simp
        exact hK _ _ (Below.refl _ _) (by show (_ : Value) = _; first | (rw [hcc]; first | rfl | (simp; done)) | (simp_all; done))
    refine BOk.cons rfl [12] [] rfl rfl (by kernel_rfl) (by kernel_rfl) (fun qK qa wr hB qO qF hK => ?_) ?_
    · have e57 : qa.tmps[57]? = some (.bool (((op == 42)) || ((decide (26 ≤ op)) && (decide (op ≤ 31))))) := fis qF.1 rfl rfl
      clear qO qF
      go_simp
      exact hK _ _ (Below.refl _ _) (by first | rfl | (show (_ : Value) = _; simp_all; done))
    exact BOk.nil
  intro vals wr hl hB hR
  match vals, hl with
  | [y45, y46, y47, y48, y49, y50, y51, y52, y53, y54, y55, y56, y57, y2], _ =>
  have r13 : y2 = .bool (((op == 42)) || ((decide (26 ≤ op)) && (decide (op ≤ 31)))) := hR 13 _ rfl
  subst r13
  clear hR
  simp only [List.cons_append, List.nil_append, putAll, Act.put, List.setIfInBounds_toArray, List.set_cons_zero, List.set_cons_succ]
  go_wp2_with fail
  go_ret
  exact ⟨rfl, HB.out.trans (hB.mono HB.out.size)⟩

theorem pin_any (x : InputV) (w : World) : Calls Try.prog 26 #[.agg #[.int .i64 x.op, .int .i64 x.kind, .int .i64 x.pos, .int .i64 x.attr]] w fun e w' => e = .returned (.bool (inB x)) ∧ Below w.heap.size w w' := by
  obtain ⟨op, kind, pos, attr⟩ := x
  unfold inB
  cases hbad : badI op kind pos attr
  · by_cases h41 : op = 41
    · subst h41; simpa using pin_cur kind pos attr hbad w
    · by_cases h25 : op = 25
      · subst h25; simpa using pin_cnt kind pos attr hbad w
      · simp only [h41, h25, if_false, Bool.not_false, Bool.true_and]
        exact pin_etc op kind pos attr hbad h41 h25 w
  · simpa using pin_bad op kind pos attr hbad w
end Go.Proofs.Ytadblgfppnpamaa
