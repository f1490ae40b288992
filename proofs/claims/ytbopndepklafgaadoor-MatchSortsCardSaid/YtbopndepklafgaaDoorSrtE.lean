/- Layer 10: rows of matches that are alike, by the document. No conditions. -/
import Derived.Test.YtbopndepklafgaaDoorMatR
import Derived.Test.YtbopndepklafgaaDoorMatW
namespace Go.Proofs.YtbopndepklafgaaDoor
open Go.RowKit
set_option maxRecDepth 10000
set_option linter.unusedVariables false
set_option linter.unusedSimpArgs false

def seR6 (x y : MatV) (ab ao bb bo k k0 c0 c1 : Nat) : List Spec := [.is (.slice (some ⟨ab, ao, none⟩) (k0) c0),
  .is (.int .i64 (k : Nat)),
  .is (.pointer (some ⟨ab, ao + k * 3, none⟩)),
  .is (.agg #[.int .i64 x.step, .int .i64 x.branch, .slice x.A x.rows.length x.c]),
  .is (.slice (some ⟨bb, bo, none⟩) (k0) c1),
  .is (.int .i64 (k : Nat)),
  .is (.pointer (some ⟨bb, bo + k * 3, none⟩)),
  .is (.agg #[.int .i64 y.step, .int .i64 y.branch, .slice y.A y.rows.length y.c]),
  .is (.int .i64 0),
  .is (.bool false)]
set_option maxRecDepth 100000 in
set_option maxHeartbeats 4000000 in
theorem rsame_any (ms ms' : List MatV) (A0 A1 : Option Addr) (c0 c1 : Nat) (w : World) (hrd : Rd w w.heap.size A0 (ms.flatMap MatV.cells)) (hrd' : Rd w w.heap.size A1 (ms'.flatMap MatV.cells))
    (hok : ∀ m ∈ ms, m.ok w w.heap.size) (hok' : ∀ m ∈ ms', m.ok w w.heap.size) (hkey : ms.map (·.key) = ms'.map (·.key)) (n0 n1 : Nat) (hn0 : n0 = ms.length) (hn1 : n1 = ms'.length) (hlen : ms.length ≤ 3518437208880) :
    Calls Tryd.prog 7 #[.slice A0 n0 c0, .slice A1 n1 c1] w fun r w' => r = .returned (.bool true) ∧ Below w.heap.size w w' := by
  have hll : ms'.length = ms.length := by have := congrArg List.length hkey; simpa using this.symm
  subst hn0; subst hn1
  rw [hll]
  have HRD := Lib.hid hrd
  have HRD' := Lib.hid hrd'
  have HOK := Lib.hid hok
  have HOK' := Lib.hid hok'
  have HKEY := Lib.hid hkey
  have HLL := Lib.hid hll
  clear hrd hrd' hok hok' hkey hll
  go_enter Tryd.func7, Tryd.ntmps7
  go_wp2
  go_loopw [13] (fun i wr => ∃ (k : Nat), k ≤ ms.length ∧ i = .int .i64 k ∧ Below w.heap.size w wr) (fun i _ => ms.length - (intOf i).toNat)
  case atStart => exact ⟨0, Nat.zero_le _, rfl, Below.refl _ _⟩
  case round =>
    obtain ⟨k, hk, rfl, hbel⟩ := hrel
    obtain ⟨wo, rfl⟩ : ∃ wo : World, wo = wr := ⟨_, rfl⟩
    by_cases hlt : k < ms.length
    · as_aux_lemma =>
      obtain ⟨ab, ao, hA, hab, hac⟩ := (HRD.out.below hbel).elem (n := 3) mat_len (by omega) hlt
      have hlt' : k < ms'.length := by have := HLL.out; omega
      obtain ⟨bb, bo, hA', hbb, hbc⟩ := (HRD'.out.below hbel).elem (n := 3) mat_len (by omega) hlt'
      have r0 : wo.cell? ⟨ab, ao + k * 3, none⟩ = some (.int .i64 ms[k].step) := hac 0 _ rfl
      have r1 : wo.cell? ⟨ab, ao + k * 3 + 1, none⟩ = some (.int .i64 ms[k].branch) := hac 1 _ rfl
      have r2 : wo.cell? ⟨ab, ao + k * 3 + 2, none⟩ = some (.slice ms[k].A ms[k].rows.length ms[k].c) := hac 2 _ rfl
      have q0 : wo.cell? ⟨bb, bo + k * 3, none⟩ = some (.int .i64 ms'[k].step) := hbc 0 _ rfl
      have q1 : wo.cell? ⟨bb, bo + k * 3 + 1, none⟩ = some (.int .i64 ms'[k].branch) := hbc 1 _ rfl
      have q2 : wo.cell? ⟨bb, bo + k * 3 + 2, none⟩ = some (.slice ms'[k].A ms'[k].rows.length ms'[k].c) := hbc 2 _ rfl
      have HX := Lib.hid ((HOK.out ms[k] (List.getElem_mem _)).keep hbel hbel.size)
      have HY := Lib.hid ((HOK'.out ms'[k] (List.getElem_mem _)).keep hbel hbel.size)
      have hkk : ms[k].key = ms'[k].key := by
        have := congrArg (fun l => l[k]?) HKEY.out
        simpa [hlt, hlt'] using this
      clear hac hbc
      generalize ms[k] = x at *
      generalize ms'[k] = y at *
      have HORD : Hid (∀ W : World, x.ok W W.heap.size → y.ok W W.heap.size → Calls Tryd.prog 16 #[.agg #[.int .i64 x.step, .int .i64 x.branch, .slice x.A x.rows.length x.c], .agg #[.int .i64 y.step, .int .i64 y.branch, .slice y.A y.rows.length y.c]] W fun r w' => r = .returned (.int .i64 0) ∧ Below W.heap.size W w') := Lib.hid fun W h1 h2 => by
        have h := rord_any x y W h1 h2
        rw [ord_self x y hkk] at h
        exact h
      clear hkk
      rw [hA, hA']
      clear hA hA' hlt'
      go_upto_region 6 with fail
      refine wp_region_b (by kernel_rfl) (fun qk => (seR6 x y ab ao bb bo k ms.length c0 c1).getD qk .any) (by kernel_rfl) ?_ ?_
      · refine BOk.cons rfl [] [0] rfl rfl (by kernel_rfl) (by kernel_rfl) (fun qK qa wr hB qO qF hK => ?_) ?_
        · have e0 : qa.tmps[0]? = some (.slice (some ⟨ab, ao, none⟩) ms.length c0) := qO.1.trans rfl
          clear qO qF
          go_simp
          exact hK _ _ (Below.refl _ _) rfl
        refine BOk.cons rfl [] [5] rfl rfl (by kernel_rfl) (by kernel_rfl) (fun qK qa wr hB qO qF hK => ?_) ?_
        · have e5 : qa.tmps[5]? = some (.int .i64 (k : Nat)) := qO.1.trans rfl
          clear qO qF
          go_simp
          exact hK _ _ (Below.refl _ _) rfl
        refine BOk.cons rfl [0, 1] [] rfl rfl (by kernel_rfl) (by kernel_rfl) (fun qK qa wr hB qO qF hK => ?_) ?_
        · have e16 : qa.tmps[16]? = some (.slice (some ⟨ab, ao, none⟩) ms.length c0) := fis qF.1 rfl rfl
          have e17 : qa.tmps[17]? = some (.int .i64 (k : Nat)) := fis qF.2.1 rfl rfl
          clear qO qF
          go_simp
          exact hK _ _ (Below.refl _ _) rfl
        refine BOk.cons rfl [2] [] rfl rfl (by kernel_rfl) (by kernel_rfl) (fun qK qa wr hB qO qF hK => ?_) ?_
        · have e18 : qa.tmps[18]? = some (.pointer (some ⟨ab, ao + k * 3, none⟩)) := fis qF.1 rfl rfl
          clear qO qF
          have hr0 := (bcell hB _ _ (World.block_lt_of_cell? _ _ r0)).trans r0
          have hr1 := (bcell hB _ _ (World.block_lt_of_cell? _ _ r1)).trans r1
          have hr2 := (bcell hB _ _ (World.block_lt_of_cell? _ _ r2)).trans r2
          go_simp
          exact hK _ _ (Below.refl _ _) rfl
        refine BOk.cons rfl [] [1] rfl rfl (by kernel_rfl) (by kernel_rfl) (fun qK qa wr hB qO qF hK => ?_) ?_
        · have e1 : qa.tmps[1]? = some (.slice (some ⟨bb, bo, none⟩) ms.length c1) := qO.1.trans rfl
          clear qO qF
          go_simp
          exact hK _ _ (Below.refl _ _) rfl
        refine BOk.cons rfl [] [5] rfl rfl (by kernel_rfl) (by kernel_rfl) (fun qK qa wr hB qO qF hK => ?_) ?_
        · have e5 : qa.tmps[5]? = some (.int .i64 (k : Nat)) := qO.1.trans rfl
          clear qO qF
          go_simp
          exact hK _ _ (Below.refl _ _) rfl
        refine BOk.cons rfl [4, 5] [] rfl rfl (by kernel_rfl) (by kernel_rfl) (fun qK qa wr hB qO qF hK => ?_) ?_
        · have e20 : qa.tmps[20]? = some (.slice (some ⟨bb, bo, none⟩) ms.length c1) := fis qF.1 rfl rfl
          have e21 : qa.tmps[21]? = some (.int .i64 (k : Nat)) := fis qF.2.1 rfl rfl
          clear qO qF
          go_simp
          exact hK _ _ (Below.refl _ _) rfl
        refine BOk.cons rfl [6] [] rfl rfl (by kernel_rfl) (by kernel_rfl) (fun qK qa wr hB qO qF hK => ?_) ?_
        · have e22 : qa.tmps[22]? = some (.pointer (some ⟨bb, bo + k * 3, none⟩)) := fis qF.1 rfl rfl
          clear qO qF
          have hq0 := (bcell hB _ _ (World.block_lt_of_cell? _ _ q0)).trans q0
          have hq1 := (bcell hB _ _ (World.block_lt_of_cell? _ _ q1)).trans q1
          have hq2 := (bcell hB _ _ (World.block_lt_of_cell? _ _ q2)).trans q2
          go_simp
          exact hK _ _ (Below.refl _ _) rfl
        refine BOk.cons rfl [3, 7] [] rfl rfl (by kernel_rfl) (by kernel_rfl) (fun qK qa wr hB qO qF hK => ?_) ?_
        · have e19 : qa.tmps[19]? = some (.agg #[.int .i64 x.step, .int .i64 x.branch, .slice x.A x.rows.length x.c]) := fis qF.1 rfl rfl
          have e23 : qa.tmps[23]? = some (.agg #[.int .i64 y.step, .int .i64 y.branch, .slice y.A y.rows.length y.c]) := fis qF.2.1 rfl rfl
          clear qO qF
          go_simp
          go_at_call 16
          refine (HORD.out _ (HX.out.old hB) (HY.out.old hB)).mono ?_
          rintro e9 w9 ⟨rfl, hb9⟩
          exact hK _ _ hb9 rfl
        refine BOk.cons rfl [8] [] rfl rfl (by kernel_rfl) (by kernel_rfl) (fun qK qa wr hB qO qF hK => ?_) ?_
        · have e24 : qa.tmps[24]? = some (.int .i64 0) := fis qF.1 rfl rfl
          clear qO qF
          go_simp
          refine hK _ _ (Below.refl _ _) ?_
          show (_ : Value) = _
          first | rfl | (simp; done) | (simp; omega)
        exact BOk.nil
      intro vals wr hl hB hR
      match vals, hl with
      | [u16, u17, u18, u19, u20, u21, u22, u23, u24, u25], _ =>
      have r9 : u25 = .bool false := hR 9 _ rfl
      subst r9
      clear hR
      simp only [List.cons_append, List.nil_append, putAll, Act.put, List.setIfInBounds_toArray, List.set_cons_zero, List.set_cons_succ]
      have hb2 := hbel.trans (hB.mono hbel.size)
      clear hB r0 r1 r2 q0 q1 q2 HX HY HORD hbel
      go_wp2
      go_roundw
      case rel => exact ⟨k + 1, by omega, by go_num, hb2⟩
      case measure => simp [intOf]; omega
    · obtain rfl : k = ms.length := by omega
      go_wp2
      go_ret
      exact ⟨rfl, hbel⟩
end Go.Proofs.YtbopndepklafgaaDoor
