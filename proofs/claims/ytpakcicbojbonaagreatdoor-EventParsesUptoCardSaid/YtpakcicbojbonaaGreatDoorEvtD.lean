/- Layer 4: which events fit kinds, by the program. No conditions. -/
import Derived.Test.YtpakcicbojbonaaGreatDoorEvtC
import Derived.Deep.DeepCutAuto
namespace Go.Proofs.YtpakcicbojbonaaGreatDoor
open Go.RowKit
set_option linter.unusedVariables false
set_option linter.unusedSimpArgs false

theorem neq_V (a b c d : Int) (w : World) : (binOp .neq 57 (.agg #[.int .i64 a, .int .u64 b]) (.agg #[.int .i64 c, .int .u64 d])).run Tryz.prog w = .ok (.bool (!(a == c && b == d))) w := by
  have h1 : Tryz.prog.stoodInHeld 57 = false := by kernel_rfl
  by_cases h : a = c <;> by_cases h2 : b = d <;> simp [go_sem, h, h2, h1]
def fitR1 (rows : List RowV) (KA : Option Addr) (kc : Nat) (n : Int) : List Spec := [.is (.slice KA rows.length kc),
  .is (.int .i64 (rows.length : Nat)),
  .is (.bool (decide (16 < (rows.length : Nat)))),
  .is (.bool (decide (16 < (rows.length : Nat)))),
  .is (bif (true && ((decide (16 < (rows.length : Nat))) == false)) then .int .i64 n else undef),
  .is (bif (true && ((decide (16 < (rows.length : Nat))) == false)) then .bool (decide (n < 0)) else undef),
  .is (.bool ((decide (16 < (rows.length : Nat))) || (decide (n < 0)))),
  .is (.bool ((decide (16 < (rows.length : Nat))) || (decide (n < 0)))),
  .is (bif (true && (((decide (16 < (rows.length : Nat))) || (decide (n < 0))) == false)) then .int .i64 n else undef),
  .is (bif (true && (((decide (16 < (rows.length : Nat))) || (decide (n < 0))) == false)) then .bool (decide (64 < n)) else undef),
  .is (.bool (((decide (16 < (rows.length : Nat))) || (decide (n < 0))) || (decide (64 < n))))]
def fitR15a (rows : List RowV) (KA : Option Addr) (kc : Nat) (ety etm : Int) (eA : Option Addr) (ec : Nat) (eat : List V) (w : World) : List Spec := [.is (.pointer (some ⟨w.heap.size, 0, none⟩)),
  .is (.int .i64 ety),
  .is (.bool (decide (ety < 0))),
  .is (.bool (decide (ety < 0))),
  .is (bif (true && ((decide (ety < 0)) == false)) then .pointer (some ⟨w.heap.size, 0, none⟩) else undef),
  .is (bif (true && ((decide (ety < 0)) == false)) then .int .i64 ety else undef),
  .is (bif (true && ((decide (ety < 0)) == false)) then .slice KA rows.length kc else undef),
  .is (bif (true && ((decide (ety < 0)) == false)) then .int .i64 (rows.length : Nat) else undef),
  .is (bif (true && ((decide (ety < 0)) == false)) then .bool (decide ((rows.length : Nat) ≤ ety)) else undef),
  .is (.bool ((decide (ety < 0)) || (decide ((rows.length : Nat) ≤ ety)))),
  .is (.bool ((decide (ety < 0)) || (decide ((rows.length : Nat) ≤ ety)))),
  .is (bif (true && (((decide (ety < 0)) || (decide ((rows.length : Nat) ≤ ety))) == false)) then .pointer (some ⟨w.heap.size, 1, none⟩) else undef),
  .is (bif (true && (((decide (ety < 0)) || (decide ((rows.length : Nat) ≤ ety))) == false)) then .int .i64 etm else undef),
  .is (bif (true && (((decide (ety < 0)) || (decide ((rows.length : Nat) ≤ ety))) == false)) then .bool (decide (etm < 0)) else undef),
  .is (.bool (((decide (ety < 0)) || (decide ((rows.length : Nat) ≤ ety))) || (decide (etm < 0)))),
  .is (.bool (((decide (ety < 0)) || (decide ((rows.length : Nat) ≤ ety))) || (decide (etm < 0)))),
  .is (bif (true && ((((decide (ety < 0)) || (decide ((rows.length : Nat) ≤ ety))) || (decide (etm < 0))) == false)) then .pointer (some ⟨w.heap.size, 1, none⟩) else undef),
  .is (bif (true && ((((decide (ety < 0)) || (decide ((rows.length : Nat) ≤ ety))) || (decide (etm < 0))) == false)) then .int .i64 etm else undef),
  .is (bif (true && ((((decide (ety < 0)) || (decide ((rows.length : Nat) ≤ ety))) || (decide (etm < 0))) == false)) then .bool (decide (1152921504606846976 < etm)) else undef),
  .is (.bool ((((decide (ety < 0)) || (decide ((rows.length : Nat) ≤ ety))) || (decide (etm < 0))) || (decide (1152921504606846976 < etm)))),
  .is (.bool true),
  .is (undef),
  .is (undef),
  .is (undef),
  .is (undef),
  .is (undef),
  .is (undef),
  .is (undef),
  .is (undef),
  .is (undef),
  .is (undef),
  .is (.bool true)]
def fitR15b (rows : List RowV) (kb ko kc tn : Nat) (etm : Int) (eA : Option Addr) (ec : Nat) (eat : List V) (rA : Option Addr) (rc : Nat) (rl : List Int) (w : World) : List Spec := [.is (.pointer (some ⟨w.heap.size, 0, none⟩)),
  .is (.int .i64 (tn : Nat)),
  .is (.bool (decide ((tn : Nat) < 0))),
  .is (.bool (decide ((tn : Nat) < 0))),
  .is (bif (true && ((decide ((tn : Nat) < 0)) == false)) then .pointer (some ⟨w.heap.size, 0, none⟩) else undef),
  .is (bif (true && ((decide ((tn : Nat) < 0)) == false)) then .int .i64 (tn : Nat) else undef),
  .is (bif (true && ((decide ((tn : Nat) < 0)) == false)) then .slice (some ⟨kb, ko, none⟩) rows.length kc else undef),
  .is (bif (true && ((decide ((tn : Nat) < 0)) == false)) then .int .i64 (rows.length : Nat) else undef),
  .is (bif (true && ((decide ((tn : Nat) < 0)) == false)) then .bool (decide ((rows.length : Nat) ≤ (tn : Nat))) else undef),
  .is (.bool ((decide ((tn : Nat) < 0)) || (decide ((rows.length : Nat) ≤ (tn : Nat))))),
  .is (.bool ((decide ((tn : Nat) < 0)) || (decide ((rows.length : Nat) ≤ (tn : Nat))))),
  .is (bif (true && (((decide ((tn : Nat) < 0)) || (decide ((rows.length : Nat) ≤ (tn : Nat)))) == false)) then .pointer (some ⟨w.heap.size, 1, none⟩) else undef),
  .is (bif (true && (((decide ((tn : Nat) < 0)) || (decide ((rows.length : Nat) ≤ (tn : Nat)))) == false)) then .int .i64 etm else undef),
  .is (bif (true && (((decide ((tn : Nat) < 0)) || (decide ((rows.length : Nat) ≤ (tn : Nat)))) == false)) then .bool (decide (etm < 0)) else undef),
  .is (.bool (((decide ((tn : Nat) < 0)) || (decide ((rows.length : Nat) ≤ (tn : Nat)))) || (decide (etm < 0)))),
  .is (.bool (((decide ((tn : Nat) < 0)) || (decide ((rows.length : Nat) ≤ (tn : Nat)))) || (decide (etm < 0)))),
  .is (bif (true && ((((decide ((tn : Nat) < 0)) || (decide ((rows.length : Nat) ≤ (tn : Nat)))) || (decide (etm < 0))) == false)) then .pointer (some ⟨w.heap.size, 1, none⟩) else undef),
  .is (bif (true && ((((decide ((tn : Nat) < 0)) || (decide ((rows.length : Nat) ≤ (tn : Nat)))) || (decide (etm < 0))) == false)) then .int .i64 etm else undef),
  .is (bif (true && ((((decide ((tn : Nat) < 0)) || (decide ((rows.length : Nat) ≤ (tn : Nat)))) || (decide (etm < 0))) == false)) then .bool (decide (1152921504606846976 < etm)) else undef),
  .is (.bool ((((decide ((tn : Nat) < 0)) || (decide ((rows.length : Nat) ≤ (tn : Nat)))) || (decide (etm < 0))) || (decide (1152921504606846976 < etm)))),
  .is (.bool false),
  .is (.pointer (some ⟨w.heap.size, 2, none⟩)),
  .is (.slice eA eat.length ec),
  .is (.int .i64 (eat.length : Nat)),
  .is (.slice (some ⟨kb, ko, none⟩) rows.length kc),
  .is (.pointer (some ⟨w.heap.size, 0, none⟩)),
  .is (.int .i64 (tn : Nat)),
  .is (.pointer (some ⟨kb, ko + tn, none⟩)),
  .is (.slice rA rl.length rc),
  .is (.int .i64 (rl.length : Nat)),
  .is (.bool (((eat.length : Nat) != (rl.length : Nat)))),
  .is (.bool (((eat.length : Nat) != (rl.length : Nat))))]
def fitR20 (rows : List RowV) (kb ko kc tn sn rb ro rc : Nat) (rl : List Int) (k : Nat) (kk : Int) (x : V) (w wl : World) : List Spec := [.is (.pointer (some ⟨wl.heap.size, 0, none⟩)),
  .is (.int .i64 x.k),
  .is (.slice (some ⟨kb, ko, none⟩) rows.length kc),
  .is (.pointer (some ⟨w.heap.size, 0, none⟩)),
  .is (.int .i64 (tn : Nat)),
  .is (.pointer (some ⟨kb, ko + tn, none⟩)),
  .is (.slice (some ⟨rb, ro, none⟩) rl.length rc),
  .is (.int .i64 (k : Nat)),
  .is (.pointer (some ⟨rb, ro + k, none⟩)),
  .is (.int .i64 kk),
  .is (.bool ((x.k != kk))),
  .is (.bool ((x.k != kk))),
  .is (bif (true && (((x.k != kk)) == false)) then .agg #[.int .i64 x.k, .int .u64 x.b] else undef),
  .is (bif (true && (((x.k != kk)) == false)) then .agg #[.int .i64 (clean x).k, .int .u64 (clean x).b] else undef),
  .is (bif (true && (((x.k != kk)) == false)) then .agg #[.int .i64 x.k, .int .u64 x.b] else undef),
  .is (bif (true && (((x.k != kk)) == false)) then .bool (!cleanB x) else undef),
  .is (.bool (((x.k != kk)) || (!cleanB x))),
  .is (.bool (((x.k != kk)) || (!cleanB x))),
  .is (bif (true && ((((x.k != kk)) || (!cleanB x)) == false)) then .pointer (some ⟨wl.heap.size, 0, none⟩) else undef),
  .is (bif (true && ((((x.k != kk)) || (!cleanB x)) == false)) then .int .i64 x.k else undef),
  .is (bif (true && ((((x.k != kk)) || (!cleanB x)) == false)) then .bool ((x.k == 3)) else undef),
  .is (bif (true && ((((x.k != kk)) || (!cleanB x)) == false)) then .bool ((x.k == 3)) else undef),
  .is (bif ((true && ((((x.k != kk)) || (!cleanB x)) == false)) && (((x.k == 3)) == true)) then .pointer (some ⟨wl.heap.size, 1, none⟩) else undef),
  .is (bif ((true && ((((x.k != kk)) || (!cleanB x)) == false)) && (((x.k == 3)) == true)) then .int .u64 x.b else undef),
  .is (bif ((true && ((((x.k != kk)) || (!cleanB x)) == false)) && (((x.k == 3)) == true)) then .int .i64 (sn : Nat) else undef),
  .is (bif ((true && ((((x.k != kk)) || (!cleanB x)) == false)) && (((x.k == 3)) == true)) then .int .u64 (sn : Nat) else undef),
  .is (bif ((true && ((((x.k != kk)) || (!cleanB x)) == false)) && (((x.k == 3)) == true)) then .bool (decide ((sn : Nat) ≤ x.b)) else undef),
  .is (bif (true && ((((x.k != kk)) || (!cleanB x)) == false)) then .bool (((x.k == 3)) && (decide ((sn : Nat) ≤ x.b))) else undef),
  .is (.bool ((((x.k != kk)) || (!cleanB x)) || (((x.k == 3)) && (decide ((sn : Nat) ≤ x.b)))))]
theorem badCount (K : List (List Int)) (n : Int) (e : Int × Int × List V) (h : ((decide (16 < K.length) || decide (n < 0)) || decide (64 < n)) = true) : fitsB K n e = false := by
  unfold fitsB kindsOk
  simp only [Bool.or_eq_true, decide_eq_true_eq] at h
  rcases h with (h | h) | h
  · have : decide (K.length ≤ 16) = false := decide_eq_false (by omega)
    rw [this]; rfl
  · have : decide (0 ≤ n ∧ n ≤ 64) = false := decide_eq_false (by omega)
    rw [this, Bool.and_false]; rfl
  · have : decide (0 ≤ n ∧ n ≤ 64) = false := decide_eq_false (by omega)
    rw [this, Bool.and_false]; rfl
theorem fits_row {K : List (List Int)} {n : Int} {e : Int × Int × List V} {l : List Int} (hl : l ∈ K) (h : rowOk l = false) : fitsB K n e = false := by
  have : K.all rowOk = false := by
    cases hx : K.all rowOk
    · rfl
    · rw [List.all_eq_true.1 hx l hl] at h; cases h
  unfold fitsB kindsOk
  rw [this, Bool.and_false]; rfl
theorem fits_head {K : List (List Int)} {n : Int} {e : Int × Int × List V} (h : headOk K e.1 e.2.1 = false) : fitsB K n e = false := by
  unfold fitsB; rw [h, Bool.false_and, Bool.and_false]
theorem fits_rest {K : List (List Int)} {n : Int} {e : Int × Int × List V} (h1 : K.length ≤ 16) (h2 : 0 ≤ n ∧ n ≤ 64) (h3 : K.all rowOk = true) (h4 : headOk K e.1 e.2.1 = true) : fitsB K n e = rowFits n.toNat (K.getD e.1.toNat []) e.2.2 := by
  unfold fitsB kindsOk
  rw [h3, h4, decide_eq_true h1, decide_eq_true h2]; rfl
theorem head_text (K : List (List Int)) (ety etm : Int) : ((((decide (ety < 0)) || (decide ((K.length : Nat) ≤ ety))) || (decide (etm < 0))) || (decide (1152921504606846976 < etm))) = !headOk K ety etm := by
  unfold headOk maxTime
  by_cases h1 : 0 ≤ ety ∧ ety.toNat < K.length
  · rw [decide_eq_true h1, decide_eq_false (by omega : ¬ ety < 0), decide_eq_false (by omega : ¬ (K.length : Int) ≤ ety)]
    by_cases h2 : 0 ≤ etm ∧ etm ≤ 1152921504606846976
    · rw [decide_eq_true h2, decide_eq_false (by omega : ¬ etm < 0), decide_eq_false (by omega : ¬ 1152921504606846976 < etm)]; rfl
    · rw [decide_eq_false h2]
      by_cases h3 : etm < 0
      · rw [decide_eq_true h3]; simp
      · rw [decide_eq_true (by omega : 1152921504606846976 < etm)]; simp
  · rw [decide_eq_false h1]
    by_cases h3 : ety < 0
    · rw [decide_eq_true h3]; simp
    · rw [decide_eq_true (by omega : (K.length : Int) ≤ ety)]; simp
theorem clean_text (x : V) : (!(clean x).k == x.k || !((clean x).b : Int) == (x.b : Int)) = !cleanB x := by
  unfold cleanB
  rw [nat_beq]
  by_cases h1 : (clean x).k = x.k <;> by_cases h2 : (clean x).b = x.b <;> simp [h1, h2]
theorem u64w (n : Nat) (h : n < 18446744073709551616) : IntKind.u64.wrap (n : Int) = n := by
  have e : IntKind.u64.wrap (n : Int) = (n : Int) % 18446744073709551616 := by rfl
  rw [e]; omega
theorem attr_text (sn : Nat) (kk : Int) (x : V) : (((x.k != kk) || (!cleanB x)) || ((x.k == 3) && decide (sn ≤ x.b))) = !attrOk sn kk x := by
  unfold attrOk
  have e1 : (x.k != kk) = !decide (x.k = kk) := by by_cases h : x.k = kk <;> simp [h]
  have e2 : (x.k == 3) = decide (x.k = 3) := by by_cases h : x.k = 3 <;> simp [h]
  rw [e1, e2]
  cases decide (x.k = kk) <;> cases cleanB x <;> cases decide (x.k = 3) <;> cases decide (sn ≤ x.b) <;> rfl

section
variable (rows : List RowV) (KA : Option Addr) (kc : Nat) (n : Int) (e : EventV) (w : World)
set_option maxRecDepth 100000 in
theorem pfits_bad (h : ((decide (16 < (rows.map (·.l)).length) || decide (n < 0)) || decide (64 < n)) = true) :
    Calls Tryz.prog 36 #[.slice KA rows.length kc, .int .i64 n, e.val] w fun r w' => r = .returned (.bool false) ∧ Below w.heap.size w w' := by
  rw [List.length_map] at h
  have HB := Lib.hid h
  clear h
  unfold EventV.val
  go_enter Tryz.func36, Tryz.ntmps36
  go_upto_region 1 with fail
  refine wp_region_s (fun qk => (fitR1 rows KA kc n).getD qk .any) (by kernel_rfl) ?_ ?_
  · refine BOk.cons rfl [] [0] rfl rfl (by kernel_rfl) (by kernel_rfl) (fun qK qa wr hB qO qF hK => ?_) ?_
    · have e0 : qa.tmps[0]? = some (.slice KA rows.length kc) := qO.1.trans rfl
      clear qO qF
      go_simp
      exact hK _ _ (Below.refl _ _) rfl
    refine BOk.cons rfl [0] [] rfl rfl (by kernel_rfl) (by kernel_rfl) (fun qK qa wr hB qO qF hK => ?_) ?_
    · have e13 : qa.tmps[13]? = some (.slice KA rows.length kc) := fis qF.1 rfl rfl
      clear qO qF
      go_simp
      exact hK _ _ (Below.refl _ _) rfl
    refine BOk.cons rfl [1] [] rfl rfl (by kernel_rfl) (by kernel_rfl) (fun qK qa wr hB qO qF hK => ?_) ?_
    · have e14 : qa.tmps[14]? = some (.int .i64 (rows.length : Nat)) := fis qF.1 rfl rfl
      clear qO qF
      go_simp
      refine hK _ _ (Below.refl _ _) ?_
      show (_ : Value) = _
      first | rfl | (simp; done) | (simp; omega) | (congr 1; simp; done) | (congr 1; rw [decide_eq_decide]; omega) | exact congrArg Value.bool (nat_bne _ _) | exact congrArg Value.bool (nat_beq _ _)
    refine BOk.cons rfl [2] [] rfl rfl (by kernel_rfl) (by kernel_rfl) (fun qK qa wr hB qO qF hK => ?_) ?_
    · have e15 : qa.tmps[15]? = some (.bool (decide (16 < (rows.length : Nat)))) := fis qF.1 rfl rfl
      clear qO qF
      go_simp
      exact hK _ _ (Below.refl _ _) (by first | rfl | (show (_ : Value) = _; simp_all; done))
    refine BOk.optT rfl [] [1] rfl 3 false rfl rfl rfl rfl (by kernel_rfl) (by kernel_rfl) (by kernel_rfl) (fun hp hc hP qK qa wr hB qO qF hK => ?_) ?_
    · have e1 : qa.tmps[1]? = some (.int .i64 n) := qO.1.trans rfl
      clear qO qF
      go_simp
      exact hK _ _ (Below.refl _ _) rfl
    refine BOk.optT rfl [4] [] rfl 3 false rfl rfl rfl rfl (by kernel_rfl) (by kernel_rfl) (by kernel_rfl) (fun hp hc hP qK qa wr hB qO qF hK => ?_) ?_
    · have e17 : qa.tmps[17]? = some (.int .i64 n) := fif qF.1 rfl hP rfl
      clear qO qF
      go_simp
      refine hK _ _ (Below.refl _ _) ?_
      show (_ : Value) = _
      first | rfl | (simp; done) | (simp; omega) | (congr 1; simp; done) | (congr 1; rw [decide_eq_decide]; omega) | exact congrArg Value.bool (nat_bne _ _) | exact congrArg Value.bool (nat_beq _ _)
    refine BOk.cons rfl [3, 5] [] rfl rfl (by kernel_rfl) (by kernel_rfl) (fun qK qa wr hB qO qF hK => ?_) ?_
    · have e16 : qa.tmps[16]? = some (.bool (decide (16 < (rows.length : Nat)))) := fis qF.1 rfl rfl
      obtain ⟨u18, e18, r5⟩ := qF.2.1
      have r5 : u18 = (bif (true && ((decide (16 < (rows.length : Nat))) == false)) then .bool (decide (n < 0)) else undef) := r5
      clear qO qF
      rcases (Bool.eq_false_or_eq_true ((decide (16 < (rows.length : Nat))))).symm with hcc | hcc
      · rw [hcc] at e16
        have e18 : qa.tmps[18]? = some (.bool ((decide (n < 0)))) := (show u18 = .bool ((decide (n < 0))) from r5.trans (by (first | rw [hcc] | skip); first | rfl | (rw [hP]; rfl))) ▸ e18
        go_simp
        exact hK _ _ (Below.refl _ _) (by show (_ : Value) = _; first | (rw [hcc]; first | rfl | (simp; done)) | (simp_all; done))
      · rw [hcc] at e16
        go_simp
        exact hK _ _ (Below.refl _ _) (by show (_ : Value) = _; first | (rw [hcc]; first | rfl | (simp; done)) | (simp_all; done))
    refine BOk.cons rfl [6] [] rfl rfl (by kernel_rfl) (by kernel_rfl) (fun qK qa wr hB qO qF hK => ?_) ?_
    · have e19 : qa.tmps[19]? = some (.bool ((decide (16 < (rows.length : Nat))) || (decide (n < 0)))) := fis qF.1 rfl rfl
      clear qO qF
      go_simp
      exact hK _ _ (Below.refl _ _) (by first | rfl | (show (_ : Value) = _; simp_all; done))
    refine BOk.optT rfl [] [1] rfl 7 false rfl rfl rfl rfl (by kernel_rfl) (by kernel_rfl) (by kernel_rfl) (fun hp hc hP qK qa wr hB qO qF hK => ?_) ?_
    · have e1 : qa.tmps[1]? = some (.int .i64 n) := qO.1.trans rfl
      clear qO qF
      go_simp
      exact hK _ _ (Below.refl _ _) rfl
    refine BOk.optT rfl [8] [] rfl 7 false rfl rfl rfl rfl (by kernel_rfl) (by kernel_rfl) (by kernel_rfl) (fun hp hc hP qK qa wr hB qO qF hK => ?_) ?_
    · have e21 : qa.tmps[21]? = some (.int .i64 n) := fif qF.1 rfl hP rfl
      clear qO qF
      go_simp
      refine hK _ _ (Below.refl _ _) ?_
      show (_ : Value) = _
      first | rfl | (simp; done) | (simp; omega) | (congr 1; simp; done) | (congr 1; rw [decide_eq_decide]; omega) | exact congrArg Value.bool (nat_bne _ _) | exact congrArg Value.bool (nat_beq _ _)
    refine BOk.cons rfl [7, 9] [] rfl rfl (by kernel_rfl) (by kernel_rfl) (fun qK qa wr hB qO qF hK => ?_) ?_
    · have e20 : qa.tmps[20]? = some (.bool ((decide (16 < (rows.length : Nat))) || (decide (n < 0)))) := fis qF.1 rfl rfl
      obtain ⟨u22, e22, r9⟩ := qF.2.1
      have r9 : u22 = (bif (true && (((decide (16 < (rows.length : Nat))) || (decide (n < 0))) == false)) then .bool (decide (64 < n)) else undef) := r9
      clear qO qF
      rcases (Bool.eq_false_or_eq_true (((decide (16 < (rows.length : Nat))) || (decide (n < 0))))).symm with hcc | hcc
      · rw [hcc] at e20
        have e22 : qa.tmps[22]? = some (.bool ((decide (64 < n)))) := (show u22 = .bool ((decide (64 < n))) from r9.trans (by (first | rw [hcc] | skip); first | rfl | (rw [hP]; rfl))) ▸ e22
        go_simp
        exact hK _ _ (Below.refl _ _) (by show (_ : Value) = _; first | (rw [hcc]; first | rfl | (simp; done)) | (simp_all; done))
      · rw [hcc] at e20
        go_simp
        exact hK _ _ (Below.refl _ _) (by show (_ : Value) = _; first | (rw [hcc]; first | rfl | (simp; done)) | (simp_all; done))
    exact BOk.nil
  intro vals wr hl hB hR
  match vals, hl with
  | [z13, z14, z15, z16, z17, z18, z19, z20, z21, z22, z23], _ =>
  have r10 : z23 = .bool (((decide (16 < (rows.length : Nat))) || (decide (n < 0))) || (decide (64 < n))) := hR 10 _ rfl
  subst r10
  clear hR
  simp only [List.cons_append, List.nil_append, putAll, Act.put, List.setIfInBounds_toArray, List.set_cons_zero, List.set_cons_succ]
  rw [HB.out]
  go_wp2
  go_ret
  exact ⟨rfl, ((Below.refl _ _).alloc (Nat.le_refl _) _).trans (hB.mono (by simp))⟩

set_option maxRecDepth 100000 in
set_option maxHeartbeats 4000000 in
theorem pfits_good (hr : Rd w w.heap.size KA (rows.flatMap RowV.cells)) (hrow : ∀ r ∈ rows, r.ok w w.heap.size) (he : e.ok w w.heap.size) (h : ((decide (16 < (rows.map (·.l)).length) || decide (n < 0)) || decide (64 < n)) = false) :
    Calls Tryz.prog 36 #[.slice KA rows.length kc, .int .i64 n, e.val] w fun r w' => r = .returned (.bool (fitsB (rows.map (·.l)) n e.sig)) ∧ Below w.heap.size w w' := by
  rw [List.length_map] at h
  have h16 : rows.length ≤ 16 := by simp only [Bool.or_eq_false_iff, decide_eq_false_iff_not] at h; omega
  have hn : 0 ≤ n ∧ n ≤ 64 := by simp only [Bool.or_eq_false_iff, decide_eq_false_iff_not] at h; omega
  have HB := Lib.hid h
  have RD := Lib.hid hr
  have RO := Lib.hid hrow
  have EO := Lib.hid he
  clear h hr hrow he
  obtain ⟨ety, etm, eA, ec, eat⟩ := e
  unfold EventV.val
  generalize hR : fitsB (rows.map (·.l)) n (EventV.sig ⟨ety, etm, eA, ec, eat⟩) = RES
  have HR := Lib.hid hR
  clear hR
  go_enter Tryz.func36, Tryz.ntmps36
  go_upto_region 1 with fail
  refine wp_region_s (fun qk => (fitR1 rows KA kc n).getD qk .any) (by kernel_rfl) ?_ ?_
  · refine BOk.cons rfl [] [0] rfl rfl (by kernel_rfl) (by kernel_rfl) (fun qK qa wr hB qO qF hK => ?_) ?_
    · have e0 : qa.tmps[0]? = some (.slice KA rows.length kc) := qO.1.trans rfl
      clear qO qF
      go_simp
      exact hK _ _ (Below.refl _ _) rfl
    refine BOk.cons rfl [0] [] rfl rfl (by kernel_rfl) (by kernel_rfl) (fun qK qa wr hB qO qF hK => ?_) ?_
    · have e13 : qa.tmps[13]? = some (.slice KA rows.length kc) := fis qF.1 rfl rfl
      clear qO qF
      go_simp
      exact hK _ _ (Below.refl _ _) rfl
    refine BOk.cons rfl [1] [] rfl rfl (by kernel_rfl) (by kernel_rfl) (fun qK qa wr hB qO qF hK => ?_) ?_
    · have e14 : qa.tmps[14]? = some (.int .i64 (rows.length : Nat)) := fis qF.1 rfl rfl
      clear qO qF
      go_simp
      refine hK _ _ (Below.refl _ _) ?_
      show (_ : Value) = _
      first | rfl | (simp; done) | (simp; omega) | (congr 1; simp; done) | (congr 1; rw [decide_eq_decide]; omega) | exact congrArg Value.bool (nat_bne _ _) | exact congrArg Value.bool (nat_beq _ _)
    refine BOk.cons rfl [2] [] rfl rfl (by kernel_rfl) (by kernel_rfl) (fun qK qa wr hB qO qF hK => ?_) ?_
    · have e15 : qa.tmps[15]? = some (.bool (decide (16 < (rows.length : Nat)))) := fis qF.1 rfl rfl
      clear qO qF
      go_simp
      exact hK _ _ (Below.refl _ _) (by first | rfl | (show (_ : Value) = _; simp_all; done))
    refine BOk.optT rfl [] [1] rfl 3 false rfl rfl rfl rfl (by kernel_rfl) (by kernel_rfl) (by kernel_rfl) (fun hp hc hP qK qa wr hB qO qF hK => ?_) ?_
    · have e1 : qa.tmps[1]? = some (.int .i64 n) := qO.1.trans rfl
      clear qO qF
      go_simp
      exact hK _ _ (Below.refl _ _) rfl
    refine BOk.optT rfl [4] [] rfl 3 false rfl rfl rfl rfl (by kernel_rfl) (by kernel_rfl) (by kernel_rfl) (fun hp hc hP qK qa wr hB qO qF hK => ?_) ?_
    · have e17 : qa.tmps[17]? = some (.int .i64 n) := fif qF.1 rfl hP rfl
      clear qO qF
      go_simp
      refine hK _ _ (Below.refl _ _) ?_
      show (_ : Value) = _
      first | rfl | (simp; done) | (simp; omega) | (congr 1; simp; done) | (congr 1; rw [decide_eq_decide]; omega) | exact congrArg Value.bool (nat_bne _ _) | exact congrArg Value.bool (nat_beq _ _)
    refine BOk.cons rfl [3, 5] [] rfl rfl (by kernel_rfl) (by kernel_rfl) (fun qK qa wr hB qO qF hK => ?_) ?_
    · have e16 : qa.tmps[16]? = some (.bool (decide (16 < (rows.length : Nat)))) := fis qF.1 rfl rfl
      obtain ⟨u18, e18, r5⟩ := qF.2.1
      have r5 : u18 = (bif (true && ((decide (16 < (rows.length : Nat))) == false)) then .bool (decide (n < 0)) else undef) := r5
      clear qO qF
      rcases (Bool.eq_false_or_eq_true ((decide (16 < (rows.length : Nat))))).symm with hcc | hcc
      · rw [hcc] at e16
        have e18 : qa.tmps[18]? = some (.bool ((decide (n < 0)))) := (show u18 = .bool ((decide (n < 0))) from r5.trans (by (first | rw [hcc] | skip); first | rfl | (rw [hP]; rfl))) ▸ e18
        go_simp
        exact hK _ _ (Below.refl _ _) (by show (_ : Value) = _; first | (rw [hcc]; first | rfl | (simp; done)) | (simp_all; done))
      · rw [hcc] at e16
        go_simp
        exact hK _ _ (Below.refl _ _) (by show (_ : Value) = _; first | (rw [hcc]; first | rfl | (simp; done)) | (simp_all; done))
    refine BOk.cons rfl [6] [] rfl rfl (by kernel_rfl) (by kernel_rfl) (fun qK qa wr hB qO qF hK => ?_) ?_
    · have e19 : qa.tmps[19]? = some (.bool ((decide (16 < (rows.length : Nat))) || (decide (n < 0)))) := fis qF.1 rfl rfl
      clear qO qF
      go_simp
      exact hK _ _ (Below.refl _ _) (by first | rfl | (show (_ : Value) = _; simp_all; done))
    refine BOk.optT rfl [] [1] rfl 7 false rfl rfl rfl rfl (by kernel_rfl) (by kernel_rfl) (by kernel_rfl) (fun hp hc hP qK qa wr hB qO qF hK => ?_) ?_
    · have e1 : qa.tmps[1]? = some (.int .i64 n) := qO.1.trans rfl
      clear qO qF
      go_simp
      exact hK _ _ (Below.refl _ _) rfl
    refine BOk.optT rfl [8] [] rfl 7 false rfl rfl rfl rfl (by kernel_rfl) (by kernel_rfl) (by kernel_rfl) (fun hp hc hP qK qa wr hB qO qF hK => ?_) ?_
    · have e21 : qa.tmps[21]? = some (.int .i64 n) := fif qF.1 rfl hP rfl
      clear qO qF
      go_simp
      refine hK _ _ (Below.refl _ _) ?_
      show (_ : Value) = _
      first | rfl | (simp; done) | (simp; omega) | (congr 1; simp; done) | (congr 1; rw [decide_eq_decide]; omega) | exact congrArg Value.bool (nat_bne _ _) | exact congrArg Value.bool (nat_beq _ _)
    refine BOk.cons rfl [7, 9] [] rfl rfl (by kernel_rfl) (by kernel_rfl) (fun qK qa wr hB qO qF hK => ?_) ?_
    · have e20 : qa.tmps[20]? = some (.bool ((decide (16 < (rows.length : Nat))) || (decide (n < 0)))) := fis qF.1 rfl rfl
      obtain ⟨u22, e22, r9⟩ := qF.2.1
      have r9 : u22 = (bif (true && (((decide (16 < (rows.length : Nat))) || (decide (n < 0))) == false)) then .bool (decide (64 < n)) else undef) := r9
      clear qO qF
      rcases (Bool.eq_false_or_eq_true (((decide (16 < (rows.length : Nat))) || (decide (n < 0))))).symm with hcc | hcc
      · rw [hcc] at e20
        have e22 : qa.tmps[22]? = some (.bool ((decide (64 < n)))) := (show u22 = .bool ((decide (64 < n))) from r9.trans (by (first | rw [hcc] | skip); first | rfl | (rw [hP]; rfl))) ▸ e22
        go_simp
        exact hK _ _ (Below.refl _ _) (by show (_ : Value) = _; first | (rw [hcc]; first | rfl | (simp; done)) | (simp_all; done))
      · rw [hcc] at e20
        go_simp
        exact hK _ _ (Below.refl _ _) (by show (_ : Value) = _; first | (rw [hcc]; first | rfl | (simp; done)) | (simp_all; done))
    exact BOk.nil
  intro vals wr hl hB hR
  match vals, hl with
  | [z13, z14, z15, z16, z17, z18, z19, z20, z21, z22, z23], _ =>
  have r10 : z23 = .bool (((decide (16 < (rows.length : Nat))) || (decide (n < 0))) || (decide (64 < n))) := hR 10 _ rfl
  subst r10
  clear hR
  simp only [List.cons_append, List.nil_append, putAll, Act.put, List.setIfInBounds_toArray, List.set_cons_zero, List.set_cons_succ]
  rw [HB.out]
  have k0 := (Bk.new w 28 #[.int .i64 ety, .int .i64 etm, .slice eA eat.length ec]).old hB
  have hbe : Below w.heap.size w wr := ((Below.refl _ _).alloc (Nat.le_refl _) _).trans (hB.mono (by simp))
  clear hB HB
  obtain ⟨wb, rfl⟩ : ∃ wb : World, wb = wr := ⟨_, rfl⟩
  go_wp2
  go_loop [26] (fun i => ∃ k : Nat, k ≤ rows.length ∧ i = .int .i64 k ∧ Hid ((rows.take k).all (fun r => rowOk r.l) = true)) (fun i => rows.length - (intOf i).toNat)
  case atStart => exact ⟨0, Nat.zero_le _, rfl, by rfl⟩
  case round =>
    obtain ⟨k, hk, rfl, hall⟩ := hrel
    by_cases hlt : k < rows.length
    · as_aux_lemma =>
      obtain ⟨b, o, hA, hb, hc⟩ := (RD.out.below hbe).elem (n := 1) (fun _ => rfl) (by omega) hlt
      have hx := RO.out rows[k] (List.getElem_mem _)
      have hmem : rows[k] ∈ rows := List.getElem_mem _
      have hnx : (rows.take (k + 1)).all (fun r => rowOk r.l) = ((rows.take k).all (fun r => rowOk r.l) && rowOk rows[k].l) := by rw [List.take_succ_eq_append_getElem hlt, List.all_append]; simp
      have HNX := Lib.hid hnx
      have HM := Lib.hid hmem
      clear hnx hmem
      generalize rows[k] = x at *
      have e0 : wb.cell? ⟨b, o + k * 1, none⟩ = some (.slice x.A x.l.length x.c) := hc 0 _ rfl
      rw [Nat.mul_one] at e0
      have XR := Lib.hid (hx.rd.below hbe)
      have hxl := hx.len
      clear hc hx
      rw [hA]
      have HA := Lib.hid hA
      clear hA
      by_cases h8 : 8 < x.l.length
      · go_wp2
        go_ret
        refine ⟨ret_bool ?_, hbe⟩
        rw [← HR.out]
        exact (fits_row (l := x.l) (List.mem_map_of_mem HM.out) (by unfold rowOk; rw [decide_eq_false (by omega : ¬ x.l.length ≤ 8)]; rfl)).symm
      · go_wp2
        go_loop [35] (fun i => ∃ j : Nat, j ≤ x.l.length ∧ i = .int .i64 j ∧ Hid ((x.l.take j).all kindOk = true)) (fun i => x.l.length - (intOf i).toNat)
        case atStart => exact ⟨0, Nat.zero_le _, rfl, by rfl⟩
        case round =>
          obtain ⟨j, hj, rfl, hall2⟩ := hrel
          by_cases hlj : j < x.l.length
          · as_aux_lemma =>
            obtain ⟨b2, o2, hA2, hb2, hc2⟩ := (show Rd wb w.heap.size x.A (x.l.map fun n : Int => Value.int .i64 n) from XR.out).elem1 hlj
            have hnx2 : (x.l.take (j + 1)).all kindOk = ((x.l.take j).all kindOk && kindOk x.l[j]) := by rw [List.take_succ_eq_append_getElem hlj, List.all_append]; simp
            have hmem2 : x.l[j] ∈ x.l := List.getElem_mem _
            have HN2 := Lib.hid hnx2
            have HM2 := Lib.hid hmem2
            clear hnx2 hmem2
            generalize x.l[j] = kd at *
            rw [hA2]
            have HA2 := Lib.hid hA2
            clear hA2
            have hbadk : kindOk kd = false → fitsB (rows.map (·.l)) n (EventV.sig ⟨ety, etm, eA, ec, eat⟩) = false := fun hk => fits_row (l := x.l) (List.mem_map_of_mem HM.out) (by
              unfold rowOk
              have : x.l.all kindOk = false := by
                cases hy : x.l.all kindOk
                · rfl
                · exact absurd (List.all_eq_true.1 hy kd HM2.out) (by rw [hk]; decide)
              rw [this, Bool.and_false])
            have HBK := Lib.hid hbadk
            clear hbadk
            by_cases q1 : kd < 1
            · go_wp2
              go_ret
              refine ⟨ret_bool ?_, hbe⟩
              rw [← HR.out]
              exact (HBK.out (by unfold kindOk; rw [decide_eq_false (by omega : ¬ 1 ≤ kd)]; rfl)).symm
            · by_cases q2 : 4 < kd
              · go_wp2
                go_ret
                refine ⟨ret_bool ?_, hbe⟩
                rw [← HR.out]
                exact (HBK.out (by unfold kindOk; rw [decide_eq_false (by omega : ¬ kd ≤ 4), Bool.and_false])).symm
              · go_wp2
                go_round
                case rel => exact ⟨j + 1, by omega, by go_num, Lib.hid (by rw [HN2.out, hall2.out]; unfold kindOk; rw [decide_eq_true (by omega : 1 ≤ kd), decide_eq_true (by omega : kd ≤ 4)]; rfl)⟩
                case measure => simp [intOf]; omega
          · as_aux_lemma =>
            obtain rfl : j = x.l.length := by omega
            rw [List.take_length] at hall2
            go_wp2
            go_round
            case rel => exact ⟨k + 1, by omega, by go_num, Lib.hid (by rw [HNX.out, hall.out]; unfold rowOk; rw [hall2.out, decide_eq_true (by omega : x.l.length ≤ 8)]; rfl)⟩
            case measure => simp [intOf]; omega
    · as_aux_lemma =>
      obtain rfl : k = rows.length := by omega
      rw [List.take_length] at hall
      have hkall : (rows.map (·.l)).all rowOk = true := by rw [List.all_map]; exact hall.out
      have HKA := Lib.hid hkall
      clear hkall hall
      have x0 := k0.cell 0
      have x1 := k0.cell 1
      have x2 := k0.cell 2
      cases hhead : headOk (rows.map (·.l)) ety etm
      · have HA : Hid (((((decide (ety < 0)) || (decide ((rows.length : Nat) ≤ ety))) || (decide (etm < 0))) || (decide (1152921504606846976 < etm))) = true) := Lib.hid (by have := head_text (rows.map (·.l)) ety etm; rw [hhead, List.length_map] at this; exact this)
        have hres : RES = false := by rw [← HR.out]; exact fits_head hhead
        have HRS := Lib.hid hres
        clear hhead hres
        go_upto_region 15 with fail
        refine wp_region_b (by kernel_rfl) (fun qk => (fitR15a rows KA kc ety etm eA ec eat w).getD qk .any) (by kernel_rfl) ?_ ?_
        · refine BOk.cons rfl [] [5] rfl rfl (by kernel_rfl) (by kernel_rfl) (fun qK qa wr hB qO qF hK => ?_) ?_
          · have e5 : qa.tmps[5]? = some (.pointer (some ⟨w.heap.size, 0, none⟩)) := qO.1.trans rfl
            clear qO qF
            go_simp
            exact hK _ _ (Below.refl _ _) rfl
          refine BOk.cons rfl [0] [] rfl rfl (by kernel_rfl) (by kernel_rfl) (fun qK qa wr hB qO qF hK => ?_) ?_
          · have e47 : qa.tmps[47]? = some (.pointer (some ⟨w.heap.size, 0, none⟩)) := fis qF.1 rfl rfl
            clear qO qF
            have hx0 := (bcell hB _ _ (World.block_lt_of_cell? _ _ x0)).trans x0
            go_simp
            exact hK _ _ (Below.refl _ _) rfl
          refine BOk.cons rfl [1] [] rfl rfl (by kernel_rfl) (by kernel_rfl) (fun qK qa wr hB qO qF hK => ?_) ?_
          · have e48 : qa.tmps[48]? = some (.int .i64 ety) := fis qF.1 rfl rfl
            clear qO qF
            go_simp
            refine hK _ _ (Below.refl _ _) ?_
            show (_ : Value) = _
            first | rfl | (simp; done) | (simp; omega) | (congr 1; simp; done) | (congr 1; rw [decide_eq_decide]; omega) | exact congrArg Value.bool (nat_bne _ _) | exact congrArg Value.bool (nat_beq _ _)
          refine BOk.cons rfl [2] [] rfl rfl (by kernel_rfl) (by kernel_rfl) (fun qK qa wr hB qO qF hK => ?_) ?_
          · have e49 : qa.tmps[49]? = some (.bool (decide (ety < 0))) := fis qF.1 rfl rfl
            clear qO qF
            go_simp
            exact hK _ _ (Below.refl _ _) (by first | rfl | (show (_ : Value) = _; simp_all; done))
          refine BOk.optT rfl [] [5] rfl 3 false rfl rfl rfl rfl (by kernel_rfl) (by kernel_rfl) (by kernel_rfl) (fun hp hc hP qK qa wr hB qO qF hK => ?_) ?_
          · have e5 : qa.tmps[5]? = some (.pointer (some ⟨w.heap.size, 0, none⟩)) := qO.1.trans rfl
            clear qO qF
            go_simp
            exact hK _ _ (Below.refl _ _) rfl
          refine BOk.optT rfl [4] [] rfl 3 false rfl rfl rfl rfl (by kernel_rfl) (by kernel_rfl) (by kernel_rfl) (fun hp hc hP qK qa wr hB qO qF hK => ?_) ?_
          · have e51 : qa.tmps[51]? = some (.pointer (some ⟨w.heap.size, 0, none⟩)) := fif qF.1 rfl hP rfl
            clear qO qF
            have hx0 := (bcell hB _ _ (World.block_lt_of_cell? _ _ x0)).trans x0
            go_simp
            exact hK _ _ (Below.refl _ _) rfl
          refine BOk.optT rfl [] [0] rfl 3 false rfl rfl rfl rfl (by kernel_rfl) (by kernel_rfl) (by kernel_rfl) (fun hp hc hP qK qa wr hB qO qF hK => ?_) ?_
          · have e0 : qa.tmps[0]? = some (.slice KA rows.length kc) := qO.1.trans rfl
            clear qO qF
            go_simp
            exact hK _ _ (Below.refl _ _) rfl
          refine BOk.optT rfl [6] [] rfl 3 false rfl rfl rfl rfl (by kernel_rfl) (by kernel_rfl) (by kernel_rfl) (fun hp hc hP qK qa wr hB qO qF hK => ?_) ?_
          · have e53 : qa.tmps[53]? = some (.slice KA rows.length kc) := fif qF.1 rfl hP rfl
            clear qO qF
            go_simp
            exact hK _ _ (Below.refl _ _) rfl
          refine BOk.optT rfl [5, 7] [] rfl 3 false rfl rfl rfl rfl (by kernel_rfl) (by kernel_rfl) (by kernel_rfl) (fun hp hc hP qK qa wr hB qO qF hK => ?_) ?_
          · have e52 : qa.tmps[52]? = some (.int .i64 ety) := fif qF.1 rfl hP rfl
            have e54 : qa.tmps[54]? = some (.int .i64 (rows.length : Nat)) := fif qF.2.1 rfl hP rfl
            clear qO qF
            go_simp
            refine hK _ _ (Below.refl _ _) ?_
            show (_ : Value) = _
            first | rfl | (simp; done) | (simp; omega) | (congr 1; simp; done) | (congr 1; rw [decide_eq_decide]; omega) | exact congrArg Value.bool (nat_bne _ _) | exact congrArg Value.bool (nat_beq _ _)
          refine BOk.cons rfl [3, 8] [] rfl rfl (by kernel_rfl) (by kernel_rfl) (fun qK qa wr hB qO qF hK => ?_) ?_
          · have e50 : qa.tmps[50]? = some (.bool (decide (ety < 0))) := fis qF.1 rfl rfl
            obtain ⟨u55, e55, r8⟩ := qF.2.1
            have r8 : u55 = (bif (true && ((decide (ety < 0)) == false)) then .bool (decide ((rows.length : Nat) ≤ ety)) else undef) := r8
            clear qO qF
            rcases (Bool.eq_false_or_eq_true ((decide (ety < 0)))).symm with hcc | hcc
            · rw [hcc] at e50
              have e55 : qa.tmps[55]? = some (.bool ((decide ((rows.length : Nat) ≤ ety)))) := (show u55 = .bool ((decide ((rows.length : Nat) ≤ ety))) from r8.trans (by (first | rw [hcc] | skip); first | rfl | (rw [hP]; rfl))) ▸ e55
              go_simp
              exact hK _ _ (Below.refl _ _) (by show (_ : Value) = _; first | (rw [hcc]; first | rfl | (simp; done)) | (simp_all; done))
            · rw [hcc] at e50
              go_simp
              exact hK _ _ (Below.refl _ _) (by show (_ : Value) = _; first | (rw [hcc]; first | rfl | (simp; done)) | (simp_all; done))
          refine BOk.cons rfl [9] [] rfl rfl (by kernel_rfl) (by kernel_rfl) (fun qK qa wr hB qO qF hK => ?_) ?_
          · have e56 : qa.tmps[56]? = some (.bool ((decide (ety < 0)) || (decide ((rows.length : Nat) ≤ ety)))) := fis qF.1 rfl rfl
            clear qO qF
            go_simp
            exact hK _ _ (Below.refl _ _) (by first | rfl | (show (_ : Value) = _; simp_all; done))
          refine BOk.optT rfl [] [5] rfl 10 false rfl rfl rfl rfl (by kernel_rfl) (by kernel_rfl) (by kernel_rfl) (fun hp hc hP qK qa wr hB qO qF hK => ?_) ?_
          · have e5 : qa.tmps[5]? = some (.pointer (some ⟨w.heap.size, 0, none⟩)) := qO.1.trans rfl
            clear qO qF
            go_simp
            exact hK _ _ (Below.refl _ _) rfl
          refine BOk.optT rfl [11] [] rfl 10 false rfl rfl rfl rfl (by kernel_rfl) (by kernel_rfl) (by kernel_rfl) (fun hp hc hP qK qa wr hB qO qF hK => ?_) ?_
          · have e58 : qa.tmps[58]? = some (.pointer (some ⟨w.heap.size, 1, none⟩)) := fif qF.1 rfl hP rfl
            clear qO qF
            have hx1 := (bcell hB _ _ (World.block_lt_of_cell? _ _ x1)).trans x1
            go_simp
            exact hK _ _ (Below.refl _ _) rfl
          refine BOk.optT rfl [12] [] rfl 10 false rfl rfl rfl rfl (by kernel_rfl) (by kernel_rfl) (by kernel_rfl) (fun hp hc hP qK qa wr hB qO qF hK => ?_) ?_
          · have e59 : qa.tmps[59]? = some (.int .i64 etm) := fif qF.1 rfl hP rfl
            clear qO qF
            go_simp
            refine hK _ _ (Below.refl _ _) ?_
            show (_ : Value) = _
            first | rfl | (simp; done) | (simp; omega) | (congr 1; simp; done) | (congr 1; rw [decide_eq_decide]; omega) | exact congrArg Value.bool (nat_bne _ _) | exact congrArg Value.bool (nat_beq _ _)
          refine BOk.cons rfl [10, 13] [] rfl rfl (by kernel_rfl) (by kernel_rfl) (fun qK qa wr hB qO qF hK => ?_) ?_
          · have e57 : qa.tmps[57]? = some (.bool ((decide (ety < 0)) || (decide ((rows.length : Nat) ≤ ety)))) := fis qF.1 rfl rfl
            obtain ⟨u60, e60, r13⟩ := qF.2.1
            have r13 : u60 = (bif (true && (((decide (ety < 0)) || (decide ((rows.length : Nat) ≤ ety))) == false)) then .bool (decide (etm < 0)) else undef) := r13
            clear qO qF
            rcases (Bool.eq_false_or_eq_true (((decide (ety < 0)) || (decide ((rows.length : Nat) ≤ ety))))).symm with hcc | hcc
            · rw [hcc] at e57
              have e60 : qa.tmps[60]? = some (.bool ((decide (etm < 0)))) := (show u60 = .bool ((decide (etm < 0))) from r13.trans (by (first | rw [hcc] | skip); first | rfl | (rw [hP]; rfl))) ▸ e60
              go_simp
              exact hK _ _ (Below.refl _ _) (by show (_ : Value) = _; first | (rw [hcc]; first | rfl | (simp; done)) | (simp_all; done))
            · rw [hcc] at e57
              go_simp
              exact hK _ _ (Below.refl _ _) (by show (_ : Value) = _; first | (rw [hcc]; first | rfl | (simp; done)) | (simp_all; done))
          refine BOk.cons rfl [14] [] rfl rfl (by kernel_rfl) (by kernel_rfl) (fun qK qa wr hB qO qF hK => ?_) ?_
          · have e61 : qa.tmps[61]? = some (.bool (((decide (ety < 0)) || (decide ((rows.length : Nat) ≤ ety))) || (decide (etm < 0)))) := fis qF.1 rfl rfl
            clear qO qF
            go_simp
            exact hK _ _ (Below.refl _ _) (by first | rfl | (show (_ : Value) = _; simp_all; done))
          refine BOk.optT rfl [] [5] rfl 15 false rfl rfl rfl rfl (by kernel_rfl) (by kernel_rfl) (by kernel_rfl) (fun hp hc hP qK qa wr hB qO qF hK => ?_) ?_
          · have e5 : qa.tmps[5]? = some (.pointer (some ⟨w.heap.size, 0, none⟩)) := qO.1.trans rfl
            clear qO qF
            go_simp
            exact hK _ _ (Below.refl _ _) rfl
          refine BOk.optT rfl [16] [] rfl 15 false rfl rfl rfl rfl (by kernel_rfl) (by kernel_rfl) (by kernel_rfl) (fun hp hc hP qK qa wr hB qO qF hK => ?_) ?_
          · have e63 : qa.tmps[63]? = some (.pointer (some ⟨w.heap.size, 1, none⟩)) := fif qF.1 rfl hP rfl
            clear qO qF
            have hx1 := (bcell hB _ _ (World.block_lt_of_cell? _ _ x1)).trans x1
            go_simp
            exact hK _ _ (Below.refl _ _) rfl
          refine BOk.optT rfl [17] [] rfl 15 false rfl rfl rfl rfl (by kernel_rfl) (by kernel_rfl) (by kernel_rfl) (fun hp hc hP qK qa wr hB qO qF hK => ?_) ?_
          · have e64 : qa.tmps[64]? = some (.int .i64 etm) := fif qF.1 rfl hP rfl
            clear qO qF
            go_simp
            refine hK _ _ (Below.refl _ _) ?_
            show (_ : Value) = _
            first | rfl | (simp; done) | (simp; omega) | (congr 1; simp; done) | (congr 1; rw [decide_eq_decide]; omega) | exact congrArg Value.bool (nat_bne _ _) | exact congrArg Value.bool (nat_beq _ _)
          refine BOk.cons rfl [15, 18] [] rfl rfl (by kernel_rfl) (by kernel_rfl) (fun qK qa wr hB qO qF hK => ?_) ?_
          · have e62 : qa.tmps[62]? = some (.bool (((decide (ety < 0)) || (decide ((rows.length : Nat) ≤ ety))) || (decide (etm < 0)))) := fis qF.1 rfl rfl
            obtain ⟨u65, e65, r18⟩ := qF.2.1
            have r18 : u65 = (bif (true && ((((decide (ety < 0)) || (decide ((rows.length : Nat) ≤ ety))) || (decide (etm < 0))) == false)) then .bool (decide (1152921504606846976 < etm)) else undef) := r18
            clear qO qF
            rcases (Bool.eq_false_or_eq_true ((((decide (ety < 0)) || (decide ((rows.length : Nat) ≤ ety))) || (decide (etm < 0))))).symm with hcc | hcc
            · rw [hcc] at e62
              have e65 : qa.tmps[65]? = some (.bool ((decide (1152921504606846976 < etm)))) := (show u65 = .bool ((decide (1152921504606846976 < etm))) from r18.trans (by (first | rw [hcc] | skip); first | rfl | (rw [hP]; rfl))) ▸ e65
              go_simp
              exact hK _ _ (Below.refl _ _) (by show (_ : Value) = _; first | (rw [hcc]; first | rfl | (simp; done)) | (simp_all; done))
            · rw [hcc] at e62
              go_simp
              exact hK _ _ (Below.refl _ _) (by show (_ : Value) = _; first | (rw [hcc]; first | rfl | (simp; done)) | (simp_all; done))
          refine BOk.cons rfl [19] [] rfl rfl (by kernel_rfl) (by kernel_rfl) (fun qK qa wr hB qO qF hK => ?_) ?_
          · have e66 : qa.tmps[66]? = some (.bool ((((decide (ety < 0)) || (decide ((rows.length : Nat) ≤ ety))) || (decide (etm < 0))) || (decide (1152921504606846976 < etm)))) := fis qF.1 rfl rfl
            clear qO qF
            rw [HA.out] at e66
            go_simp
            exact hK _ _ (Below.refl _ _) rfl
          refine BOk.no rfl rfl 20 false rfl rfl rfl (by kernel_rfl) (fun _ => rfl) ?_
          refine BOk.no rfl rfl 20 false rfl rfl rfl (by kernel_rfl) (fun _ => rfl) ?_
          refine BOk.no rfl rfl 20 false rfl rfl rfl (by kernel_rfl) (fun _ => rfl) ?_
          refine BOk.no rfl rfl 20 false rfl rfl rfl (by kernel_rfl) (fun _ => rfl) ?_
          refine BOk.no rfl rfl 20 false rfl rfl rfl (by kernel_rfl) (fun _ => rfl) ?_
          refine BOk.no rfl rfl 20 false rfl rfl rfl (by kernel_rfl) (fun _ => rfl) ?_
          refine BOk.no rfl rfl 20 false rfl rfl rfl (by kernel_rfl) (fun _ => rfl) ?_
          refine BOk.no rfl rfl 20 false rfl rfl rfl (by kernel_rfl) (fun _ => rfl) ?_
          refine BOk.no rfl rfl 20 false rfl rfl rfl (by kernel_rfl) (fun _ => rfl) ?_
          refine BOk.no rfl rfl 20 false rfl rfl rfl (by kernel_rfl) (fun _ => rfl) ?_
          refine BOk.cons rfl [20] [] rfl rfl (by kernel_rfl) (by kernel_rfl) (fun qK qa wr hB qO qF hK => ?_) ?_
          · have e67 : qa.tmps[67]? = some (.bool true) := fis qF.1 rfl rfl
            clear qO qF
            go_simp
            refine hK _ _ (Below.refl _ _) ?_
            show (_ : Value) = _
            first | rfl | (simp; done) | (simp; omega)
          exact BOk.nil
        intro vals wr hl hB hR
        obtain ⟨qc0, qd0, rfl, hc0, hd0⟩ := split_len 24 8 vals (by first | exact hl | simpa using hl)
        match qc0, hc0 with
        | [y47, y48, y49, y50, y51, y52, y53, y54, y55, y56, y57, y58, y59, y60, y61, y62, y63, y64, y65, y66, y67, y68, y69, y70], _ =>
        match qd0, hd0 with
        | [y71, y72, y73, y74, y75, y76, y77, y78], _ =>
        have r31 : y78 = .bool true := hR 31 _ rfl
        subst r31
        clear hR
        simp only [List.cons_append, List.nil_append, putAll, Act.put, List.setIfInBounds_toArray, List.set_cons_zero, List.set_cons_succ]
        go_wp2
        go_ret
        exact ⟨ret_bool HRS.out.symm, hbe.trans (hB.mono hbe.size)⟩
      · have hty : 0 ≤ ety ∧ ety.toNat < rows.length := by
          unfold headOk at hhead
          rw [Bool.and_eq_true] at hhead
          have := of_decide_eq_true hhead.1
          rwa [List.length_map] at this
        obtain ⟨sn, rfl⟩ : ∃ sn : Nat, n = sn := ⟨n.toNat, by omega⟩
        have hres : RES = rowFits sn ((rows.map (·.l)).getD ety.toNat []) eat := by rw [← HR.out, fits_rest (by rw [List.length_map]; exact h16) hn HKA.out hhead]; rfl
        obtain ⟨tn, rfl⟩ : ∃ tn : Nat, ety = tn := ⟨ety.toNat, by omega⟩
        have htn : tn < rows.length := by omega
        have HF : Hid (((((decide (tn < 0)) || (decide (rows.length ≤ tn))) || (decide (etm < 0))) || (decide (1152921504606846976 < etm))) = false) := Lib.hid (by
          unfold headOk maxTime at hhead
          rw [Bool.and_eq_true] at hhead
          have h2 := of_decide_eq_true hhead.2
          rw [decide_eq_false (by omega : ¬ tn < 0), decide_eq_false (by omega : ¬ rows.length ≤ tn), decide_eq_false (by omega : ¬ etm < 0), decide_eq_false (by omega : ¬ 1152921504606846976 < etm)]; rfl)
        rw [Int.toNat_natCast, List.getD_eq_getElem?_getD, List.getElem?_map, List.getElem?_eq_getElem htn] at hres
        obtain ⟨kb, ko, rfl, hkb, hkc⟩ := (RD.out.below hbe).elem (n := 1) (fun _ => rfl) (by omega) htn
        have hx := RO.out rows[tn] (List.getElem_mem _)
        generalize rows[tn] = row at *
        obtain ⟨rA, rc, rl⟩ := row
        have ck : wb.cell? ⟨kb, ko + tn * 1, none⟩ = some (.slice rA rl.length rc) := hkc 0 _ rfl
        rw [Nat.mul_one] at ck
        have XR := Lib.hid (hx.rd.below hbe)
        have hrl : rl.length ≤ 17592186043904 := hx.len
        replace hres : RES = rowFits sn rl eat := hres
        have HRS := Lib.hid hres
        have htI : (tn : Int) < (rows.length : Int) := by omega
        clear hx hkc hhead hres hty
        go_upto_region 15 with fail
        refine wp_region_b (by kernel_rfl) (fun qk => (fitR15b rows kb ko kc tn etm eA ec eat rA rc rl w).getD qk .any) (by kernel_rfl) ?_ ?_
        · refine BOk.cons rfl [] [5] rfl rfl (by kernel_rfl) (by kernel_rfl) (fun qK qa wr hB qO qF hK => ?_) ?_
          · have e5 : qa.tmps[5]? = some (.pointer (some ⟨w.heap.size, 0, none⟩)) := qO.1.trans rfl
            clear qO qF
            go_simp
            exact hK _ _ (Below.refl _ _) rfl
          refine BOk.cons rfl [0] [] rfl rfl (by kernel_rfl) (by kernel_rfl) (fun qK qa wr hB qO qF hK => ?_) ?_
          · have e47 : qa.tmps[47]? = some (.pointer (some ⟨w.heap.size, 0, none⟩)) := fis qF.1 rfl rfl
            clear qO qF
            have hx0 := (bcell hB _ _ (World.block_lt_of_cell? _ _ x0)).trans x0
            go_simp
            exact hK _ _ (Below.refl _ _) rfl
          refine BOk.cons rfl [1] [] rfl rfl (by kernel_rfl) (by kernel_rfl) (fun qK qa wr hB qO qF hK => ?_) ?_
          · have e48 : qa.tmps[48]? = some (.int .i64 (tn : Nat)) := fis qF.1 rfl rfl
            clear qO qF
            go_simp
            refine hK _ _ (Below.refl _ _) ?_
            show (_ : Value) = _
            first | rfl | (simp; done) | (simp; omega) | (congr 1; simp; done) | (congr 1; rw [decide_eq_decide]; omega) | exact congrArg Value.bool (nat_bne _ _) | exact congrArg Value.bool (nat_beq _ _)
          refine BOk.cons rfl [2] [] rfl rfl (by kernel_rfl) (by kernel_rfl) (fun qK qa wr hB qO qF hK => ?_) ?_
          · have e49 : qa.tmps[49]? = some (.bool (decide ((tn : Nat) < 0))) := fis qF.1 rfl rfl
            clear qO qF
            go_simp
            exact hK _ _ (Below.refl _ _) (by first | rfl | (show (_ : Value) = _; simp_all; done))
          refine BOk.optT rfl [] [5] rfl 3 false rfl rfl rfl rfl (by kernel_rfl) (by kernel_rfl) (by kernel_rfl) (fun hp hc hP qK qa wr hB qO qF hK => ?_) ?_
          · have e5 : qa.tmps[5]? = some (.pointer (some ⟨w.heap.size, 0, none⟩)) := qO.1.trans rfl
            clear qO qF
            go_simp
            exact hK _ _ (Below.refl _ _) rfl
          refine BOk.optT rfl [4] [] rfl 3 false rfl rfl rfl rfl (by kernel_rfl) (by kernel_rfl) (by kernel_rfl) (fun hp hc hP qK qa wr hB qO qF hK => ?_) ?_
          · have e51 : qa.tmps[51]? = some (.pointer (some ⟨w.heap.size, 0, none⟩)) := fif qF.1 rfl hP rfl
            clear qO qF
            have hx0 := (bcell hB _ _ (World.block_lt_of_cell? _ _ x0)).trans x0
            go_simp
            exact hK _ _ (Below.refl _ _) rfl
          refine BOk.optT rfl [] [0] rfl 3 false rfl rfl rfl rfl (by kernel_rfl) (by kernel_rfl) (by kernel_rfl) (fun hp hc hP qK qa wr hB qO qF hK => ?_) ?_
          · have e0 : qa.tmps[0]? = some (.slice (some ⟨kb, ko, none⟩) rows.length kc) := qO.1.trans rfl
            clear qO qF
            go_simp
            exact hK _ _ (Below.refl _ _) rfl
          refine BOk.optT rfl [6] [] rfl 3 false rfl rfl rfl rfl (by kernel_rfl) (by kernel_rfl) (by kernel_rfl) (fun hp hc hP qK qa wr hB qO qF hK => ?_) ?_
          · have e53 : qa.tmps[53]? = some (.slice (some ⟨kb, ko, none⟩) rows.length kc) := fif qF.1 rfl hP rfl
            clear qO qF
            go_simp
            exact hK _ _ (Below.refl _ _) rfl
          refine BOk.optT rfl [5, 7] [] rfl 3 false rfl rfl rfl rfl (by kernel_rfl) (by kernel_rfl) (by kernel_rfl) (fun hp hc hP qK qa wr hB qO qF hK => ?_) ?_
          · have e52 : qa.tmps[52]? = some (.int .i64 (tn : Nat)) := fif qF.1 rfl hP rfl
            have e54 : qa.tmps[54]? = some (.int .i64 (rows.length : Nat)) := fif qF.2.1 rfl hP rfl
            clear qO qF
            go_simp
            refine hK _ _ (Below.refl _ _) ?_
            show (_ : Value) = _
            first | rfl | (simp; done) | (simp; omega) | (congr 1; simp; done) | (congr 1; rw [decide_eq_decide]; omega) | exact congrArg Value.bool (nat_bne _ _) | exact congrArg Value.bool (nat_beq _ _)
          refine BOk.cons rfl [3, 8] [] rfl rfl (by kernel_rfl) (by kernel_rfl) (fun qK qa wr hB qO qF hK => ?_) ?_
          · have e50 : qa.tmps[50]? = some (.bool (decide ((tn : Nat) < 0))) := fis qF.1 rfl rfl
            obtain ⟨u55, e55, r8⟩ := qF.2.1
            have r8 : u55 = (bif (true && ((decide ((tn : Nat) < 0)) == false)) then .bool (decide ((rows.length : Nat) ≤ (tn : Nat))) else undef) := r8
            clear qO qF
            rcases (Bool.eq_false_or_eq_true ((decide ((tn : Nat) < 0)))).symm with hcc | hcc
            · rw [hcc] at e50
              have e55 : qa.tmps[55]? = some (.bool ((decide ((rows.length : Nat) ≤ (tn : Nat))))) := (show u55 = .bool ((decide ((rows.length : Nat) ≤ (tn : Nat)))) from r8.trans (by (first | rw [hcc] | skip); first | rfl | (rw [hP]; rfl))) ▸ e55
              go_simp
              exact hK _ _ (Below.refl _ _) (by show (_ : Value) = _; first | (rw [hcc]; first | rfl | (simp; done)) | (simp_all; done))
            · rw [hcc] at e50
              go_simp
              exact hK _ _ (Below.refl _ _) (by show (_ : Value) = _; first | (rw [hcc]; first | rfl | (simp; done)) | (simp_all; done))
          refine BOk.cons rfl [9] [] rfl rfl (by kernel_rfl) (by kernel_rfl) (fun qK qa wr hB qO qF hK => ?_) ?_
          · have e56 : qa.tmps[56]? = some (.bool ((decide ((tn : Nat) < 0)) || (decide ((rows.length : Nat) ≤ (tn : Nat))))) := fis qF.1 rfl rfl
            clear qO qF
            go_simp
            exact hK _ _ (Below.refl _ _) (by first | rfl | (show (_ : Value) = _; simp_all; done))
          refine BOk.optT rfl [] [5] rfl 10 false rfl rfl rfl rfl (by kernel_rfl) (by kernel_rfl) (by kernel_rfl) (fun hp hc hP qK qa wr hB qO qF hK => ?_) ?_
          · have e5 : qa.tmps[5]? = some (.pointer (some ⟨w.heap.size, 0, none⟩)) := qO.1.trans rfl
            clear qO qF
            go_simp
            exact hK _ _ (Below.refl _ _) rfl
          refine BOk.optT rfl [11] [] rfl 10 false rfl rfl rfl rfl (by kernel_rfl) (by kernel_rfl) (by kernel_rfl) (fun hp hc hP qK qa wr hB qO qF hK => ?_) ?_
          · have e58 : qa.tmps[58]? = some (.pointer (some ⟨w.heap.size, 1, none⟩)) := fif qF.1 rfl hP rfl
            clear qO qF
            have hx1 := (bcell hB _ _ (World.block_lt_of_cell? _ _ x1)).trans x1
            go_simp
            exact hK _ _ (Below.refl _ _) rfl
          refine BOk.optT rfl [12] [] rfl 10 false rfl rfl rfl rfl (by kernel_rfl) (by kernel_rfl) (by kernel_rfl) (fun hp hc hP qK qa wr hB qO qF hK => ?_) ?_
          · have e59 : qa.tmps[59]? = some (.int .i64 etm) := fif qF.1 rfl hP rfl
            clear qO qF
            go_simp
            refine hK _ _ (Below.refl _ _) ?_
            show (_ : Value) = _
            first | rfl | (simp; done) | (simp; omega) | (congr 1; simp; done) | (congr 1; rw [decide_eq_decide]; omega) | exact congrArg Value.bool (nat_bne _ _) | exact congrArg Value.bool (nat_beq _ _)
          refine BOk.cons rfl [10, 13] [] rfl rfl (by kernel_rfl) (by kernel_rfl) (fun qK qa wr hB qO qF hK => ?_) ?_
          · have e57 : qa.tmps[57]? = some (.bool ((decide ((tn : Nat) < 0)) || (decide ((rows.length : Nat) ≤ (tn : Nat))))) := fis qF.1 rfl rfl
            obtain ⟨u60, e60, r13⟩ := qF.2.1
            have r13 : u60 = (bif (true && (((decide ((tn : Nat) < 0)) || (decide ((rows.length : Nat) ≤ (tn : Nat)))) == false)) then .bool (decide (etm < 0)) else undef) := r13
            clear qO qF
            rcases (Bool.eq_false_or_eq_true (((decide ((tn : Nat) < 0)) || (decide ((rows.length : Nat) ≤ (tn : Nat)))))).symm with hcc | hcc
            · rw [hcc] at e57
              have e60 : qa.tmps[60]? = some (.bool ((decide (etm < 0)))) := (show u60 = .bool ((decide (etm < 0))) from r13.trans (by (first | rw [hcc] | skip); first | rfl | (rw [hP]; rfl))) ▸ e60
              go_simp
              exact hK _ _ (Below.refl _ _) (by show (_ : Value) = _; first | (rw [hcc]; first | rfl | (simp; done)) | (simp_all; done))
            · rw [hcc] at e57
              go_simp
              exact hK _ _ (Below.refl _ _) (by show (_ : Value) = _; first | (rw [hcc]; first | rfl | (simp; done)) | (simp_all; done))
          refine BOk.cons rfl [14] [] rfl rfl (by kernel_rfl) (by kernel_rfl) (fun qK qa wr hB qO qF hK => ?_) ?_
          · have e61 : qa.tmps[61]? = some (.bool (((decide ((tn : Nat) < 0)) || (decide ((rows.length : Nat) ≤ (tn : Nat)))) || (decide (etm < 0)))) := fis qF.1 rfl rfl
            clear qO qF
            go_simp
            exact hK _ _ (Below.refl _ _) (by first | rfl | (show (_ : Value) = _; simp_all; done))
          refine BOk.optT rfl [] [5] rfl 15 false rfl rfl rfl rfl (by kernel_rfl) (by kernel_rfl) (by kernel_rfl) (fun hp hc hP qK qa wr hB qO qF hK => ?_) ?_
          · have e5 : qa.tmps[5]? = some (.pointer (some ⟨w.heap.size, 0, none⟩)) := qO.1.trans rfl
            clear qO qF
            go_simp
            exact hK _ _ (Below.refl _ _) rfl
          refine BOk.optT rfl [16] [] rfl 15 false rfl rfl rfl rfl (by kernel_rfl) (by kernel_rfl) (by kernel_rfl) (fun hp hc hP qK qa wr hB qO qF hK => ?_) ?_
          · have e63 : qa.tmps[63]? = some (.pointer (some ⟨w.heap.size, 1, none⟩)) := fif qF.1 rfl hP rfl
            clear qO qF
            have hx1 := (bcell hB _ _ (World.block_lt_of_cell? _ _ x1)).trans x1
            go_simp
            exact hK _ _ (Below.refl _ _) rfl
          refine BOk.optT rfl [17] [] rfl 15 false rfl rfl rfl rfl (by kernel_rfl) (by kernel_rfl) (by kernel_rfl) (fun hp hc hP qK qa wr hB qO qF hK => ?_) ?_
          · have e64 : qa.tmps[64]? = some (.int .i64 etm) := fif qF.1 rfl hP rfl
            clear qO qF
            go_simp
            refine hK _ _ (Below.refl _ _) ?_
            show (_ : Value) = _
            first | rfl | (simp; done) | (simp; omega) | (congr 1; simp; done) | (congr 1; rw [decide_eq_decide]; omega) | exact congrArg Value.bool (nat_bne _ _) | exact congrArg Value.bool (nat_beq _ _)
          refine BOk.cons rfl [15, 18] [] rfl rfl (by kernel_rfl) (by kernel_rfl) (fun qK qa wr hB qO qF hK => ?_) ?_
          · have e62 : qa.tmps[62]? = some (.bool (((decide ((tn : Nat) < 0)) || (decide ((rows.length : Nat) ≤ (tn : Nat)))) || (decide (etm < 0)))) := fis qF.1 rfl rfl
            obtain ⟨u65, e65, r18⟩ := qF.2.1
            have r18 : u65 = (bif (true && ((((decide ((tn : Nat) < 0)) || (decide ((rows.length : Nat) ≤ (tn : Nat)))) || (decide (etm < 0))) == false)) then .bool (decide (1152921504606846976 < etm)) else undef) := r18
            clear qO qF
            rcases (Bool.eq_false_or_eq_true ((((decide ((tn : Nat) < 0)) || (decide ((rows.length : Nat) ≤ (tn : Nat)))) || (decide (etm < 0))))).symm with hcc | hcc
            · rw [hcc] at e62
              have e65 : qa.tmps[65]? = some (.bool ((decide (1152921504606846976 < etm)))) := (show u65 = .bool ((decide (1152921504606846976 < etm))) from r18.trans (by (first | rw [hcc] | skip); first | rfl | (rw [hP]; rfl))) ▸ e65
              go_simp
              exact hK _ _ (Below.refl _ _) (by show (_ : Value) = _; first | (rw [hcc]; first | rfl | (simp; done)) | (simp_all; done))
            · rw [hcc] at e62
              go_simp
              exact hK _ _ (Below.refl _ _) (by show (_ : Value) = _; first | (rw [hcc]; first | rfl | (simp; done)) | (simp_all; done))
          refine BOk.cons rfl [19] [] rfl rfl (by kernel_rfl) (by kernel_rfl) (fun qK qa wr hB qO qF hK => ?_) ?_
          · have e66 : qa.tmps[66]? = some (.bool ((((decide ((tn : Nat) < 0)) || (decide ((rows.length : Nat) ≤ (tn : Nat)))) || (decide (etm < 0))) || (decide (1152921504606846976 < etm)))) := fis qF.1 rfl rfl
            clear qO qF
            rw [HF.out] at e66
            go_simp
            exact hK _ _ (Below.refl _ _) rfl
          refine BOk.yes rfl [] [5] rfl 20 false rfl rfl rfl (by kernel_rfl) (by kernel_rfl) (by kernel_rfl) (fun qK qa wr hB qO qF hK => ?_) ?_
          · have e5 : qa.tmps[5]? = some (.pointer (some ⟨w.heap.size, 0, none⟩)) := qO.1.trans rfl
            clear qO qF
            go_simp
            exact hK _ _ (Below.refl _ _) rfl
          refine BOk.yes rfl [21] [] rfl 20 false rfl rfl rfl (by kernel_rfl) (by kernel_rfl) (by kernel_rfl) (fun qK qa wr hB qO qF hK => ?_) ?_
          · have e68 : qa.tmps[68]? = some (.pointer (some ⟨w.heap.size, 2, none⟩)) := fis qF.1 rfl rfl
            clear qO qF
            have hx2 := (bcell hB _ _ (World.block_lt_of_cell? _ _ x2)).trans x2
            go_simp
            exact hK _ _ (Below.refl _ _) rfl
          refine BOk.yes rfl [22] [] rfl 20 false rfl rfl rfl (by kernel_rfl) (by kernel_rfl) (by kernel_rfl) (fun qK qa wr hB qO qF hK => ?_) ?_
          · have e69 : qa.tmps[69]? = some (.slice eA eat.length ec) := fis qF.1 rfl rfl
            clear qO qF
            go_simp
            exact hK _ _ (Below.refl _ _) rfl
          refine BOk.yes rfl [] [0] rfl 20 false rfl rfl rfl (by kernel_rfl) (by kernel_rfl) (by kernel_rfl) (fun qK qa wr hB qO qF hK => ?_) ?_
          · have e0 : qa.tmps[0]? = some (.slice (some ⟨kb, ko, none⟩) rows.length kc) := qO.1.trans rfl
            clear qO qF
            go_simp
            exact hK _ _ (Below.refl _ _) rfl
          refine BOk.yes rfl [] [5] rfl 20 false rfl rfl rfl (by kernel_rfl) (by kernel_rfl) (by kernel_rfl) (fun qK qa wr hB qO qF hK => ?_) ?_
          · have e5 : qa.tmps[5]? = some (.pointer (some ⟨w.heap.size, 0, none⟩)) := qO.1.trans rfl
            clear qO qF
            go_simp
            exact hK _ _ (Below.refl _ _) rfl
          refine BOk.yes rfl [25] [] rfl 20 false rfl rfl rfl (by kernel_rfl) (by kernel_rfl) (by kernel_rfl) (fun qK qa wr hB qO qF hK => ?_) ?_
          · have e72 : qa.tmps[72]? = some (.pointer (some ⟨w.heap.size, 0, none⟩)) := fis qF.1 rfl rfl
            clear qO qF
            have hx0 := (bcell hB _ _ (World.block_lt_of_cell? _ _ x0)).trans x0
            go_simp
            exact hK _ _ (Below.refl _ _) rfl
          refine BOk.yes rfl [24, 26] [] rfl 20 false rfl rfl rfl (by kernel_rfl) (by kernel_rfl) (by kernel_rfl) (fun qK qa wr hB qO qF hK => ?_) ?_
          · have e71 : qa.tmps[71]? = some (.slice (some ⟨kb, ko, none⟩) rows.length kc) := fis qF.1 rfl rfl
            have e73 : qa.tmps[73]? = some (.int .i64 (tn : Nat)) := fis qF.2.1 rfl rfl
            clear qO qF
            go_simp
            exact hK _ _ (Below.refl _ _) rfl
          refine BOk.yes rfl [27] [] rfl 20 false rfl rfl rfl (by kernel_rfl) (by kernel_rfl) (by kernel_rfl) (fun qK qa wr hB qO qF hK => ?_) ?_
          · have e74 : qa.tmps[74]? = some (.pointer (some ⟨kb, ko + tn, none⟩)) := fis qF.1 rfl rfl
            clear qO qF
            have hck := (bcell hB _ _ (World.block_lt_of_cell? _ _ ck)).trans ck
            go_simp
            exact hK _ _ (Below.refl _ _) rfl
          refine BOk.yes rfl [28] [] rfl 20 false rfl rfl rfl (by kernel_rfl) (by kernel_rfl) (by kernel_rfl) (fun qK qa wr hB qO qF hK => ?_) ?_
          · have e75 : qa.tmps[75]? = some (.slice rA rl.length rc) := fis qF.1 rfl rfl
            clear qO qF
            go_simp
            exact hK _ _ (Below.refl _ _) rfl
          refine BOk.yes rfl [23, 29] [] rfl 20 false rfl rfl rfl (by kernel_rfl) (by kernel_rfl) (by kernel_rfl) (fun qK qa wr hB qO qF hK => ?_) ?_
          · have e70 : qa.tmps[70]? = some (.int .i64 (eat.length : Nat)) := fis qF.1 rfl rfl
            have e76 : qa.tmps[76]? = some (.int .i64 (rl.length : Nat)) := fis qF.2.1 rfl rfl
            clear qO qF
            go_simp
            refine hK _ _ (Below.refl _ _) ?_
            show (_ : Value) = _
            first | rfl | (simp; done) | (simp; omega) | (congr 1; simp; done) | (congr 1; rw [decide_eq_decide]; omega) | exact congrArg Value.bool (nat_bne _ _) | exact congrArg Value.bool (nat_beq _ _)
          refine BOk.cons rfl [20, 30] [] rfl rfl (by kernel_rfl) (by kernel_rfl) (fun qK qa wr hB qO qF hK => ?_) ?_
          · have e67 : qa.tmps[67]? = some (.bool false) := fis qF.1 rfl rfl
            have e77 : qa.tmps[77]? = some (.bool (((eat.length : Nat) != (rl.length : Nat)))) := fis qF.2.1 rfl rfl
            clear qO qF
            go_simp
            refine hK _ _ (Below.refl _ _) ?_
            show (_ : Value) = _
            first | rfl | (simp; done) | (simp; omega)
          exact BOk.nil
        intro vals wr hl hB hR
        obtain ⟨qc0, qd0, rfl, hc0, hd0⟩ := split_len 24 8 vals (by first | exact hl | simpa using hl)
        match qc0, hc0 with
        | [y47, y48, y49, y50, y51, y52, y53, y54, y55, y56, y57, y58, y59, y60, y61, y62, y63, y64, y65, y66, y67, y68, y69, y70], _ =>
        match qd0, hd0 with
        | [y71, y72, y73, y74, y75, y76, y77, y78], _ =>
        have r28 : y75 = .slice rA rl.length rc := hR 28 _ rfl
        subst r28
        have r31 : y78 = .bool (((eat.length : Nat) != (rl.length : Nat))) := hR 31 _ rfl
        subst r31
        clear hR
        simp only [List.cons_append, List.nil_append, putAll, Act.put, List.setIfInBounds_toArray, List.set_cons_zero, List.set_cons_succ]
        have k1 := k0.old hB
        have hbf : Below w.heap.size w wr := hbe.trans (hB.mono hbe.size)
        have ck2 := (bcell hB _ _ (World.block_lt_of_cell? _ _ ck)).trans ck
        have XR2 := Lib.hid (XR.out.below (hB.mono hbe.size))
        clear x0 x1 x2 hB k0 ck XR HF
        cases hlen : (eat.length != rl.length)
        · have hlen : eat.length = rl.length := by simpa using hlen
          have hres2 : RES = attrsOk sn rl eat := by rw [HRS.out]; unfold rowFits; rw [decide_eq_true hlen]; rfl
          have HR2 : Hid (RES = attrsOk sn (rl.drop 0) (eat.drop 0)) := Lib.hid hres2
          have HLEN := Lib.hid hlen
          have hel := EO.out.len
          have hel : eat.length ≤ 8796093021952 := hel
          clear hres2 hlen
          have y2 := k1.cell 2
          obtain ⟨wm, rfl⟩ : ∃ wm : World, wm = wr := ⟨_, rfl⟩
          go_wp2
          clear y2
          go_loopw [82] (fun i wr => ∃ k : Nat, k ≤ eat.length ∧ i = .int .i64 k ∧ Below wm.heap.size wm wr ∧ Hid (RES = attrsOk sn (rl.drop k) (eat.drop k))) (fun i _ => eat.length - (intOf i).toNat)
          case atStart => exact ⟨0, Nat.zero_le _, rfl, Below.refl _ _, HR2⟩
          case round =>
            obtain ⟨k, hk, rfl, hbl, hrec⟩ := hrel
            obtain ⟨wl, rfl⟩ : ∃ wl : World, wl = wr := ⟨_, rfl⟩
            by_cases hlk : k < eat.length
            · as_aux_lemma =>
              have hrk : k < rl.length := by rw [← HLEN.out]; exact hlk
              obtain ⟨vb, vo, rfl, hvb, hvc⟩ := (((show Rd w w.heap.size eA (eat.flatMap V.cells) from EO.out.rd).below hbf).below (hbl.mono hbf.size)).elem (n := 2) (fun _ => rfl) (by omega) hlk
              obtain ⟨rb, ro, rfl, hrb, hrc⟩ := ((show Rd wm w.heap.size rA (rl.map fun n : Int => Value.int .i64 n) from XR2.out).below (hbl.mono hbf.size)).elem1 hrk
              have hfit : eat[k].fits := EO.out.fits _ (List.getElem_mem _)
              have hrec2 := hrec.out
              rw [attrsOk_drop sn k rl eat HLEN.out.symm hlk hrk] at hrec2
              have HREC := Lib.hid hrec2
              clear hrec hrec2
              generalize eat[k] = x at *
              generalize rl[k] = kk at *
              have hv0 : wl.cell? ⟨vb, vo + k * 2, none⟩ = some (.int .i64 x.k) := hvc 0 _ rfl
              have hv1 : wl.cell? ⟨vb, vo + k * 2 + 1, none⟩ = some (.int .u64 x.b) := hvc 1 _ rfl
              clear hvc
              have hbW : Below wl.heap.size wl (wl.alloc (.cells #[.int .i64 x.k, .int .u64 x.b] 57)) := (Below.refl _ _).alloc (Nat.le_refl _) _
              have kv := Bk.new wl 57 #[.int .i64 x.k, .int .u64 x.b]
              have hkI : (k : Int) < (eat.length : Int) := by omega
              have hrI : (k : Int) < (rl.length : Int) := by omega
              go_wp2_with fail
              generalize wl.alloc (.cells #[.int .i64 x.k, .int .u64 x.b] 57) = W at *
              have hbM : Below wm.heap.size wm W := hbl.trans (hbW.mono hbl.size)
              have c0 := (k1.old hbM).cell 0
              have ck := (bcell hbM _ _ (World.block_lt_of_cell? _ _ ck2)).trans ck2
              have cr := (bcell hbW _ _ (World.block_lt_of_cell? _ _ hrc)).trans hrc
              have v0 := kv.cell 0
              have v1 := kv.cell 1
              have hsz : 0 ≤ (sn : Int) := by omega
              clear hv0 hv1 hrc hbW hbl kv
              refine wp_region_b (by kernel_rfl) (fun qk => (fitR20 rows kb ko kc tn sn rb ro rc rl k kk x w wl).getD qk .any) (by kernel_rfl) ?_ ?_
              · refine BOk.cons rfl [] [12] rfl rfl (by kernel_rfl) (by kernel_rfl) (fun qK qa wr hB qO qF hK => ?_) ?_
                · have e12 : qa.tmps[12]? = some (.pointer (some ⟨wl.heap.size, 0, none⟩)) := qO.1.trans rfl
                  clear qO qF
                  go_simp
                  exact hK _ _ (Below.refl _ _) rfl
                refine BOk.cons rfl [0] [] rfl rfl (by kernel_rfl) (by kernel_rfl) (fun qK qa wr hB qO qF hK => ?_) ?_
                · have e87 : qa.tmps[87]? = some (.pointer (some ⟨wl.heap.size, 0, none⟩)) := fis qF.1 rfl rfl
                  clear qO qF
                  have hv0 := (bcell hB _ _ (World.block_lt_of_cell? _ _ v0)).trans v0
                  go_simp
                  exact hK _ _ (Below.refl _ _) rfl
                refine BOk.cons rfl [] [0] rfl rfl (by kernel_rfl) (by kernel_rfl) (fun qK qa wr hB qO qF hK => ?_) ?_
                · have e0 : qa.tmps[0]? = some (.slice (some ⟨kb, ko, none⟩) rows.length kc) := qO.1.trans rfl
                  clear qO qF
                  go_simp
                  exact hK _ _ (Below.refl _ _) rfl
                refine BOk.cons rfl [] [5] rfl rfl (by kernel_rfl) (by kernel_rfl) (fun qK qa wr hB qO qF hK => ?_) ?_
                · have e5 : qa.tmps[5]? = some (.pointer (some ⟨w.heap.size, 0, none⟩)) := qO.1.trans rfl
                  clear qO qF
                  go_simp
                  exact hK _ _ (Below.refl _ _) rfl
                refine BOk.cons rfl [3] [] rfl rfl (by kernel_rfl) (by kernel_rfl) (fun qK qa wr hB qO qF hK => ?_) ?_
                · have e90 : qa.tmps[90]? = some (.pointer (some ⟨w.heap.size, 0, none⟩)) := fis qF.1 rfl rfl
                  clear qO qF
                  have hc0 := (bcell hB _ _ (World.block_lt_of_cell? _ _ c0)).trans c0
                  go_simp
                  exact hK _ _ (Below.refl _ _) rfl
                refine BOk.cons rfl [2, 4] [] rfl rfl (by kernel_rfl) (by kernel_rfl) (fun qK qa wr hB qO qF hK => ?_) ?_
                · have e89 : qa.tmps[89]? = some (.slice (some ⟨kb, ko, none⟩) rows.length kc) := fis qF.1 rfl rfl
                  have e91 : qa.tmps[91]? = some (.int .i64 (tn : Nat)) := fis qF.2.1 rfl rfl
                  clear qO qF
                  go_simp
                  exact hK _ _ (Below.refl _ _) rfl
                refine BOk.cons rfl [5] [] rfl rfl (by kernel_rfl) (by kernel_rfl) (fun qK qa wr hB qO qF hK => ?_) ?_
                · have e92 : qa.tmps[92]? = some (.pointer (some ⟨kb, ko + tn, none⟩)) := fis qF.1 rfl rfl
                  clear qO qF
                  have hck := (bcell hB _ _ (World.block_lt_of_cell? _ _ ck)).trans ck
                  go_simp
                  exact hK _ _ (Below.refl _ _) rfl
                refine BOk.cons rfl [] [11] rfl rfl (by kernel_rfl) (by kernel_rfl) (fun qK qa wr hB qO qF hK => ?_) ?_
                · have e11 : qa.tmps[11]? = some (.int .i64 (k : Nat)) := qO.1.trans rfl
                  clear qO qF
                  go_simp
                  exact hK _ _ (Below.refl _ _) rfl
                refine BOk.cons rfl [6, 7] [] rfl rfl (by kernel_rfl) (by kernel_rfl) (fun qK qa wr hB qO qF hK => ?_) ?_
                · have e93 : qa.tmps[93]? = some (.slice (some ⟨rb, ro, none⟩) rl.length rc) := fis qF.1 rfl rfl
                  have e94 : qa.tmps[94]? = some (.int .i64 (k : Nat)) := fis qF.2.1 rfl rfl
                  clear qO qF
                  go_simp
                  exact hK _ _ (Below.refl _ _) rfl
                refine BOk.cons rfl [8] [] rfl rfl (by kernel_rfl) (by kernel_rfl) (fun qK qa wr hB qO qF hK => ?_) ?_
                · have e95 : qa.tmps[95]? = some (.pointer (some ⟨rb, ro + k, none⟩)) := fis qF.1 rfl rfl
                  clear qO qF
                  have hcr := (bcell hB _ _ (World.block_lt_of_cell? _ _ cr)).trans cr
                  go_simp
                  exact hK _ _ (Below.refl _ _) rfl
                refine BOk.cons rfl [1, 9] [] rfl rfl (by kernel_rfl) (by kernel_rfl) (fun qK qa wr hB qO qF hK => ?_) ?_
                · have e88 : qa.tmps[88]? = some (.int .i64 x.k) := fis qF.1 rfl rfl
                  have e96 : qa.tmps[96]? = some (.int .i64 kk) := fis qF.2.1 rfl rfl
                  clear qO qF
                  go_simp
                  refine hK _ _ (Below.refl _ _) ?_
                  show (_ : Value) = _
                  first | rfl | (simp; done) | (simp; omega) | (congr 1; simp; done) | (congr 1; rw [decide_eq_decide]; omega) | exact congrArg Value.bool (nat_bne _ _) | exact congrArg Value.bool (nat_beq _ _)
                refine BOk.cons rfl [10] [] rfl rfl (by kernel_rfl) (by kernel_rfl) (fun qK qa wr hB qO qF hK => ?_) ?_
                · have e97 : qa.tmps[97]? = some (.bool ((x.k != kk))) := fis qF.1 rfl rfl
                  clear qO qF
                  go_simp
                  exact hK _ _ (Below.refl _ _) (by first | rfl | (show (_ : Value) = _; simp_all; done))
                refine BOk.optT rfl [] [12] rfl 11 false rfl rfl rfl rfl (by kernel_rfl) (by kernel_rfl) (by kernel_rfl) (fun hp hc hP qK qa wr hB qO qF hK => ?_) ?_
                · have e12 : qa.tmps[12]? = some (.pointer (some ⟨wl.heap.size, 0, none⟩)) := qO.1.trans rfl
                  clear qO qF
                  have hv0 := (bcell hB _ _ (World.block_lt_of_cell? _ _ v0)).trans v0
                  have hv1 := (bcell hB _ _ (World.block_lt_of_cell? _ _ v1)).trans v1
                  go_simp
                  exact hK _ _ (Below.refl _ _) rfl
                refine BOk.optT rfl [12] [] rfl 11 false rfl rfl rfl rfl (by kernel_rfl) (by kernel_rfl) (by kernel_rfl) (fun hp hc hP qK qa wr hB qO qF hK => ?_) ?_
                · have e99 : qa.tmps[99]? = some (.agg #[.int .i64 x.k, .int .u64 x.b]) := fif qF.1 rfl hP rfl
                  clear qO qF
                  go_simp
                  go_at_call 57
                  refine (pclean_any x hfit _).mono ?_
                  rintro e9 w3 ⟨rfl, hb3⟩
                  simp only [V.v]
                  exact hK _ _ hb3 rfl
                refine BOk.optT rfl [] [12] rfl 11 false rfl rfl rfl rfl (by kernel_rfl) (by kernel_rfl) (by kernel_rfl) (fun hp hc hP qK qa wr hB qO qF hK => ?_) ?_
                · have e12 : qa.tmps[12]? = some (.pointer (some ⟨wl.heap.size, 0, none⟩)) := qO.1.trans rfl
                  clear qO qF
                  have hv0 := (bcell hB _ _ (World.block_lt_of_cell? _ _ v0)).trans v0
                  have hv1 := (bcell hB _ _ (World.block_lt_of_cell? _ _ v1)).trans v1
                  go_simp
                  exact hK _ _ (Below.refl _ _) rfl
                refine BOk.optT rfl [13, 14] [] rfl 11 false rfl rfl rfl rfl (by kernel_rfl) (by kernel_rfl) (by kernel_rfl) (fun hp hc hP qK qa wr hB qO qF hK => ?_) ?_
                · have e100 : qa.tmps[100]? = some (.agg #[.int .i64 (clean x).k, .int .u64 (clean x).b]) := fif qF.1 rfl hP rfl
                  have e101 : qa.tmps[101]? = some (.agg #[.int .i64 x.k, .int .u64 x.b]) := fif qF.2.1 rfl hP rfl
                  clear qO qF
                  have hnq := neq_V (clean x).k (clean x).b x.k x.b
                  go_simp
                  refine hK _ _ (Below.refl _ _) ?_
                  show (_ : Value) = _
                  exact congrArg Value.bool (clean_text x)
                refine BOk.cons rfl [11, 15] [] rfl rfl (by kernel_rfl) (by kernel_rfl) (fun qK qa wr hB qO qF hK => ?_) ?_
                · have e98 : qa.tmps[98]? = some (.bool ((x.k != kk))) := fis qF.1 rfl rfl
                  obtain ⟨u102, e102, r15⟩ := qF.2.1
                  have r15 : u102 = (bif (true && (((x.k != kk)) == false)) then .bool (!cleanB x) else undef) := r15
                  clear qO qF
                  rcases (Bool.eq_false_or_eq_true (((x.k != kk)))).symm with hcc | hcc
                  · rw [hcc] at e98
                    have e102 : qa.tmps[102]? = some (.bool ((!cleanB x))) := (show u102 = .bool ((!cleanB x)) from r15.trans (by (first | rw [hcc] | skip); first | rfl | (rw [hP]; rfl))) ▸ e102
                    go_simp
                    exact hK _ _ (Below.refl _ _) (by show (_ : Value) = _; first | (rw [hcc]; first | rfl | (simp; done)) | (simp_all; done))
                  · rw [hcc] at e98
                    go_simp
                    exact hK _ _ (Below.refl _ _) (by show (_ : Value) = _; first | (rw [hcc]; first | rfl | (simp; done)) | (simp_all; done))
                refine BOk.cons rfl [16] [] rfl rfl (by kernel_rfl) (by kernel_rfl) (fun qK qa wr hB qO qF hK => ?_) ?_
                · have e103 : qa.tmps[103]? = some (.bool (((x.k != kk)) || (!cleanB x))) := fis qF.1 rfl rfl
                  clear qO qF
                  go_simp
                  exact hK _ _ (Below.refl _ _) (by first | rfl | (show (_ : Value) = _; simp_all; done))
                refine BOk.optT rfl [] [12] rfl 17 false rfl rfl rfl rfl (by kernel_rfl) (by kernel_rfl) (by kernel_rfl) (fun hp hc hP qK qa wr hB qO qF hK => ?_) ?_
                · have e12 : qa.tmps[12]? = some (.pointer (some ⟨wl.heap.size, 0, none⟩)) := qO.1.trans rfl
                  clear qO qF
                  go_simp
                  exact hK _ _ (Below.refl _ _) rfl
                refine BOk.optT rfl [18] [] rfl 17 false rfl rfl rfl rfl (by kernel_rfl) (by kernel_rfl) (by kernel_rfl) (fun hp hc hP qK qa wr hB qO qF hK => ?_) ?_
                · have e105 : qa.tmps[105]? = some (.pointer (some ⟨wl.heap.size, 0, none⟩)) := fif qF.1 rfl hP rfl
                  clear qO qF
                  have hv0 := (bcell hB _ _ (World.block_lt_of_cell? _ _ v0)).trans v0
                  go_simp
                  exact hK _ _ (Below.refl _ _) rfl
                refine BOk.optT rfl [19] [] rfl 17 false rfl rfl rfl rfl (by kernel_rfl) (by kernel_rfl) (by kernel_rfl) (fun hp hc hP qK qa wr hB qO qF hK => ?_) ?_
                · have e106 : qa.tmps[106]? = some (.int .i64 x.k) := fif qF.1 rfl hP rfl
                  clear qO qF
                  go_simp
                  refine hK _ _ (Below.refl _ _) ?_
                  show (_ : Value) = _
                  first | rfl | (simp; done) | (simp; omega) | (congr 1; simp; done) | (congr 1; rw [decide_eq_decide]; omega) | exact congrArg Value.bool (nat_bne _ _) | exact congrArg Value.bool (nat_beq _ _)
                refine BOk.optT rfl [20] [] rfl 17 false rfl rfl rfl rfl (by kernel_rfl) (by kernel_rfl) (by kernel_rfl) (fun hp hc hP qK qa wr hB qO qF hK => ?_) ?_
                · have e107 : qa.tmps[107]? = some (.bool ((x.k == 3))) := fif qF.1 rfl hP rfl
                  clear qO qF
                  go_simp
                  exact hK _ _ (Below.refl _ _) (by first | rfl | (show (_ : Value) = _; simp_all; done))
                refine BOk.optX rfl [] [12] rfl 21 true rfl rfl rfl rfl (by kernel_rfl) (by kernel_rfl) (by kernel_rfl) (fun hp hc hP qK qa wr hB qO qF hK => ?_) ?_
                · have e12 : qa.tmps[12]? = some (.pointer (some ⟨wl.heap.size, 0, none⟩)) := qO.1.trans rfl
                  clear qO qF
                  go_simp
                  exact hK _ _ (Below.refl _ _) rfl
                refine BOk.optX rfl [22] [] rfl 21 true rfl rfl rfl rfl (by kernel_rfl) (by kernel_rfl) (by kernel_rfl) (fun hp hc hP qK qa wr hB qO qF hK => ?_) ?_
                · have e109 : qa.tmps[109]? = some (.pointer (some ⟨wl.heap.size, 1, none⟩)) := fif qF.1 rfl hP rfl
                  clear qO qF
                  have hv1 := (bcell hB _ _ (World.block_lt_of_cell? _ _ v1)).trans v1
                  go_simp
                  exact hK _ _ (Below.refl _ _) rfl
                refine BOk.optX rfl [] [1] rfl 21 true rfl rfl rfl rfl (by kernel_rfl) (by kernel_rfl) (by kernel_rfl) (fun hp hc hP qK qa wr hB qO qF hK => ?_) ?_
                · have e1 : qa.tmps[1]? = some (.int .i64 (sn : Nat)) := qO.1.trans rfl
                  clear qO qF
                  go_simp
                  exact hK _ _ (Below.refl _ _) rfl
                refine BOk.optX rfl [24] [] rfl 21 true rfl rfl rfl rfl (by kernel_rfl) (by kernel_rfl) (by kernel_rfl) (fun hp hc hP qK qa wr hB qO qF hK => ?_) ?_
                · have e111 : qa.tmps[111]? = some (.int .i64 (sn : Nat)) := fif qF.1 rfl hP rfl
                  clear qO qF
                  go_simp
                  exact hK _ _ (Below.refl _ _) (by first | rfl | exact congrArg (Value.int .u64) (u64w sn (by omega)))
                refine BOk.optX rfl [23, 25] [] rfl 21 true rfl rfl rfl rfl (by kernel_rfl) (by kernel_rfl) (by kernel_rfl) (fun hp hc hP qK qa wr hB qO qF hK => ?_) ?_
                · have e110 : qa.tmps[110]? = some (.int .u64 x.b) := fif qF.1 rfl hP rfl
                  have e112 : qa.tmps[112]? = some (.int .u64 (sn : Nat)) := fif qF.2.1 rfl hP rfl
                  clear qO qF
                  go_simp
                  refine hK _ _ (Below.refl _ _) ?_
                  show (_ : Value) = _
                  first | rfl | (simp; done) | (simp; omega) | (congr 1; simp; done) | (congr 1; rw [decide_eq_decide]; omega) | exact congrArg Value.bool (nat_bne _ _) | exact congrArg Value.bool (nat_beq _ _)
                refine BOk.optT rfl [21, 26] [] rfl 17 false rfl rfl rfl rfl (by kernel_rfl) (by kernel_rfl) (by kernel_rfl) (fun hp hc hP qK qa wr hB qO qF hK => ?_) ?_
                · have e108 : qa.tmps[108]? = some (.bool ((x.k == 3))) := fif qF.1 rfl hP rfl
                  obtain ⟨u113, e113, r26⟩ := qF.2.1
                  have r26 : u113 = (bif ((true && ((((x.k != kk)) || (!cleanB x)) == false)) && (((x.k == 3)) == true)) then .bool (decide ((sn : Nat) ≤ x.b)) else undef) := r26
                  clear qO qF
                  rcases (Bool.eq_false_or_eq_true (((x.k == 3)))).symm with hcc | hcc
                  · rw [hcc] at e108
                    go_simp
                    exact hK _ _ (Below.refl _ _) (by show (_ : Value) = _; first | (rw [hcc]; first | rfl | (simp; done)) | (simp_all; done))
                  · rw [hcc] at e108
                    have e113 : qa.tmps[113]? = some (.bool ((decide ((sn : Nat) ≤ x.b)))) := (show u113 = .bool ((decide ((sn : Nat) ≤ x.b))) from r26.trans (by (first | rw [hcc] | skip); first | rfl | (rw [hP]; rfl))) ▸ e113
                    go_simp
                    exact hK _ _ (Below.refl _ _) (by show (_ : Value) = _; first | (rw [hcc]; first | rfl | (simp; done)) | (simp_all; done))
                refine BOk.cons rfl [17, 27] [] rfl rfl (by kernel_rfl) (by kernel_rfl) (fun qK qa wr hB qO qF hK => ?_) ?_
                · have e104 : qa.tmps[104]? = some (.bool (((x.k != kk)) || (!cleanB x))) := fis qF.1 rfl rfl
                  obtain ⟨u114, e114, r27⟩ := qF.2.1
                  have r27 : u114 = (bif (true && ((((x.k != kk)) || (!cleanB x)) == false)) then .bool (((x.k == 3)) && (decide ((sn : Nat) ≤ x.b))) else undef) := r27
                  clear qO qF
                  rcases (Bool.eq_false_or_eq_true ((((x.k != kk)) || (!cleanB x)))).symm with hcc | hcc
                  · rw [hcc] at e104
                    have e114 : qa.tmps[114]? = some (.bool ((((x.k == 3)) && (decide ((sn : Nat) ≤ x.b))))) := (show u114 = .bool ((((x.k == 3)) && (decide ((sn : Nat) ≤ x.b)))) from r27.trans (by (first | rw [hcc] | skip); first | rfl | (rw [hP]; rfl))) ▸ e114
                    go_simp
                    exact hK _ _ (Below.refl _ _) (by show (_ : Value) = _; first | (rw [hcc]; first | rfl | (simp; done)) | (simp_all; done))
                  · rw [hcc] at e104
                    go_simp
                    exact hK _ _ (Below.refl _ _) (by show (_ : Value) = _; first | (rw [hcc]; first | rfl | (simp; done)) | (simp_all; done))
                exact BOk.nil
              intro vals wr hl hB hR
              match vals, hl with
              | [y87, y88, y89, y90, y91, y92, y93, y94, y95, y96, y97, y98, y99, y100, y101, y102, y103, y104, y105, y106, y107, y108, y109, y110, y111, y112, y113, y114, y115], _ =>
              have r28 : y115 = .bool ((((x.k != kk)) || (!cleanB x)) || (((x.k == 3)) && (decide ((sn : Nat) ≤ x.b)))) := hR 28 _ rfl
              subst r28
              clear hR
              simp only [List.cons_append, List.nil_append, putAll, Act.put, List.setIfInBounds_toArray, List.set_cons_zero, List.set_cons_succ]
              have hbR := hbM.trans (hB.mono hbM.size)
              clear hB hbM c0 ck cr v0 v1
              rw [attr_text]
              cases hat : attrOk sn kk x
              · rw [hat, Bool.false_and] at HREC
                clear hat
                go_wp2
                go_ret
                exact ⟨ret_bool HREC.out.symm, hbf.trans (hbR.mono hbf.size)⟩
              · rw [hat, Bool.true_and] at HREC
                clear hat
                go_wp2
                go_roundw
                case rel => exact ⟨k + 1, by omega, by go_num, hbR, HREC⟩
                case measure => simp [intOf]; omega
            · as_aux_lemma =>
              obtain rfl : k = eat.length := by omega
              have hend : RES = true := by rw [hrec.out, attrsOk_end _ _ _ _ (by rw [HLEN.out]; exact Nat.le_refl _) (Nat.le_refl _)]
              have HEND := Lib.hid hend
              clear hrec hend
              go_wp2
              go_ret
              exact ⟨ret_bool HEND.out.symm, hbf.trans (hbl.mono hbf.size)⟩
        · have hne : eat.length ≠ rl.length := by simpa using hlen
          clear hlen
          go_wp2
          go_ret
          refine ⟨ret_bool ?_, hbf⟩
          rw [HRS.out]
          unfold rowFits
          rw [decide_eq_false hne]; rfl
end
theorem pfits_any (rows : List RowV) (KA : Option Addr) (kc : Nat) (n : Int) (e : EventV) (w : World) (hr : Rd w w.heap.size KA (rows.flatMap RowV.cells)) (hrow : ∀ r ∈ rows, r.ok w w.heap.size) (he : e.ok w w.heap.size) :
    Calls Tryz.prog 36 #[.slice KA rows.length kc, .int .i64 n, e.val] w fun r w' => r = .returned (.bool (fitsB (rows.map (·.l)) n e.sig)) ∧ Below w.heap.size w w' := by
  cases h : ((decide (16 < (rows.map (·.l)).length) || decide (n < 0)) || decide (64 < n))
  · exact pfits_good rows KA kc n e w hr hrow he h
  · rw [badCount _ _ _ h]
    exact pfits_bad rows KA kc n e w h
end Go.Proofs.YtpakcicbojbonaaGreatDoor
