/- Contracts of the document's Product and whole. No conditions. -/
import Derived.Test.YtkfpmoilfillmaaValT
namespace Go.Proofs.Ytkfpmoilfillmaa
open Go.RowKit
set_option linter.unusedSimpArgs false
set_option linter.unusedVariables false

def prodOk (a b : Int) : Bool := (fitI (a * b)).isSome
def ProdPost (a b : Int) (w : World) (e : Ending) (w' : World) : Prop := ∃ s : Int, e = .returned (.tuple #[.int .i64 s, .bool (prodOk a b)]) ∧ (prodOk a b = true → s = a * b) ∧ w = w'
theorem prod_back {a b : Int} (ha : I64 a) (hb : I64 b) (h0 : b ≠ 0) (h1 : b ≠ -1) (h : wrap64 ((wrap64 (a * b)).tdiv b) = a) : I64 (a * b) := by
  rw [tdiv_in (i64_wrap _) h0 h1] at h
  have e := Int.mul_tdiv_add_tmod (wrap64 (a * b)) b
  rw [h] at e
  have hr : ((wrap64 (a * b)).tmod b).natAbs < b.natAbs := by rw [Int.natAbs_tmod]; exact Nat.mod_lt _ (by omega)
  have hw := i64_wrap (a * b)
  rw [Int.mul_comm b a] at e
  generalize (wrap64 (a * b)).tmod b = r at *
  have hx : wrap64 (a * b) = (a * b + 9223372036854775808) % 18446744073709551616 - 9223372036854775808 := by unfold wrap64; omega
  generalize a * b = p at *
  unfold I64 at *
  omega
theorem prod_ok {a b : Int} : prodOk a b = true ↔ I64 (a * b) := by
  unfold prodOk fitI I64
  split
  · simp [*]
  · simp; omega
theorem prod_no {a b : Int} (h : ¬ I64 (a * b)) : prodOk a b = false := by
  rw [← Bool.not_eq_true]; exact fun hh => h (prod_ok.1 hh)
set_option maxRecDepth 100000 in
set_option maxHeartbeats 2000000 in
theorem rprod_any (a b : Int) (ha : I64 a) (hb : I64 b) (w : World) : Calls Try.prog 46 #[.int .i64 a, .int .i64 b] w (ProdPost a b w) := by
  have ha' := ha
  have hb' := hb
  unfold I64 at ha' hb'
  by_cases a0 : a = 0
  · subst a0
    have ok : prodOk 0 b = true := by unfold prodOk; rw [Int.zero_mul]; rfl
    unfold ProdPost
    rw [ok]
    go_enter Try.func46, Try.ntmps46
    go_wp2_with fail
    go_ret2
    exact ⟨0, rfl, fun _ => by rw [Int.zero_mul], rfl⟩
  have fa0 : (a == 0) = false := beq_eq_false_iff_ne.2 a0
  by_cases b0 : b = 0
  · subst b0
    have ok : prodOk a 0 = true := by unfold prodOk; rw [Int.mul_zero]; rfl
    unfold ProdPost
    rw [ok]
    clear a0
    go_enter Try.func46, Try.ntmps46
    go_wp2_with fail
    go_ret2
    exact ⟨0, rfl, fun _ => by rw [Int.mul_zero], rfl⟩
  have fb0 : (b == 0) = false := beq_eq_false_iff_ne.2 b0
  by_cases a1 : a = -1
  · subst a1
    clear a0
    have ok : prodOk (-1) b = (b != -9223372036854775808) := by
      rw [Bool.eq_iff_iff, prod_ok]; unfold I64; rw [bne_iff_ne]; omega
    unfold ProdPost
    rw [ok]
    have HB := Lib.hid hb'
    clear hb' ha' ha hb b0 ok
    go_enter Try.func46, Try.ntmps46
    go_wp2_with fail
    go_ret2
    refine ⟨_, rfl, fun h => ?_, rfl⟩
    have := HB.out
    rw [bne_iff_ne] at h
    unfold wrap64; omega
  have fa1 : (a == -1) = false := beq_eq_false_iff_ne.2 a1
  by_cases b1 : b = -1
  · subst b1
    have ok : prodOk a (-1) = (a != -9223372036854775808) := by
      rw [Bool.eq_iff_iff, prod_ok]; unfold I64; rw [bne_iff_ne]; omega
    unfold ProdPost
    rw [ok]
    have HA := Lib.hid ha'
    clear hb' ha' ha hb b0 ok a0 a1
    go_enter Try.func46, Try.ntmps46
    go_wp2_with fail
    go_ret2
    refine ⟨_, rfl, fun h => ?_, rfl⟩
    have := HA.out
    rw [bne_iff_ne] at h
    unfold wrap64; omega
  have fb1 : (b == -1) = false := beq_eq_false_iff_ne.2 b1
  have HB := Lib.hid (@prod_back a b ha hb b0 b1)
  have HA := Lib.hid ha
  have HT : Hid (I64 (a * b) → wrap64 (a * b) = a * b ∧ wrap64 ((wrap64 (a * b)).tdiv b) = a) := Lib.hid fun h => by
    have e : wrap64 (a * b) = a * b := by unfold I64 at h; unfold wrap64; omega
    rw [e, Int.mul_tdiv_cancel a b0]
    exact ⟨rfl, by unfold I64 at ha; unfold wrap64; omega⟩
  have HS : Hid (a * b = -9223372036854775808 → (!decide (a < 0) == decide (b < 0)) = true) := Lib.hid fun h => by
    by_cases h1 : a < 0 <;> by_cases h2 : b < 0 <;> simp [h1, h2]
    · have := Int.mul_pos_of_neg_of_neg h1 h2; omega
    · have := Int.mul_nonneg (show 0 ≤ a by omega) (show 0 ≤ b by omega); omega
  have HZ := Lib.hid b0
  clear ha' hb' a0 a1 b1 ha hb
  unfold ProdPost
  generalize hok : prodOk a b = ok
  have HO := Lib.hid hok
  clear hok
  go_enter Try.func46, Try.ntmps46
  go_wp2_with fail
  all_goals go_ret2
  · have hq : wrap64 ((wrap64 (a * b)).tdiv b) = a := by assumption
    have hm : wrap64 (a * b) = -9223372036854775808 := by assumption
    have h1 := HB.out hq
    have h2 := prod_ok.2 h1
    rw [HO.out] at h2
    subst h2
    have h3 := (HT.out h1).1
    rw [hm] at h3
    refine ⟨-9223372036854775808, ?_, fun _ => h3, rfl⟩
    have h4 := HS.out h3.symm
    simp only [h4]
    rfl
  · have hq : wrap64 ((wrap64 (a * b)).tdiv b) = a := by assumption
    have h1 := HB.out hq
    have h2 := prod_ok.2 h1
    rw [HO.out] at h2
    subst h2
    exact ⟨_, rfl, fun _ => (HT.out h1).1, rfl⟩
  · have hq : ¬ wrap64 ((wrap64 (a * b)).tdiv b) = a := by assumption
    have h2 := prod_no (a := a) (b := b) fun h => hq (HT.out h).2
    rw [HO.out] at h2
    subst h2
    exact ⟨_, rfl, fun h => Bool.noConfusion h, rfl⟩
set_option maxRecDepth 100000 in
set_option maxHeartbeats 1000000 in
theorem rwhole_add1 (a b : Int) (h1 : 0 ≤ b) (h2 : a ≤ 9223372036854775807 - b) (h3 : -9223372036854775808 ≤ a) (h4 : a < 9223372036854775808) (h5 : -9223372036854775808 ≤ b) (h6 : b < 9223372036854775808) (w : World) : Calls Try.prog 32 #[.int .i64 1, .int .i64 a, .int .i64 b] w fun e w' => e = .returned (intV (a + b)).v ∧ Below w.heap.size w w' := by
  go_enter Try.func32, Try.ntmps32
  go_wp2_with fail
  exact bodyPost_ret (v := .agg #[.int .i64 1, .int .u64 (IntKind.u64.wrap (a + b))]) (by simp [results, Try.results32, go_sem]) rfl ⟨by show _ = Ending.returned (.agg #[.int .i64 1, .int .u64 ((un (a + b) : Nat) : Int)]); rw [un_wrap], by repeat (first | exact Below.refl _ _ | refine Below.setCell ?_ (by simp) _ | refine Below.alloc ?_ (by simp) _)⟩
set_option maxRecDepth 100000 in
set_option maxHeartbeats 1000000 in
theorem rwhole_add2 (a b : Int) (h1 : 0 ≤ b) (h2 : ¬ a ≤ 9223372036854775807 - b) (h3 : -9223372036854775808 ≤ a) (h4 : a < 9223372036854775808) (h5 : -9223372036854775808 ≤ b) (h6 : b < 9223372036854775808) (w : World) : Calls Try.prog 32 #[.int .i64 1, .int .i64 a, .int .i64 b] w fun e w' => e = .returned (none0).v ∧ Below w.heap.size w w' := by
  go_enter Try.func32, Try.ntmps32
  go_wp2_with fail
  exact bodyPost_ret (v := .agg #[.int .i64 0, .int .u64 0]) (by simp [results, Try.results32, go_sem]) rfl ⟨rfl, by repeat (first | exact Below.refl _ _ | refine Below.setCell ?_ (by simp) _ | refine Below.alloc ?_ (by simp) _)⟩
set_option maxRecDepth 100000 in
set_option maxHeartbeats 1000000 in
theorem rwhole_add3 (a b : Int) (h1 : b < 0) (h2 : -9223372036854775808 - b ≤ a) (h3 : -9223372036854775808 ≤ a) (h4 : a < 9223372036854775808) (h5 : -9223372036854775808 ≤ b) (h6 : b < 9223372036854775808) (w : World) : Calls Try.prog 32 #[.int .i64 1, .int .i64 a, .int .i64 b] w fun e w' => e = .returned (intV (a + b)).v ∧ Below w.heap.size w w' := by
  go_enter Try.func32, Try.ntmps32
  go_wp2_with fail
  exact bodyPost_ret (v := .agg #[.int .i64 1, .int .u64 (IntKind.u64.wrap (a + b))]) (by simp [results, Try.results32, go_sem]) rfl ⟨by show _ = Ending.returned (.agg #[.int .i64 1, .int .u64 ((un (a + b) : Nat) : Int)]); rw [un_wrap], by repeat (first | exact Below.refl _ _ | refine Below.setCell ?_ (by simp) _ | refine Below.alloc ?_ (by simp) _)⟩
set_option maxRecDepth 100000 in
set_option maxHeartbeats 1000000 in
theorem rwhole_add4 (a b : Int) (h1 : b < 0) (h2 : ¬ -9223372036854775808 - b ≤ a) (h3 : -9223372036854775808 ≤ a) (h4 : a < 9223372036854775808) (h5 : -9223372036854775808 ≤ b) (h6 : b < 9223372036854775808) (w : World) : Calls Try.prog 32 #[.int .i64 1, .int .i64 a, .int .i64 b] w fun e w' => e = .returned (none0).v ∧ Below w.heap.size w w' := by
  go_enter Try.func32, Try.ntmps32
  go_wp2_with fail
  exact bodyPost_ret (v := .agg #[.int .i64 0, .int .u64 0]) (by simp [results, Try.results32, go_sem]) rfl ⟨rfl, by repeat (first | exact Below.refl _ _ | refine Below.setCell ?_ (by simp) _ | refine Below.alloc ?_ (by simp) _)⟩
set_option maxRecDepth 100000 in
set_option maxHeartbeats 1000000 in
theorem rwhole_sub1 (a b : Int) (h1 : 0 ≤ b) (h2 : -9223372036854775808 + b ≤ a) (h3 : -9223372036854775808 ≤ a) (h4 : a < 9223372036854775808) (h5 : -9223372036854775808 ≤ b) (h6 : b < 9223372036854775808) (w : World) : Calls Try.prog 32 #[.int .i64 2, .int .i64 a, .int .i64 b] w fun e w' => e = .returned (intV (a - b)).v ∧ Below w.heap.size w w' := by
  go_enter Try.func32, Try.ntmps32
  go_wp2_with fail
  exact bodyPost_ret (v := .agg #[.int .i64 1, .int .u64 (IntKind.u64.wrap (a - b))]) (by simp [results, Try.results32, go_sem]) rfl ⟨by show _ = Ending.returned (.agg #[.int .i64 1, .int .u64 ((un (a - b) : Nat) : Int)]); rw [un_wrap], by repeat (first | exact Below.refl _ _ | refine Below.setCell ?_ (by simp) _ | refine Below.alloc ?_ (by simp) _)⟩
set_option maxRecDepth 100000 in
set_option maxHeartbeats 1000000 in
theorem rwhole_sub2 (a b : Int) (h1 : 0 ≤ b) (h2 : ¬ -9223372036854775808 + b ≤ a) (h3 : -9223372036854775808 ≤ a) (h4 : a < 9223372036854775808) (h5 : -9223372036854775808 ≤ b) (h6 : b < 9223372036854775808) (w : World) : Calls Try.prog 32 #[.int .i64 2, .int .i64 a, .int .i64 b] w fun e w' => e = .returned (none0).v ∧ Below w.heap.size w w' := by
  go_enter Try.func32, Try.ntmps32
  go_wp2_with fail
  exact bodyPost_ret (v := .agg #[.int .i64 0, .int .u64 0]) (by simp [results, Try.results32, go_sem]) rfl ⟨rfl, by repeat (first | exact Below.refl _ _ | refine Below.setCell ?_ (by simp) _ | refine Below.alloc ?_ (by simp) _)⟩
set_option maxRecDepth 100000 in
set_option maxHeartbeats 1000000 in
theorem rwhole_sub3 (a b : Int) (h1 : b < 0) (h2 : a ≤ 9223372036854775807 + b) (h3 : -9223372036854775808 ≤ a) (h4 : a < 9223372036854775808) (h5 : -9223372036854775808 ≤ b) (h6 : b < 9223372036854775808) (w : World) : Calls Try.prog 32 #[.int .i64 2, .int .i64 a, .int .i64 b] w fun e w' => e = .returned (intV (a - b)).v ∧ Below w.heap.size w w' := by
  go_enter Try.func32, Try.ntmps32
  go_wp2_with fail
  exact bodyPost_ret (v := .agg #[.int .i64 1, .int .u64 (IntKind.u64.wrap (a - b))]) (by simp [results, Try.results32, go_sem]) rfl ⟨by show _ = Ending.returned (.agg #[.int .i64 1, .int .u64 ((un (a - b) : Nat) : Int)]); rw [un_wrap], by repeat (first | exact Below.refl _ _ | refine Below.setCell ?_ (by simp) _ | refine Below.alloc ?_ (by simp) _)⟩
set_option maxRecDepth 100000 in
set_option maxHeartbeats 1000000 in
theorem rwhole_sub4 (a b : Int) (h1 : b < 0) (h2 : ¬ a ≤ 9223372036854775807 + b) (h3 : -9223372036854775808 ≤ a) (h4 : a < 9223372036854775808) (h5 : -9223372036854775808 ≤ b) (h6 : b < 9223372036854775808) (w : World) : Calls Try.prog 32 #[.int .i64 2, .int .i64 a, .int .i64 b] w fun e w' => e = .returned (none0).v ∧ Below w.heap.size w w' := by
  go_enter Try.func32, Try.ntmps32
  go_wp2_with fail
  exact bodyPost_ret (v := .agg #[.int .i64 0, .int .u64 0]) (by simp [results, Try.results32, go_sem]) rfl ⟨rfl, by repeat (first | exact Below.refl _ _ | refine Below.setCell ?_ (by simp) _ | refine Below.alloc ?_ (by simp) _)⟩
set_option maxRecDepth 100000 in
set_option maxHeartbeats 1000000 in
theorem rwhole_neg1 (a b : Int) (h1 : 0 ≤ a) (h3 : -9223372036854775808 ≤ a) (h4 : a < 9223372036854775808) (w : World) : Calls Try.prog 32 #[.int .i64 6, .int .i64 a, .int .i64 b] w fun e w' => e = .returned (intV (-a)).v ∧ Below w.heap.size w w' := by
  go_enter Try.func32, Try.ntmps32
  go_wp2_with fail
  exact bodyPost_ret (v := .agg #[.int .i64 1, .int .u64 (IntKind.u64.wrap (-a))]) (by simp [results, Try.results32, go_sem]) rfl ⟨by show _ = Ending.returned (.agg #[.int .i64 1, .int .u64 ((un (-a) : Nat) : Int)]); rw [un_wrap], by repeat (first | exact Below.refl _ _ | refine Below.setCell ?_ (by simp) _ | refine Below.alloc ?_ (by simp) _)⟩
set_option maxRecDepth 100000 in
set_option maxHeartbeats 1000000 in
theorem rwhole_neg2 (a b : Int) (h1 : a < 0) (h2 : 0 ≤ 9223372036854775807 + a) (h3 : -9223372036854775808 ≤ a) (h4 : a < 9223372036854775808) (w : World) : Calls Try.prog 32 #[.int .i64 6, .int .i64 a, .int .i64 b] w fun e w' => e = .returned (intV (-a)).v ∧ Below w.heap.size w w' := by
  go_enter Try.func32, Try.ntmps32
  go_wp2_with fail
  exact bodyPost_ret (v := .agg #[.int .i64 1, .int .u64 (-a)]) (by simp [results, Try.results32, go_sem]) rfl ⟨by show _ = Ending.returned (.agg #[.int .i64 1, .int .u64 ((un (-a) : Nat) : Int)]); rw [show ((un (-a) : Nat) : Int) = -a from by unfold un; omega], by repeat (first | exact Below.refl _ _ | refine Below.setCell ?_ (by simp) _ | refine Below.alloc ?_ (by simp) _)⟩
set_option maxRecDepth 100000 in
set_option maxHeartbeats 1000000 in
theorem rwhole_neg3 (b : Int)  (w : World) : Calls Try.prog 32 #[.int .i64 6, .int .i64 (-9223372036854775808), .int .i64 b] w fun e w' => e = .returned (none0).v ∧ Below w.heap.size w w' := by
  go_enter Try.func32, Try.ntmps32
  go_wp2_with fail
  exact bodyPost_ret (v := .agg #[.int .i64 0, .int .u64 0]) (by simp [results, Try.results32, go_sem]) rfl ⟨rfl, by repeat (first | exact Below.refl _ _ | refine Below.setCell ?_ (by simp) _ | refine Below.alloc ?_ (by simp) _)⟩
set_option maxRecDepth 100000 in
set_option maxHeartbeats 1000000 in
theorem rwhole_quo0 (a : Int)  (w : World) : Calls Try.prog 32 #[.int .i64 4, .int .i64 a, .int .i64 0] w fun e w' => e = .returned (none0).v ∧ Below w.heap.size w w' := by
  go_enter Try.func32, Try.ntmps32
  go_wp2_with fail
  exact bodyPost_ret (v := .agg #[.int .i64 0, .int .u64 0]) (by simp [results, Try.results32, go_sem]) rfl ⟨rfl, by repeat (first | exact Below.refl _ _ | refine Below.setCell ?_ (by simp) _ | refine Below.alloc ?_ (by simp) _)⟩
set_option maxRecDepth 100000 in
set_option maxHeartbeats 1000000 in
theorem rwhole_quo1   (w : World) : Calls Try.prog 32 #[.int .i64 4, .int .i64 (-9223372036854775808), .int .i64 (-1)] w fun e w' => e = .returned (none0).v ∧ Below w.heap.size w w' := by
  go_enter Try.func32, Try.ntmps32
  go_wp2_with fail
  exact bodyPost_ret (v := .agg #[.int .i64 0, .int .u64 0]) (by simp [results, Try.results32, go_sem]) rfl ⟨rfl, by repeat (first | exact Below.refl _ _ | refine Below.setCell ?_ (by simp) _ | refine Below.alloc ?_ (by simp) _)⟩
set_option maxRecDepth 100000 in
set_option maxHeartbeats 1000000 in
theorem rwhole_quo2 (a : Int) (h1 : (a != -9223372036854775808) = true) (h2 : -9223372036854775808 < a) (h4 : a < 9223372036854775808) (w : World) : Calls Try.prog 32 #[.int .i64 4, .int .i64 a, .int .i64 (-1)] w fun e w' => e = .returned (intV (-a)).v ∧ Below w.heap.size w w' := by
  go_enter Try.func32, Try.ntmps32
  go_wp2_with fail
  exact bodyPost_ret (v := .agg #[.int .i64 1, .int .u64 (IntKind.u64.wrap (-a))]) (by simp [results, Try.results32, go_sem]) rfl ⟨by show _ = Ending.returned (.agg #[.int .i64 1, .int .u64 ((un (-a) : Nat) : Int)]); rw [un_wrap], by repeat (first | exact Below.refl _ _ | refine Below.setCell ?_ (by simp) _ | refine Below.alloc ?_ (by simp) _)⟩
set_option maxRecDepth 100000 in
set_option maxHeartbeats 1000000 in
theorem rwhole_quo3 (a b : Int) (h1 : (b != 0) = true) (h2 : (b != -1) = true) (h3 : b ≠ 0) (q : Int) (hq : wrap64 (a.tdiv b) = q) (w : World) : Calls Try.prog 32 #[.int .i64 4, .int .i64 a, .int .i64 b] w fun e w' => e = .returned (intV q).v ∧ Below w.heap.size w w' := by
  go_enter Try.func32, Try.ntmps32
  go_wp2_with fail
  exact bodyPost_ret (v := .agg #[.int .i64 1, .int .u64 (IntKind.u64.wrap q)]) (by simp [results, Try.results32, go_sem]) rfl ⟨by show _ = Ending.returned (.agg #[.int .i64 1, .int .u64 ((un q : Nat) : Int)]); rw [un_wrap], by repeat (first | exact Below.refl _ _ | refine Below.setCell ?_ (by simp) _ | refine Below.alloc ?_ (by simp) _)⟩
set_option maxRecDepth 100000 in
set_option maxHeartbeats 1000000 in
theorem rwhole_rem0 (a : Int)  (w : World) : Calls Try.prog 32 #[.int .i64 5, .int .i64 a, .int .i64 0] w fun e w' => e = .returned (none0).v ∧ Below w.heap.size w w' := by
  go_enter Try.func32, Try.ntmps32
  go_wp2_with fail
  exact bodyPost_ret (v := .agg #[.int .i64 0, .int .u64 0]) (by simp [results, Try.results32, go_sem]) rfl ⟨rfl, by repeat (first | exact Below.refl _ _ | refine Below.setCell ?_ (by simp) _ | refine Below.alloc ?_ (by simp) _)⟩
set_option maxRecDepth 100000 in
set_option maxHeartbeats 1000000 in
theorem rwhole_rem1 (a : Int)  (w : World) : Calls Try.prog 32 #[.int .i64 5, .int .i64 a, .int .i64 (-1)] w fun e w' => e = .returned (intV 0).v ∧ Below w.heap.size w w' := by
  go_enter Try.func32, Try.ntmps32
  go_wp2_with fail
  exact bodyPost_ret (v := .agg #[.int .i64 1, .int .u64 (0)]) (by simp [results, Try.results32, go_sem]) rfl ⟨rfl, by repeat (first | exact Below.refl _ _ | refine Below.setCell ?_ (by simp) _ | refine Below.alloc ?_ (by simp) _)⟩
set_option maxRecDepth 100000 in
set_option maxHeartbeats 1000000 in
theorem rwhole_rem2 (a b : Int) (h1 : (b != 0) = true) (h2 : (b != -1) = true) (h3 : b ≠ 0) (q : Int) (hq : a.tmod b = q) (hq2 : wrap64 q = q) (w : World) : Calls Try.prog 32 #[.int .i64 5, .int .i64 a, .int .i64 b] w fun e w' => e = .returned (intV q).v ∧ Below w.heap.size w w' := by
  go_enter Try.func32, Try.ntmps32
  go_wp2_with fail
  exact bodyPost_ret (v := .agg #[.int .i64 1, .int .u64 (IntKind.u64.wrap q)]) (by simp [results, Try.results32, go_sem]) rfl ⟨by show _ = Ending.returned (.agg #[.int .i64 1, .int .u64 ((un q : Nat) : Int)]); rw [un_wrap], by repeat (first | exact Below.refl _ _ | refine Below.setCell ?_ (by simp) _ | refine Below.alloc ?_ (by simp) _)⟩
set_option maxRecDepth 100000 in
set_option maxHeartbeats 1000000 in
theorem rwhole_mul_yes (a b : Int) (ha : I64 a) (hb : I64 b) (ok : prodOk a b = true) (w : World) : Calls Try.prog 32 #[.int .i64 3, .int .i64 a, .int .i64 b] w fun e w' => e = .returned (intV (a * b)).v ∧ Below w.heap.size w w' := by
  have hp := Lib.hid fun w => rprod_any a b ha hb w
  unfold ProdPost at hp
  rw [ok] at hp
  clear ha hb ok
  go_enter Try.func32, Try.ntmps32
  go_wp2_with fail
  refine (hp.out _).mono ?_
  rintro e w' ⟨s, rfl, hs, rfl⟩
  have hs := hs (by simp)
  subst hs
  go_wp2_with fail
  exact bodyPost_ret (v := .agg #[.int .i64 1, .int .u64 (IntKind.u64.wrap (a * b))]) (by simp [results, Try.results32, go_sem]) rfl ⟨by show _ = Ending.returned (.agg #[.int .i64 1, .int .u64 ((un (a * b) : Nat) : Int)]); rw [un_wrap], by repeat (first | exact Below.refl _ _ | refine Below.setCell ?_ (by simp) _ | refine Below.alloc ?_ (by simp) _)⟩
set_option maxRecDepth 100000 in
set_option maxHeartbeats 1000000 in
theorem rwhole_mul_no (a b : Int) (ha : I64 a) (hb : I64 b) (ok : prodOk a b = false) (w : World) : Calls Try.prog 32 #[.int .i64 3, .int .i64 a, .int .i64 b] w fun e w' => e = .returned (none0).v ∧ Below w.heap.size w w' := by
  have hp := Lib.hid fun w => rprod_any a b ha hb w
  unfold ProdPost at hp
  rw [ok] at hp
  clear ha hb ok
  go_enter Try.func32, Try.ntmps32
  go_wp2_with fail
  refine (hp.out _).mono ?_
  rintro e w' ⟨s, rfl, hs, rfl⟩
  clear hs
  go_wp2_with fail
  exact bodyPost_ret (v := .agg #[.int .i64 0, .int .u64 0]) (by simp [results, Try.results32, go_sem]) rfl ⟨rfl, by repeat (first | exact Below.refl _ _ | refine Below.setCell ?_ (by simp) _ | refine Below.alloc ?_ (by simp) _)⟩
set_option maxHeartbeats 1000000 in
theorem rwhole_not (a b : Int) (w : World) : Calls Try.prog 32 #[.int .i64 15, .int .i64 a, .int .i64 b] w fun e w' => e = .returned (yesV (a == 0)).v ∧ Below w.heap.size w w' := by
  generalize hR : yesV (a == 0) = R
  have HR := Lib.hid hR
  clear hR
  go_enter Try.func32, Try.ntmps32
  obtain ⟨c0, c1, f0, f1⟩ := vcells (Bk.new w 33 #[.int .i64 0, .int .u64 0])
  go_wp2_with fail
  refine (rtruth_any _ _).mono ?_
  rintro e w2 ⟨rfl, hb2⟩
  have k := (Bk.new w 33 #[.int .i64 0, .int .u64 0]).old hb2
  have hbel : Below w.heap.size w w2 := ((Below.refl _ _).alloc (Nat.le_refl _) _).trans (hb2.mono (by simp))
  clear c0 c1 f0 f1 hb2
  rw [HR.out]
  obtain ⟨rk, rb⟩ := R
  simp only [V.v]
  obtain ⟨c0, c1, f0, f1⟩ := vcells k
  obtain ⟨d0, d1, _, _⟩ := vcells (vput k (.int .i64 rk) (.int .u64 rb))
  go_wp2_with fail
  exact bodyPost_ret (v := .agg #[.int .i64 rk, .int .u64 rb]) (by simp [results, Try.results32, go_sem, d0, d1]) rfl ⟨rfl, (hbel.setCell (Nat.le_refl _) _).setCell (Nat.le_refl _) _⟩
set_option maxHeartbeats 1000000 in
theorem rwhole_real (a b : Int) (ha : I64 a) (w : World) : Calls Try.prog 32 #[.int .i64 16, .int .i64 a, .int .i64 b] w fun e w' => e = .returned (V.mk 4 (ofInt a)).v ∧ Below w.heap.size w w' := by
  have hr := Lib.hid fun w => rofInt_any a ha w
  clear ha
  generalize ofInt a = R at *
  go_enter Try.func32, Try.ntmps32
  go_wp2_with fail
  refine (hr.out _).mono ?_
  rintro e w2 ⟨rfl, rfl⟩
  go_wp2_with fail
  exact bodyPost_ret (v := .agg #[.int .i64 4, .int .u64 R]) (by simp [results, Try.results32, go_sem]) rfl ⟨rfl, by repeat (first | exact Below.refl _ _ | refine Below.setCell ?_ (by simp) _ | refine Below.alloc ?_ (by simp) _)⟩
/-- whole, as the program's ints. -/
theorem rwhole_any (op a b : Int) (ha : I64 a) (hb : I64 b) (h : (1 ≤ op ∧ op ≤ 6) ∨ op = 15 ∨ op = 16) (w : World) :
    Calls Try.prog 32 #[.int .i64 op, .int .i64 a, .int .i64 b] w fun e w' => e = .returned
      (if op = 15 then yesV (a == 0) else if op = 16 then V.mk 4 (ofInt a) else if op = 6 then ((fitI (0 - a)).map intV).getD none0 else ((numV op a b).map intV).getD none0).v ∧ Below w.heap.size w w' := by
  have ha' := ha
  have hb' := hb
  unfold I64 at ha' hb'
  by_cases h15 : op = 15
  · subst h15; rw [if_pos rfl]; exact rwhole_not a b w
  by_cases h16 : op = 16
  · subst h16; rw [if_neg (by decide), if_pos rfl]; exact rwhole_real a b ha w
  rw [if_neg h15, if_neg h16]
  by_cases h6 : op = 6
  · subst h6
    rw [if_pos rfl]
    by_cases h0 : 0 ≤ a
    · rw [fit_in (by omega) (by omega), Int.zero_sub]; exact rwhole_neg1 a b h0 ha'.1 ha'.2 w
    · by_cases hm : a = -9223372036854775808
      · subst hm; rw [fit_out (by omega)]; exact rwhole_neg3 b w
      · rw [fit_in (by omega) (by omega), Int.zero_sub]; exact rwhole_neg2 a b (by omega) (by omega) ha'.1 ha'.2 w
  rw [if_neg h6]
  have hop : op = 1 ∨ op = 2 ∨ op = 3 ∨ op = 4 ∨ op = 5 := by omega
  rcases hop with rfl | rfl | rfl | rfl | rfl
  · rw [show numV 1 a b = fitI (a + b) from rfl]
    by_cases h0 : 0 ≤ b
    · by_cases h1 : a ≤ 9223372036854775807 - b
      · rw [fit_in (by omega) (by omega)]; exact rwhole_add1 a b h0 h1 ha'.1 ha'.2 hb'.1 hb'.2 w
      · rw [fit_out (by omega)]; exact rwhole_add2 a b h0 h1 ha'.1 ha'.2 hb'.1 hb'.2 w
    · by_cases h1 : -9223372036854775808 - b ≤ a
      · rw [fit_in (by omega) (by omega)]; exact rwhole_add3 a b (by omega) h1 ha'.1 ha'.2 hb'.1 hb'.2 w
      · rw [fit_out (by omega)]; exact rwhole_add4 a b (by omega) h1 ha'.1 ha'.2 hb'.1 hb'.2 w
  · rw [show numV 2 a b = fitI (a - b) from rfl]
    by_cases h0 : 0 ≤ b
    · by_cases h1 : -9223372036854775808 + b ≤ a
      · rw [fit_in (by omega) (by omega)]; exact rwhole_sub1 a b h0 h1 ha'.1 ha'.2 hb'.1 hb'.2 w
      · rw [fit_out (by omega)]; exact rwhole_sub2 a b h0 h1 ha'.1 ha'.2 hb'.1 hb'.2 w
    · by_cases h1 : a ≤ 9223372036854775807 + b
      · rw [fit_in (by omega) (by omega)]; exact rwhole_sub3 a b (by omega) h1 ha'.1 ha'.2 hb'.1 hb'.2 w
      · rw [fit_out (by omega)]; exact rwhole_sub4 a b (by omega) h1 ha'.1 ha'.2 hb'.1 hb'.2 w
  · rw [show numV 3 a b = fitI (a * b) from rfl]
    cases hp : prodOk a b
    · have hn : fitI (a * b) = none := by unfold prodOk at hp; simpa using hp
      rw [hn]; exact rwhole_mul_no a b ha hb hp w
    · rw [I64_fit (prod_ok.1 hp)]; exact rwhole_mul_yes a b ha hb hp w
  · rw [show numV 4 a b = if b = 0 then none else if b = -1 then fitI (0 - a) else some (a.tdiv b) from rfl]
    by_cases h0 : b = 0
    · subst h0; rw [if_pos rfl]; exact rwhole_quo0 a w
    rw [if_neg h0]
    by_cases h1 : b = -1
    · subst h1
      rw [if_pos rfl]
      by_cases hm : a = -9223372036854775808
      · subst hm; rw [fit_out (by omega)]; exact rwhole_quo1 w
      · rw [fit_in (by omega) (by omega), Int.zero_sub]; exact rwhole_quo2 a (by rw [bne_iff_ne]; exact hm) (by omega) ha'.2 w
    · rw [if_neg h1]; exact rwhole_quo3 a b (by rw [bne_iff_ne]; exact h0) (by rw [bne_iff_ne]; exact h1) h0 _ (tdiv_in ha h0 h1) w
  · rw [show numV 5 a b = if b = 0 then none else if b = -1 then some 0 else some (a.tmod b) from rfl]
    by_cases h0 : b = 0
    · subst h0; rw [if_pos rfl]; exact rwhole_rem0 a w
    rw [if_neg h0]
    by_cases h1 : b = -1
    · subst h1; rw [if_pos rfl]; exact rwhole_rem1 a w
    · rw [if_neg h1]; exact rwhole_rem2 a b (by rw [bne_iff_ne]; exact h0) (by rw [bne_iff_ne]; exact h1) h0 _ rfl (tmod_in ha) w
end Go.Proofs.Ytkfpmoilfillmaa
