/- Layer 9: the lesser, the greater of two. No conditions. -/
import Derived.Test.YtomhheihhnmbcaaEvB
import Derived.Test.YtomhheihhnmbcaaValOp
namespace Go.Proofs.Ytomhheihhnmbcaa
open Go.RowKit
set_option linter.unusedVariables false
set_option linter.unusedSimpArgs false

def nanC : Nat := 9221120237041090560
def pmaxN (a b : Nat) : Nat := if 0 ≤ ordN (canonN a) (canonN b) then canonN a else canonN b
def pminN (a b : Nat) : Nat := if canonN a = nanC ∨ canonN b = nanC then nanC else if ordN (canonN a) (canonN b) ≤ 0 then canonN a else canonN b
def rpickN (a b : Nat) (most : Bool) : Nat := if nanN a = true ∨ nanN b = true then nanC else if decide (0 < ordN a b) = most then a else b

theorem max_any (a b : Nat) (ha : a < 18446744073709551616) (hb : b < 18446744073709551616) (w : World) :
    Calls Try.prog 67 #[.int .u64 a, .int .u64 b] w fun e w' => e = .returned (.int .u64 (pmaxN a b : Nat)) ∧ w = w' := by
  have ca := canonN_lt a ha
  have cb := canonN_lt b hb
  have ho := pordN_any (canonN a) (canonN b) ca cb w
  unfold pmaxN
  generalize ordN (canonN a) (canonN b) = z at *
  by_cases hz : 0 ≤ z
  · rw [if_pos hz]
    go_enter Try.func67, Try.ntmps67
    go_wp2_with (first
      | (go_at_call 34; first | (refine (canon_any a ha _).mono ?_; rintro e w' ⟨rfl, rfl⟩) | (refine (canon_any b hb _).mono ?_; rintro e w' ⟨rfl, rfl⟩))
      | (go_at_call 82; refine ho.mono ?_; rintro e w' ⟨rfl, rfl⟩))
    go_ret
    exact ⟨rfl, rfl⟩
  · rw [if_neg hz]
    go_enter Try.func67, Try.ntmps67
    go_wp2_with (first
      | (go_at_call 34; first | (refine (canon_any a ha _).mono ?_; rintro e w' ⟨rfl, rfl⟩) | (refine (canon_any b hb _).mono ?_; rintro e w' ⟨rfl, rfl⟩))
      | (go_at_call 82; refine ho.mono ?_; rintro e w' ⟨rfl, rfl⟩))
    go_ret
    exact ⟨rfl, rfl⟩

theorem min_any (a b : Nat) (ha : a < 18446744073709551616) (hb : b < 18446744073709551616) (w : World) :
    Calls Try.prog 68 #[.int .u64 a, .int .u64 b] w fun e w' => e = .returned (.int .u64 (pminN a b : Nat)) ∧ w = w' := by
  have ca := canonN_lt a ha
  have cb := canonN_lt b hb
  have ho := pordN_any (canonN a) (canonN b) ca cb w
  have hca := canon_any a ha
  have hcb := canon_any b hb
  unfold pminN
  generalize ordN (canonN a) (canonN b) = z at *
  generalize canonN a = x at *
  generalize canonN b = y at *
  unfold nanC
  by_cases hx : x = 9221120237041090560
  · subst hx
    rw [if_pos (.inl rfl)]
    go_enter Try.func68, Try.ntmps68
    go_wp2_with (go_at_call 34; first | (refine (hca _).mono ?_; rintro e w' ⟨rfl, rfl⟩) | (refine (hcb _).mono ?_; rintro e w' ⟨rfl, rfl⟩))
    go_ret
    exact ⟨rfl, rfl⟩
  have hx' : ((x : Int) == 9221120237041090560) = false := by rw [beq_eq_false_iff_ne]; omega
  by_cases hy : y = 9221120237041090560
  · subst hy
    rw [if_pos (.inr rfl)]
    go_enter Try.func68, Try.ntmps68
    go_wp2_with (go_at_call 34; first | (refine (hca _).mono ?_; rintro e w' ⟨rfl, rfl⟩) | (refine (hcb _).mono ?_; rintro e w' ⟨rfl, rfl⟩))
    go_ret
    exact ⟨rfl, rfl⟩
  have hy' : ((y : Int) == 9221120237041090560) = false := by rw [beq_eq_false_iff_ne]; omega
  rw [if_neg (by rintro (h | h) <;> contradiction)]
  by_cases hz : z ≤ 0
  · rw [if_pos hz]
    go_enter Try.func68, Try.ntmps68
    go_wp2_with (first
      | (go_at_call 34; first | (refine (hca _).mono ?_; rintro e w' ⟨rfl, rfl⟩) | (refine (hcb _).mono ?_; rintro e w' ⟨rfl, rfl⟩))
      | (go_at_call 82; refine ho.mono ?_; rintro e w' ⟨rfl, rfl⟩))
    go_ret
    exact ⟨rfl, rfl⟩
  · rw [if_neg hz]
    go_enter Try.func68, Try.ntmps68
    go_wp2_with (first
      | (go_at_call 34; first | (refine (hca _).mono ?_; rintro e w' ⟨rfl, rfl⟩) | (refine (hcb _).mono ?_; rintro e w' ⟨rfl, rfl⟩))
      | (go_at_call 82; refine ho.mono ?_; rintro e w' ⟨rfl, rfl⟩))
    go_ret
    exact ⟨rfl, rfl⟩

theorem rpick_pt (a b : Nat) (z : Int) (ho : ∀ w, Calls Try.prog 83 #[.int .u64 a, .int .u64 b] w fun e w' => e = .returned (.int .i64 z) ∧ w = w') (hna : ∀ w, Calls Try.prog 69 #[.int .u64 a] w fun e w' => e = .returned (.bool false) ∧ w = w') (hnb : ∀ w, Calls Try.prog 69 #[.int .u64 b] w fun e w' => e = .returned (.bool false) ∧ w = w') (hz : 0 < z) (w : World) :
    Calls Try.prog 70 #[.int .u64 a, .int .u64 b, .bool true] w fun e w' => e = .returned (.int .u64 (a : Nat)) ∧ w = w' := by
  go_enter Try.func70, Try.ntmps70
  go_wp2_with fail
  refine (hna _).mono ?_
  rintro e w' ⟨rfl, rfl⟩
  go_wp2_with fail
  refine (hnb _).mono ?_
  rintro e w' ⟨rfl, rfl⟩
  go_wp2_with fail
  refine (ho _).mono ?_
  rintro e w' ⟨rfl, rfl⟩
  go_wp2_with fail
  go_ret
  exact ⟨rfl, rfl⟩
theorem rpick_nt (a b : Nat) (z : Int) (ho : ∀ w, Calls Try.prog 83 #[.int .u64 a, .int .u64 b] w fun e w' => e = .returned (.int .i64 z) ∧ w = w') (hna : ∀ w, Calls Try.prog 69 #[.int .u64 a] w fun e w' => e = .returned (.bool false) ∧ w = w') (hnb : ∀ w, Calls Try.prog 69 #[.int .u64 b] w fun e w' => e = .returned (.bool false) ∧ w = w') (hz : ¬ 0 < z) (w : World) :
    Calls Try.prog 70 #[.int .u64 a, .int .u64 b, .bool true] w fun e w' => e = .returned (.int .u64 (b : Nat)) ∧ w = w' := by
  go_enter Try.func70, Try.ntmps70
  go_wp2_with fail
  refine (hna _).mono ?_
  rintro e w' ⟨rfl, rfl⟩
  go_wp2_with fail
  refine (hnb _).mono ?_
  rintro e w' ⟨rfl, rfl⟩
  go_wp2_with fail
  refine (ho _).mono ?_
  rintro e w' ⟨rfl, rfl⟩
  go_wp2_with fail
  all_goals first
  | (exfalso; rename_i hh; simp at hh; omega)
  | (go_ret; exact ⟨rfl, rfl⟩)
theorem rpick_pf (a b : Nat) (z : Int) (ho : ∀ w, Calls Try.prog 83 #[.int .u64 a, .int .u64 b] w fun e w' => e = .returned (.int .i64 z) ∧ w = w') (hna : ∀ w, Calls Try.prog 69 #[.int .u64 a] w fun e w' => e = .returned (.bool false) ∧ w = w') (hnb : ∀ w, Calls Try.prog 69 #[.int .u64 b] w fun e w' => e = .returned (.bool false) ∧ w = w') (hz : 0 < z) (w : World) :
    Calls Try.prog 70 #[.int .u64 a, .int .u64 b, .bool false] w fun e w' => e = .returned (.int .u64 (b : Nat)) ∧ w = w' := by
  go_enter Try.func70, Try.ntmps70
  go_wp2_with fail
  refine (hna _).mono ?_
  rintro e w' ⟨rfl, rfl⟩
  go_wp2_with fail
  refine (hnb _).mono ?_
  rintro e w' ⟨rfl, rfl⟩
  go_wp2_with fail
  refine (ho _).mono ?_
  rintro e w' ⟨rfl, rfl⟩
  go_wp2_with fail
  go_ret
  exact ⟨rfl, rfl⟩
theorem rpick_nf (a b : Nat) (z : Int) (ho : ∀ w, Calls Try.prog 83 #[.int .u64 a, .int .u64 b] w fun e w' => e = .returned (.int .i64 z) ∧ w = w') (hna : ∀ w, Calls Try.prog 69 #[.int .u64 a] w fun e w' => e = .returned (.bool false) ∧ w = w') (hnb : ∀ w, Calls Try.prog 69 #[.int .u64 b] w fun e w' => e = .returned (.bool false) ∧ w = w') (hz : ¬ 0 < z) (w : World) :
    Calls Try.prog 70 #[.int .u64 a, .int .u64 b, .bool false] w fun e w' => e = .returned (.int .u64 (a : Nat)) ∧ w = w' := by
  go_enter Try.func70, Try.ntmps70
  go_wp2_with fail
  refine (hna _).mono ?_
  rintro e w' ⟨rfl, rfl⟩
  go_wp2_with fail
  refine (hnb _).mono ?_
  rintro e w' ⟨rfl, rfl⟩
  go_wp2_with fail
  refine (ho _).mono ?_
  rintro e w' ⟨rfl, rfl⟩
  go_wp2_with fail
  all_goals first
  | (exfalso; rename_i hh; simp at hh; omega)
  | (go_ret; exact ⟨rfl, rfl⟩)
theorem rpick_any (a b : Nat) (most : Bool) (ha : a < 18446744073709551616) (hb : b < 18446744073709551616) (w : World) :
    Calls Try.prog 70 #[.int .u64 a, .int .u64 b, .bool most] w fun e w' => e = .returned (.int .u64 (rpickN a b most : Nat)) ∧ w = w' := by
  have ho := rordN_any a b ha hb
  have hna := isnan_any a ha
  have hnb := isnan_any b hb
  unfold rpickN
  generalize ordN a b = z at *
  generalize nanN a = p at *
  generalize nanN b = q at *
  unfold nanC
  cases p
  case true =>
    rw [if_pos (.inl rfl)]
    go_enter Try.func70, Try.ntmps70
    go_wp2_with (go_at_call 69; refine (hna _).mono ?_; rintro e w' ⟨rfl, rfl⟩)
    go_ret
    exact ⟨rfl, rfl⟩
  cases q
  case true =>
    rw [if_pos (.inr rfl)]
    go_enter Try.func70, Try.ntmps70
    go_wp2_with fail
    refine (hna _).mono ?_
    rintro e w' ⟨rfl, rfl⟩
    go_wp2_with fail
    refine (hnb _).mono ?_
    rintro e w' ⟨rfl, rfl⟩
    go_wp2_with fail
    go_ret
    exact ⟨rfl, rfl⟩
  rw [if_neg (by simp)]
  by_cases hz : 0 < z
  · cases most
    · rw [if_neg (by simp [hz])]; exact rpick_pf a b z ho hna hnb hz w
    · rw [if_pos (by simp [hz])]; exact rpick_pt a b z ho hna hnb hz w
  · cases most
    · rw [if_pos (by simp [hz])]; exact rpick_nf a b z ho hna hnb hz w
    · rw [if_neg (by simp [hz])]; exact rpick_nt a b z ho hna hnb hz w

/-- The lesser, the greater of two values of one kind. -/
def pickV (a b : V) (most : Bool) : V :=
  if a.k ≠ b.k then none0 else if a.k = 1 then (if decide (wrap64 b.b < wrap64 a.b) = most then a else b)
  else if a.k = 4 then ⟨4, if most = true then pmaxN a.b b.b else pminN a.b b.b⟩ else none0

theorem pick_no (a b : V) (most : Bool) (w : World) (h : a.k ≠ b.k) :
    Calls Try.prog 53 #[a.v, b.v, .bool most] w fun e w' => e = .returned none0.v ∧ Below w.heap.size w w' := by
  unfold V.v
  go_enter Try.func53, Try.ntmps53
  go_wp2
  exact bodyPost_ret (v := .agg #[.int .i64 0, .int .u64 0]) (by simp [results, Try.results53, go_sem]) rfl ⟨rfl, by repeat (first | exact Below.refl _ _ | refine Below.setCell ?_ (by first | (simp; done) | (simp; omega)) _ | refine Below.alloc ?_ (by first | (simp; done) | (simp; omega)) _)⟩
theorem pick_int (x y : Nat) (most : Bool) (w : World) :
    Calls Try.prog 53 #[.agg #[.int .i64 1, .int .u64 x], .agg #[.int .i64 1, .int .u64 y], .bool most] w fun e w' => e = .returned (if decide (wrap64 y < wrap64 x) = most then .agg #[.int .i64 1, .int .u64 x] else .agg #[.int .i64 1, .int .u64 y]) ∧ Below w.heap.size w w' := by
  by_cases h : decide (wrap64 y < wrap64 x) = most
  · rw [if_pos h]
    cases most
    all_goals
      simp at h
      go_enter Try.func53, Try.ntmps53
      go_wp2
      all_goals first
      | (exfalso; rename_i hh; simp at hh; omega)
      | exact bodyPost_ret (v := .agg #[.int .i64 1, .int .u64 x]) (by simp [results, Try.results53, go_sem]) rfl ⟨rfl, by repeat (first | exact Below.refl _ _ | refine Below.setCell ?_ (by first | (simp; done) | (simp; omega)) _ | refine Below.alloc ?_ (by first | (simp; done) | (simp; omega)) _)⟩
  · rw [if_neg h]
    cases most
    all_goals
      simp at h
      go_enter Try.func53, Try.ntmps53
      go_wp2
      all_goals first
      | (exfalso; rename_i hh; simp at hh; omega)
      | exact bodyPost_ret (v := .agg #[.int .i64 1, .int .u64 y]) (by simp [results, Try.results53, go_sem]) rfl ⟨rfl, by repeat (first | exact Below.refl _ _ | refine Below.setCell ?_ (by first | (simp; done) | (simp; omega)) _ | refine Below.alloc ?_ (by first | (simp; done) | (simp; omega)) _)⟩
theorem pick_real (x y : Nat) (most : Bool) (hx : x < 18446744073709551616) (hy : y < 18446744073709551616) (w : World) :
    Calls Try.prog 53 #[.agg #[.int .i64 4, .int .u64 x], .agg #[.int .i64 4, .int .u64 y], .bool most] w fun e w' => e = .returned (.agg #[.int .i64 4, .int .u64 (if most = true then pmaxN x y else pminN x y : Nat)]) ∧ Below w.heap.size w w' := by
  have hM := max_any x y hx hy
  have hm := min_any x y hx hy
  generalize pmaxN x y = p at *
  generalize pminN x y = q at *
  cases most
  · rw [if_neg (by simp)]
    go_enter Try.func53, Try.ntmps53
    go_wp2_with fail
    refine (hm _).mono ?_
    rintro e w' ⟨rfl, rfl⟩
    go_wp2
    exact bodyPost_ret (v := .agg #[.int .i64 4, .int .u64 q]) (by simp [results, Try.results53, go_sem]) rfl ⟨rfl, by repeat (first | exact Below.refl _ _ | refine Below.setCell ?_ (by first | (simp; done) | (simp; omega)) _ | refine Below.alloc ?_ (by first | (simp; done) | (simp; omega)) _)⟩
  · rw [if_pos rfl]
    go_enter Try.func53, Try.ntmps53
    go_wp2_with fail
    refine (hM _).mono ?_
    rintro e w' ⟨rfl, rfl⟩
    go_wp2
    exact bodyPost_ret (v := .agg #[.int .i64 4, .int .u64 p]) (by simp [results, Try.results53, go_sem]) rfl ⟨rfl, by repeat (first | exact Below.refl _ _ | refine Below.setCell ?_ (by first | (simp; done) | (simp; omega)) _ | refine Below.alloc ?_ (by first | (simp; done) | (simp; omega)) _)⟩
theorem pick_else (k : Int) (x y : Nat) (most : Bool) (h1 : k ≠ 1) (h4 : k ≠ 4) (w : World) :
    Calls Try.prog 53 #[.agg #[.int .i64 k, .int .u64 x], .agg #[.int .i64 k, .int .u64 y], .bool most] w fun e w' => e = .returned none0.v ∧ Below w.heap.size w w' := by
  go_enter Try.func53, Try.ntmps53
  go_wp2
  exact bodyPost_ret (v := .agg #[.int .i64 0, .int .u64 0]) (by simp [results, Try.results53, go_sem]) rfl ⟨rfl, by repeat (first | exact Below.refl _ _ | refine Below.setCell ?_ (by first | (simp; done) | (simp; omega)) _ | refine Below.alloc ?_ (by first | (simp; done) | (simp; omega)) _)⟩
theorem pick_any (a b : V) (most : Bool) (ha : a.fits) (hb : b.fits) (w : World) :
    Calls Try.prog 53 #[a.v, b.v, .bool most] w fun e w' => e = .returned (pickV a b most).v ∧ Below w.heap.size w w' := by
  unfold pickV
  by_cases h : a.k = b.k
  · rw [if_neg (by simpa using h)]
    obtain ⟨k, x⟩ := a
    obtain ⟨k', y⟩ := b
    simp only at h
    subst h
    by_cases h1 : k = 1
    · subst h1
      rw [if_pos rfl]
      have := pick_int x y most w
      unfold V.v
      split <;> rename_i hz
      · rw [if_pos hz] at this; exact this
      · rw [if_neg hz] at this; exact this
    · rw [if_neg h1]
      by_cases h4 : k = 4
      · subst h4
        rw [if_pos rfl]
        exact pick_real x y most ha hb w
      · rw [if_neg h4]
        exact pick_else k x y most h1 h4 w
  · rw [if_pos h]
    exact pick_no a b most w h
theorem pick_fits (a b : V) (most : Bool) (ha : a.fits) (hb : b.fits) : (pickV a b most).fits := by
  have ca := canonN_lt a.b ha
  have cb := canonN_lt b.b hb
  unfold pickV
  split
  · exact (by decide : (0 : Nat) < 18446744073709551616)
  split
  · split <;> assumption
  split
  · show (if most = true then pmaxN a.b b.b else pminN a.b b.b) < 18446744073709551616
    unfold pmaxN pminN nanC
    repeat' split
    all_goals omega
  · exact (by decide : (0 : Nat) < 18446744073709551616)
end Go.Proofs.Ytomhheihhnmbcaa
