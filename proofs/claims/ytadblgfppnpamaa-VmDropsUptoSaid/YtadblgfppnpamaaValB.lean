/- Contracts of Result, the document's and the program's. No conditions. -/
import Derived.Test.YtadblgfppnpamaaValA
import Derived.Deep.Slices
namespace Go.Proofs.Ytadblgfppnpamaa
open Go.RowKit
set_option linter.unusedSimpArgs false

def numK (k : Int) : Bool := k == 1 || k == 4
def oneK (op k : Int) : Int :=
  if op = 6 ∧ (k = 1 ∨ k = 4) then k else if (op = 15 ∧ k = 2) ∨ (op = 17 ∧ k = 4) then 2 else if op = 16 ∧ k = 1 then 4 else 0
def twoK (op k : Int) : Int :=
  if (1 ≤ op ∧ op ≤ 4 ∧ (k = 1 ∨ k = 4)) ∨ (op = 5 ∧ k = 1) then k
  else if ((op = 7 ∨ op = 8) ∧ 1 ≤ k ∧ k ≤ 4) ∨ (9 ≤ op ∧ op ≤ 12 ∧ (k = 1 ∨ k = 4)) ∨ ((op = 13 ∨ op = 14) ∧ k = 2) then 2 else 0
def resK (op : Int) : List Int → Int
  | [k] => oneK op k
  | [a, b] => if a = b then twoK op a else 0
  | _ => 0

theorem numeric_any (k : Int) (w : World) : Calls Try.prog 84 #[.int .i64 k] w fun e w' => e = .returned (.bool (numK k)) ∧ w = w' := by
  go_enter Try.func84, Try.ntmps84
  go_wp2
  all_goals go_ret
  all_goals (refine ⟨?_, rfl⟩; simp_all [numK])

theorem one_any (op k : Int) (w : World) : Calls Try.prog 68 #[.int .i64 op, .int .i64 k] w fun e w' => e = .returned (.int .i64 (oneK op k)) ∧ w = w' := by
  go_enter Try.func68, Try.ntmps68
  go_wp2_with (go_at_call 84; refine (numeric_any k _).mono ?_; rintro e w' ⟨rfl, rfl⟩)
  all_goals (try go_ret)
  all_goals (refine ⟨?_, rfl⟩; simp_all [oneK, numK])

theorem two_any (op k : Int) (w : World) : Calls Try.prog 69 #[.int .i64 op, .int .i64 k] w fun e w' => e = .returned (.int .i64 (twoK op k)) ∧ w = w' := by
  go_enter Try.func69, Try.ntmps69
  go_wp2_with (go_at_call 84; refine (numeric_any k _).mono ?_; rintro e w' ⟨rfl, rfl⟩)
  all_goals (try go_ret)
  all_goals (refine ⟨?_, rfl⟩; apply ret_int; (try simp only [numK, Bool.and_eq_true, Bool.or_eq_true, beq_iff_eq, decide_eq_true_eq, Bool.not_eq_true, Bool.and_eq_false_iff, Bool.or_eq_false_iff, beq_eq_false_iff_ne, decide_eq_false_iff_not] at *); unfold twoK; repeat' split)
  all_goals (try omega)

def kcells (l : List Int) : List Value := l.map fun k => .int .i64 k

theorem result_any (op : Int) (l : List Int) (A : Option Addr) (c : Nat) (w : World) (hl : l.length ≤ 140737488351232) (h : Rd w w.heap.size A (kcells l)) :
    Calls Try.prog 60 #[.int .i64 op, .slice A l.length c] w fun e w' => e = .returned (.int .i64 (resK op l)) ∧ Below w.heap.size w w' := by
  match l, h with
  | [], h =>
    go_enter Try.func60, Try.ntmps60
    go_wp2
    go_ret
    exact ⟨rfl, Below.refl _ _⟩
  | [k], h =>
    obtain ⟨b, o, rfl, _, hc⟩ := h.at_ (j := 0) (by simp [kcells])
    have hc0 : w.cell? ⟨b, o, none⟩ = some (.int .i64 k) := hc 0 _ rfl
    clear h hc
    go_enter Try.func60, Try.ntmps60
    go_wp2_with (go_at_call 68; refine (one_any op k _).mono ?_; rintro e w' ⟨rfl, rfl⟩)
    go_ret
    exact ⟨rfl, Below.refl _ _⟩
  | [k, k2], h =>
    obtain ⟨b, o, rfl, _, hc⟩ := h.at_ (j := 0) (by simp [kcells])
    have hc0 : w.cell? ⟨b, o, none⟩ = some (.int .i64 k) := hc 0 _ rfl
    have hc1 : w.cell? ⟨b, o + 1, none⟩ = some (.int .i64 k2) := hc 1 _ rfl
    clear h hc
    by_cases e : k = k2
    · subst e
      go_enter Try.func60, Try.ntmps60
      go_wp2
      go_region
      go_wp2_with (go_at_call 69; refine (two_any op k _).mono ?_; rintro e w' ⟨rfl, rfl⟩)
      go_ret
      exact ⟨by simp [resK], Below.drew (Below.refl _ _)⟩
    · go_enter Try.func60, Try.ntmps60
      go_wp2
      go_region
      go_wp2
      go_ret
      exact ⟨by simp [resK, e], Below.drew (Below.refl _ _)⟩
  | k :: k2 :: k3 :: r, h =>
    clear h
    have hn : ((k :: k2 :: k3 :: r).length : Int) ≠ 1 := by simp; omega
    have hn2 : ((k :: k2 :: k3 :: r).length : Int) ≠ 2 := by simp; omega
    generalize hm : (k :: k2 :: k3 :: r).length = n at *
    go_enter Try.func60, Try.ntmps60
    go_wp2
    go_ret
    exact ⟨rfl, Below.refl _ _⟩

set_option maxHeartbeats 1600000 in
theorem rresult_any (op : Int) (l : List Int) (A : Option Addr) (c : Nat) (w : World) (hl : l.length ≤ 140737488351232) (h : Rd w w.heap.size A (kcells l)) :
    Calls Try.prog 41 #[.int .i64 op, .slice A l.length c] w fun e w' => e = .returned (.int .i64 (resK op l)) ∧ Below w.heap.size w w' := by
  match l, h with
  | [], h =>
    go_enter Try.func41, Try.ntmps41
    go_wp2
    go_region
    go_wp2
    go_ret
    exact ⟨rfl, Below.drew (Below.refl _ _)⟩
  | [k], h =>
    obtain ⟨b, o, rfl, _, hc⟩ := h.at_ (j := 0) (by simp [kcells])
    have hc0 : w.cell? ⟨b, o, none⟩ = some (.int .i64 k) := hc 0 _ rfl
    clear h hc
    go_enter Try.func41, Try.ntmps41
    go_wp2
    all_goals go_ret
    all_goals (refine ⟨?_, Below.refl _ _⟩; apply ret_int; (try simp only [resK, Bool.and_eq_true, Bool.or_eq_true, beq_iff_eq, decide_eq_true_eq, Bool.not_eq_true, Bool.and_eq_false_iff, Bool.or_eq_false_iff, beq_eq_false_iff_ne, decide_eq_false_iff_not] at *); unfold oneK; repeat' split)
    all_goals (try omega)
  | [k, k2], h =>
    obtain ⟨b, o, rfl, _, hc⟩ := h.at_ (j := 0) (by simp [kcells])
    have hc0 : w.cell? ⟨b, o, none⟩ = some (.int .i64 k) := hc 0 _ rfl
    have hc1 : w.cell? ⟨b, o + 1, none⟩ = some (.int .i64 k2) := hc 1 _ rfl
    clear h hc
    by_cases e : k = k2
    · subst e
      go_enter Try.func41, Try.ntmps41
      go_wp2
      go_region
      go_wp2
      all_goals go_ret
      all_goals (refine ⟨?_, Below.drew (Below.refl _ _)⟩; apply ret_int; (try simp only [resK, Bool.and_eq_true, Bool.or_eq_true, beq_iff_eq, decide_eq_true_eq, Bool.not_eq_true, Bool.and_eq_false_iff, Bool.or_eq_false_iff, beq_eq_false_iff_ne, decide_eq_false_iff_not, if_true] at *); unfold twoK; repeat' split)
      all_goals (try omega)
    · go_enter Try.func41, Try.ntmps41
      go_wp2
      go_region
      go_wp2
      go_ret
      exact ⟨by simp [resK, e], Below.drew (Below.refl _ _)⟩
  | k :: k2 :: k3 :: r, h =>
    clear h
    have hn : ((k :: k2 :: k3 :: r).length : Int) ≠ 1 := by simp; omega
    have hn2 : (((k :: k2 :: k3 :: r).length : Int) != 2) = true := by rw [bne_iff_ne]; simp; omega
    generalize hm : (k :: k2 :: k3 :: r).length = n at *
    go_enter Try.func41, Try.ntmps41
    go_wp2
    go_region
    go_wp2
    go_ret
    exact ⟨rfl, Below.drew (Below.refl _ _)⟩
end Go.Proofs.Ytadblgfppnpamaa
