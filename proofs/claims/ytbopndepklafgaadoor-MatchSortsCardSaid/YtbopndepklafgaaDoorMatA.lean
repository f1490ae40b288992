/- Layer 10: matches in memory; which are well made, by the program. No conditions. -/
import Derived.Test.YtbopndepklafgaaDoorBld
import Derived.Test.YtbopndepklafgaaDoorDec
import Derived.Test.YtbopndepklafgaaDoorRegO
import Derived.Deep.AppendLies
namespace Go.Proofs.YtbopndepklafgaaDoor
open Go.RowKit
set_option maxRecDepth 10000
set_option linter.unusedVariables false
set_option linter.unusedSimpArgs false

/-- A row of ints in memory. -/
structure RowV where
  A : Option Addr
  c : Nat
  l : List Int
def ints (l : List Int) : List Value := l.map fun n : Int => Value.int .i64 n
theorem ints_len (l : List Int) : (ints l).length = l.length := by simp [ints]
def RowV.cells (r : RowV) : List Value := [.slice r.A r.l.length r.c]
structure RowV.ok (r : RowV) (w : World) (B : Nat) : Prop where
  rd : Rd w B r.A (ints r.l)
  len : r.l.length ≤ 17592186043904
theorem RowV.ok.keep {e : RowV} {w w' : World} {B B' : Nat} (h : e.ok w B) (hb : Below B w w') (hB : B ≤ B') : e.ok w' B' := ⟨(h.rd.below hb).more hB, h.len⟩
theorem RowV.ok.old {e : RowV} {w w' : World} (h : e.ok w w.heap.size) (hb : Below w.heap.size w w') : e.ok w' w'.heap.size := h.keep hb hb.size
/-- A match in memory. -/
structure MatV where
  step : Int
  branch : Int
  A : Option Addr
  c : Nat
  rows : List RowV
def MatV.cells (m : MatV) : List Value := [.int .i64 m.step, .int .i64 m.branch, .slice m.A m.rows.length m.c]
def MatV.val (m : MatV) : Value := .agg #[.int .i64 m.step, .int .i64 m.branch, .slice m.A m.rows.length m.c]
structure MatV.ok (m : MatV) (w : World) (B : Nat) : Prop where
  rd : Rd w B m.A (m.rows.flatMap RowV.cells)
  len : m.rows.length ≤ 5864062014634
  each : ∀ r ∈ m.rows, r.ok w B
  stepR : -9223372036854775808 ≤ m.step ∧ m.step ≤ 9223372036854775807
  branchR : -9223372036854775808 ≤ m.branch ∧ m.branch ≤ 9223372036854775807
theorem MatV.ok.keep {e : MatV} {w w' : World} {B B' : Nat} (h : e.ok w B) (hb : Below B w w') (hB : B ≤ B') : e.ok w' B' := ⟨(h.rd.below hb).more hB, h.len, fun r hr => (h.each r hr).keep hb hB, h.stepR, h.branchR⟩
theorem MatV.ok.old {e : MatV} {w w' : World} (h : e.ok w w.heap.size) (hb : Below w.heap.size w w') : e.ok w' w'.heap.size := h.keep hb hb.size
def MatV.L (m : MatV) : List (List Int) := m.rows.map (·.l)

/-- Through places that grow: the last. -/
def ascT (p : Int) : List Int → Option Int
  | [] => some p
  | x :: l => if x ≤ p then none else ascT x l
def partsT (p : Int) : List (List Int) → Option Int
  | [] => some p
  | l :: L => if l.length = 0 then none else match ascT p l with | none => none | some q => partsT q L
def lastB (st br n q : Int) : Bool := decide (0 ≤ br) && (decide (0 ≤ q) && (decide (q < n) && (decide (q ≤ st) && decide (st ≤ n))))
def goodB (st br n : Int) (L : List (List Int)) : Bool := match partsT (-1) L with | none => false | some q => lastB st br n q
theorem asc_drop (q : Int) (l : List Int) (j : Nat) (h : j < l.length) : ascT q (l.drop j) = if l[j] ≤ q then none else ascT l[j] (l.drop (j + 1)) := by
  rw [List.drop_eq_getElem_cons h]; rfl
theorem parts_drop (p : Int) (L : List (List Int)) (k : Nat) (h : k < L.length) : partsT p (L.drop k) = if L[k].length = 0 then none else match ascT p L[k] with | none => none | some q => partsT q (L.drop (k + 1)) := by
  rw [List.drop_eq_getElem_cons h]; rfl

set_option maxRecDepth 100000 in
set_option maxHeartbeats 2000000 in
theorem good_any (m : MatV) (n : Int) (w : World) (h : m.ok w w.heap.size) :
    Calls Tryd.prog 12 #[m.val, .int .i64 n] w fun r w' => r = .returned (.bool (goodB m.step m.branch n m.L)) ∧ Below w.heap.size w w' := by
  have hb0 : Below w.heap.size w (w.alloc (.cells #[.int .i64 m.step, .int .i64 m.branch, .slice m.A m.rows.length m.c] 27)) := (Below.refl _ _).alloc (Nat.le_refl _) _
  have RD := Lib.hid (h.rd.below hb0)
  have EA : Hid (∀ r ∈ m.rows, r.ok (w.alloc (.cells #[.int .i64 m.step, .int .i64 m.branch, .slice m.A m.rows.length m.c] 27)) w.heap.size) := Lib.hid (fun r hr => (h.each r hr).keep hb0 (Nat.le_refl _))
  have hlen := h.len
  have HB := Lib.hid hb0
  have HX := Lib.hid (Bk.new w 27 #[.int .i64 m.step, .int .i64 m.branch, .slice m.A m.rows.length m.c])
  clear h hb0
  obtain ⟨RES, hres⟩ : ∃ RES, goodB m.step m.branch n m.L = RES := ⟨_, rfl⟩
  rw [hres]
  unfold goodB at hres
  have HRES := Lib.hid hres
  clear hres
  unfold MatV.val
  go_enter Tryd.func12, Tryd.ntmps12
  go_wp2
  generalize w.alloc (.cells #[.int .i64 m.step, .int .i64 m.branch, .slice m.A m.rows.length m.c] 27) = W at *
  go_loopw [5, 13] (fun p i wr => ∃ (k : Nat) (q : Int), k ≤ m.rows.length ∧ p = .int .i64 q ∧ i = .int .i64 k ∧ wr = W ∧ Hid (partsT (-1) m.L = partsT q (m.L.drop k))) (fun _ i _ => m.rows.length - (intOf i).toNat)
  case atStart => exact ⟨0, -1, Nat.zero_le _, rfl, rfl, rfl, rfl⟩
  case round =>
    obtain ⟨k, p, hk, rfl, rfl, rfl, hrec⟩ := hrel
    by_cases hlt : k < m.rows.length
    · as_aux_lemma =>
      obtain ⟨b, o, hA, hb, hc⟩ := RD.out.elem (n := 1) (fun _ => rfl) (by omega) hlt
      have hc0 : wr.cell? ⟨b, o + k * 1, none⟩ = some (.slice m.rows[k].A m.rows[k].l.length m.rows[k].c) := hc 0 _ rfl
      rw [Nat.mul_one] at hc0
      have hR := EA.out m.rows[k] (List.getElem_mem _)
      have hnx := parts_drop p m.L k (by unfold MatV.L; simpa using hlt)
      have hLk : m.L[k]'(by unfold MatV.L; simpa using hlt) = m.rows[k].l := by simp [MatV.L]
      rw [hLk] at hnx
      have HNX := Lib.hid (hrec.out.trans hnx)
      clear hrec hnx hLk hc
      rw [hA]
      generalize m.rows[k] = R at *
      have hrl := hR.len
      have HR := Lib.hid hR.rd
      clear hR
      by_cases hz : R.l.length = 0
      · have HF : Hid (false = RES) := Lib.hid (by have h2 := HNX.out; rw [if_pos hz] at h2; have h3 := HRES.out; rw [h2] at h3; exact h3)
        rw [hz] at hc0
        clear hz HNX
        go_wp2
        go_ret
        exact ⟨ret_bool HF.out, HB.out⟩
      · have HN2 : Hid (partsT (-1) m.L = match ascT p R.l with | none => none | some q => partsT q (m.L.drop (k + 1))) := Lib.hid (by have h2 := HNX.out; rw [if_neg hz] at h2; exact h2)
        have hz2 : ¬ ((R.l.length : Int) = 0) := by omega
        have hz3 : ((R.l.length : Int) == 0) = false := by rw [beq_eq_false_iff_ne]; exact hz2
        clear HNX hz hz2
        go_wp2
        clear hc0 hz3
        go_loopw [5, 22] (fun q i wr' => ∃ (j : Nat) (q' : Int), j ≤ R.l.length ∧ q = .int .i64 q' ∧ i = .int .i64 j ∧ wr' = wr ∧ Hid (ascT p R.l = ascT q' (R.l.drop j))) (fun _ i _ => R.l.length - (intOf i).toNat)
        case atStart => exact ⟨0, p, Nat.zero_le _, rfl, rfl, rfl, rfl⟩
        case round =>
          obtain ⟨j, q, hj, rfl, rfl, rfl, hrec⟩ := hrel
          by_cases hlj : j < R.l.length
          · as_aux_lemma =>
            obtain ⟨b', o', hA', hb', hc'⟩ := HR.out.elem1 hlj
            have hnx := asc_drop q R.l j hlj
            have HQ := Lib.hid (hrec.out.trans hnx)
            rw [hA']
            clear hnx hrec
            generalize R.l[j] = x at *
            by_cases hx : x ≤ q
            · have HF : Hid (false = RES) := Lib.hid (by have h2 := HQ.out; rw [if_pos hx] at h2; have h3 := HN2.out; rw [h2] at h3; have h4 := HRES.out; rw [h3] at h4; exact h4)
              clear HQ HN2
              go_wp2
              go_ret
              exact ⟨ret_bool HF.out, HB.out⟩
            · have HN3 : Hid (ascT p R.l = ascT x (R.l.drop (j + 1))) := Lib.hid (by have h2 := HQ.out; rw [if_neg hx] at h2; exact h2)
              clear HQ
              go_wp2
              go_roundw
              case rel => exact ⟨j + 1, x, by omega, rfl, by go_num, by first | rfl | trivial, HN3⟩
              case measure => simp [intOf]; omega
          · as_aux_lemma =>
            obtain rfl : j = R.l.length := by omega
            have HN3 : Hid (partsT (-1) m.L = partsT q (m.L.drop (k + 1))) := Lib.hid (by have h2 := hrec.out; rw [List.drop_length] at h2; rw [HN2.out, h2]; rfl)
            clear hrec HN2
            go_wp2
            go_roundw
            case rel => exact ⟨k + 1, q, by omega, rfl, by go_num, by first | rfl | trivial, HN3⟩
            case measure => simp [intOf]; omega
    · as_aux_lemma =>
      obtain rfl : k = m.rows.length := by omega
      have HF : Hid (lastB m.step m.branch n p = RES) := Lib.hid (by
        have h2 := hrec.out
        rw [List.drop_eq_nil_of_le (by unfold MatV.L; simp)] at h2
        have h3 := HRES.out; rw [h2] at h3; exact h3)
      have x0 := HX.out.cell 0
      have x1 := HX.out.cell 1
      clear hrec HRES
      unfold lastB at HF
      by_cases h1 : 0 ≤ m.branch <;> by_cases h2 : 0 ≤ p <;> by_cases h3 : p < n <;> by_cases h4 : p ≤ m.step <;> by_cases h5 : m.step ≤ n
      all_goals
        simp only [h1, h2, h3, h4, h5, decide_true, decide_false, Bool.and_true, Bool.true_and, Bool.and_false, Bool.false_and] at HF
        first | (exfalso; omega) | (go_wp2; go_ret; exact ⟨ret_bool HF.out, HB.out⟩)
end Go.Proofs.YtbopndepklafgaaDoor
