/- Contracts of the program's operators on ints, Bools and reals. No conditions. -/
import Derived.Test.YtadblgfppnpamaaValC
import Derived.Test.YtadblgfppnpamaaValB
import Derived.Deep.Slices
namespace Go.Proofs.Ytadblgfppnpamaa
open Go.RowKit
set_option linter.unusedSimpArgs false
set_option linter.unusedVariables false

def numV (op a b : Int) : Option Int :=
  if op = 1 then fitI (a + b) else if op = 2 then fitI (a - b) else if op = 3 then fitI (a * b)
  else if b = 0 then none else if b = -1 then (if op = 4 then fitI (0 - a) else some 0) else if op = 4 then some (a.tdiv b) else some (a.tmod b)

theorem tdiv_in {a b : Int} (ha : I64 a) (h0 : b ≠ 0) (h1 : b ≠ -1) : wrap64 (a.tdiv b) = a.tdiv b := by
  have h : (a.tdiv b).natAbs ≤ a.natAbs := by rw [Int.natAbs_tdiv]; exact Nat.div_le_self _ _
  have h2 : b.natAbs = 1 ∨ 2 ≤ b.natAbs := by omega
  unfold I64 at ha
  have : a.tdiv b ≠ 9223372036854775808 := by
    intro e
    have hb : (a.tdiv b).natAbs = a.natAbs / b.natAbs := Int.natAbs_tdiv a b
    rw [e] at hb
    rcases h2 with h2 | h2
    · have : b = 1 := by omega
      subst this
      rw [Int.tdiv_one] at e
      omega
    · have := Nat.div_le_div_left h2 (a := a.natAbs) (by omega)
      simp at hb
      omega
  unfold wrap64
  omega
theorem tmod_in {a b : Int} (ha : I64 a) : wrap64 (a.tmod b) = a.tmod b := by
  have h : (a.tmod b).natAbs ≤ a.natAbs := by rw [Int.natAbs_tmod]; exact Nat.mod_le _ _
  unfold I64 at ha
  have : a.tmod b ≠ 9223372036854775808 := by
    intro e
    by_cases h0 : 0 ≤ a
    · have := Int.tmod_nonneg b h0; omega
    · have := Int.tmod_nonneg b (a := -a) (by omega)
      rw [Int.neg_tmod] at this
      omega
  unfold wrap64
  omega

theorem number_any (op a b : Int) (ha : I64 a) (hb : I64 b) (w : World) :
    Calls Try.prog 82 #[.int .i64 op, .int .i64 a, .int .i64 b] w fun e w' => e = endsI (numV op a b) ∧ w = w' := by
  have hz : I64 0 := by unfold I64; omega
  by_cases h1 : op = 1
  · subst h1
    rw [show numV 1 a b = fitI (a + b) from rfl]
    have hc := add_any a b ha hb
    generalize fitI (a + b) = r at *
    go_enter Try.func82, Try.ntmps82
    go_wp2_with fail
    refine (hc _).mono ?_
    rintro e w' ⟨rfl, rfl⟩
    cases r <;> simp only [endsI]
    · exact ⟨rfl, rfl, rfl⟩
    · go_wp2; go_ret; exact ⟨rfl, rfl⟩
  by_cases h2 : op = 2
  · subst h2
    rw [show numV 2 a b = fitI (a - b) from rfl]
    have hc := sub_any a b ha hb
    generalize fitI (a - b) = r at *
    go_enter Try.func82, Try.ntmps82
    go_wp2_with fail
    refine (hc _).mono ?_
    rintro e w' ⟨rfl, rfl⟩
    cases r <;> simp only [endsI]
    · exact ⟨rfl, rfl, rfl⟩
    · go_wp2; go_ret; exact ⟨rfl, rfl⟩
  by_cases h3 : op = 3
  · subst h3
    rw [show numV 3 a b = fitI (a * b) from rfl]
    have hc := mul_any a b ha hb
    generalize fitI (a * b) = r at *
    go_enter Try.func82, Try.ntmps82
    go_wp2_with fail
    refine (hc _).mono ?_
    rintro e w' ⟨rfl, rfl⟩
    cases r <;> simp only [endsI]
    · exact ⟨rfl, rfl, rfl⟩
    · go_wp2; go_ret; exact ⟨rfl, rfl⟩
  by_cases hb0 : b = 0
  · subst hb0
    have e1 : numV op a 0 = none := by unfold numV; rw [if_neg h1, if_neg h2, if_neg h3, if_pos rfl]
    rw [e1]
    go_enter Try.func82, Try.ntmps82
    go_wp2
    exact ⟨rfl, rfl, rfl⟩
  by_cases hb1 : b = -1
  · subst hb1
    by_cases h4 : op = 4
    · subst h4
      rw [show numV 4 a (-1) = fitI (0 - a) from rfl]
      have hc := sub_any 0 a hz ha
      generalize fitI (0 - a) = r at *
      go_enter Try.func82, Try.ntmps82
      go_wp2_with fail
      refine (hc _).mono ?_
      rintro e w' ⟨rfl, rfl⟩
      cases r <;> simp only [endsI]
      · exact ⟨rfl, rfl, rfl⟩
      · go_wp2; go_ret; exact ⟨rfl, rfl⟩
    · have e1 : numV op a (-1) = some 0 := by unfold numV; rw [if_neg h1, if_neg h2, if_neg h3, if_neg (by omega), if_pos rfl, if_neg h4]
      rw [e1]
      go_enter Try.func82, Try.ntmps82
      go_wp2
      go_ret
      exact ⟨rfl, rfl⟩
  have ed := tdiv_in ha hb0 hb1
  have em := tmod_in (b := b) ha
  by_cases h4 : op = 4
  · subst h4
    have e1 : numV 4 a b = some (a.tdiv b) := by unfold numV; rw [if_neg h1, if_neg h2, if_neg h3, if_neg hb0, if_neg hb1, if_pos rfl]
    rw [e1, ← ed]
    clear ed em
    go_enter Try.func82, Try.ntmps82
    go_wp2
    go_ret
    exact ⟨rfl, rfl⟩
  · have e1 : numV op a b = some (a.tmod b) := by unfold numV; rw [if_neg h1, if_neg h2, if_neg h3, if_neg hb0, if_neg hb1, if_neg h4]
    rw [e1]
    go_enter Try.func82, Try.ntmps82
    go_wp2
    go_ret
    exact ⟨rfl, rfl⟩

/-- A Bool. -/
def yesV (b : Bool) : V := ⟨2, b.toNat⟩
theorem yes_fits (b : Bool) : (yesV b).fits := by cases b <;> simp [yesV, V.fits]
theorem yes_any (b : Bool) (w : World) : Calls Try.prog 76 #[.bool b] w fun e w' => e = .returned (yesV b).v ∧ Below w.heap.size w w' := by
  cases b
  · go_enter Try.func76, Try.ntmps76
    go_wp2
    exact bodyPost_ret (v := .agg #[.int .i64 2, .int .u64 0]) (by simp [results, Try.results76, go_sem]) rfl ⟨rfl, by repeat (first | exact Below.refl _ _ | refine Below.alloc ?_ (by simp) _)⟩
  · go_enter Try.func76, Try.ntmps76
    go_wp2
    exact bodyPost_ret (v := .agg #[.int .i64 2, .int .u64 1]) (by simp [results, Try.results76, go_sem]) rfl ⟨rfl, by repeat (first | exact Below.refl _ _ | refine Below.alloc ?_ (by simp) _)⟩

def holdsB (op : Int) (l e m : Bool) : Bool :=
  if op = 7 then e else if op = 8 then !e else if op = 9 then l else if op = 10 then l || e else if op = 11 then m else m || e
theorem holds_any (op : Int) (l e m : Bool) (w : World) : Calls Try.prog 78 #[.int .i64 op, .bool l, .bool e, .bool m] w fun r w' => r = .returned (.bool (holdsB op l e m)) ∧ w = w' := by
  go_enter Try.func78, Try.ntmps78
  go_wp2
  all_goals go_ret
  all_goals (refine ⟨?_, rfl⟩; simp_all [holdsB])

/-- The cells of a value's block. -/
theorem vcells {w : World} {g : Nat} {t : TypeId} {u v : Value} (h : Bk w g t #[u, v]) : w.cell? ⟨g, 0, none⟩ = some u ∧ w.cell? ⟨g, 1, none⟩ = some v ∧ w.frozen? ⟨g, 0, none⟩ = false ∧ w.frozen? ⟨g, 1, none⟩ = false := ⟨h.cell 0, h.cell 1, h.frozen 0, h.frozen 1⟩
theorem vput {w : World} {g : Nat} {t : TypeId} {u v : Value} (h : Bk w g t #[u, v]) (u' v' : Value) : Bk ((w.setCell ⟨g, 0, none⟩ u').setCell ⟨g, 1, none⟩ v') g t #[u', v'] := (h.put 0 u').put 1 v'
/-- 1 true, -1 false, 0 neither. -/
def truthI (x : V) : Int := if (clean x).k = 2 then (if (clean x).b = 1 then 1 else -1) else 0
theorem truth_any (x : V) (h : x.fits) (w : World) : Calls Try.prog 59 #[x.v] w fun e w' => e = .returned (.int .i64 (truthI x)) ∧ Below w.heap.size w w' := by
  have hc := pclean_any x h
  obtain ⟨n, hn⟩ : ∃ n, truthI x = n := ⟨_, rfl⟩
  rw [hn]
  unfold truthI at hn
  unfold V.v at hc ⊢
  generalize clean x = c at *
  obtain ⟨k, b⟩ := c
  simp only at hc hn
  go_enter Try.func59, Try.ntmps59
  go_wp2_with fail
  refine (hc _).mono ?_
  rintro e w1 ⟨rfl, hb⟩
  have hb1 : Below w.heap.size w w1 := ((Below.refl _ _).alloc (Nat.le_refl _) _).trans (hb.mono (by simp))
  have kr := (Bk.new w 31 #[.int .i64 x.k, .int .u64 x.b]).old hb
  obtain ⟨c0, c1, f0, f1⟩ := vcells kr
  have hB : Below w.heap.size w ((w1.setCell ⟨w.heap.size, 0, none⟩ (.int .i64 k)).setCell ⟨w.heap.size, 1, none⟩ (.int .u64 b)) := (hb1.setCell (Nat.le_refl _) _).setCell (Nat.le_refl _) _
  clear hb kr hb1
  by_cases h1 : k = 2
  · by_cases h2 : b = 1
    · rw [if_pos h1, if_pos h2] at hn
      subst hn h1 h2
      go_wp2
      go_ret
      exact ⟨rfl, hB⟩
    · rw [if_pos h1, if_neg h2] at hn
      subst hn h1
      go_wp2
      go_ret
      exact ⟨rfl, hB⟩
  · rw [if_neg h1] at hn
    subst hn
    go_wp2
    go_ret
    exact ⟨rfl, hB⟩

def toldV (t : Int) : Option V := if 0 < t then some (yesV true) else if t < 0 then some (yesV false) else none
def endsV : Option V → Ending
  | some x => .returned x.v
  | none => .panicked thrown
theorem told_any (t : Int) (w : World) : Calls Try.prog 67 #[.int .i64 t] w fun e w' => e = endsV (toldV t) ∧ Below w.heap.size w w' := by
  by_cases h1 : 0 < t
  · rw [show toldV t = some (yesV true) from if_pos h1]
    go_enter Try.func67, Try.ntmps67
    go_wp2_with fail
    refine (yes_any true _).mono ?_
    rintro e w1 ⟨rfl, hb⟩
    have kr := (Bk.new w 31 #[.int .i64 0, .int .u64 0]).old hb
    obtain ⟨c0, c1, f0, f1⟩ := vcells kr
    obtain ⟨d0, d1, _, _⟩ := vcells (vput kr (.int .i64 2) (.int .u64 1))
    have hb1 : Below w.heap.size w w1 := ((Below.refl _ _).alloc (Nat.le_refl _) _).trans (hb.mono (by simp))
    clear hb
    show _
    simp only [yesV, V.v, Bool.toNat_true]
    go_wp2
    exact bodyPost_ret (v := .agg #[.int .i64 2, .int .u64 1]) (by simp [results, Try.results67, go_sem, d0, d1]) rfl ⟨rfl, (hb1.setCell (Nat.le_refl _) _).setCell (Nat.le_refl _) _⟩
  by_cases h2 : t < 0
  · rw [show toldV t = some (yesV false) from (if_neg h1).trans (if_pos h2)]
    go_enter Try.func67, Try.ntmps67
    go_wp2_with fail
    refine (yes_any false _).mono ?_
    rintro e w1 ⟨rfl, hb⟩
    have kr := (Bk.new w 31 #[.int .i64 0, .int .u64 0]).old hb
    obtain ⟨c0, c1, f0, f1⟩ := vcells kr
    obtain ⟨d0, d1, _, _⟩ := vcells (vput kr (.int .i64 2) (.int .u64 0))
    have hb1 : Below w.heap.size w w1 := ((Below.refl _ _).alloc (Nat.le_refl _) _).trans (hb.mono (by simp))
    clear hb
    simp only [yesV, V.v, Bool.toNat_false]
    go_wp2
    exact bodyPost_ret (v := .agg #[.int .i64 2, .int .u64 0]) (by simp [results, Try.results67, go_sem, d0, d1]) rfl ⟨rfl, (hb1.setCell (Nat.le_refl _) _).setCell (Nat.le_refl _) _⟩
  · rw [show toldV t = none from (if_neg h1).trans (if_neg h2)]
    go_enter Try.func67, Try.ntmps67
    go_wp2
    exact ⟨rfl, rfl, (Below.refl _ _).alloc (Nat.le_refl _) _⟩

theorem logic_any (a b : Int) (o : Bool) (w : World) : Calls Try.prog 58 #[.int .i64 a, .int .i64 b, .bool o] w fun e w' => e = endsV (toldV (if o then max a b else min a b)) ∧ Below w.heap.size w w' := by
  cases o
  · rw [show (if false = true then max a b else min a b) = min a b from rfl]
    have hc := told_any (min a b)
    generalize hm : min a b = m at *
    generalize toldV m = r at *
    by_cases h : a ≤ b
    · have e1 : a = m := by omega
      subst e1
      clear hm
      go_enter Try.func58, Try.ntmps58
      go_wp2_with fail
      refine (hc _).mono ?_
      rintro e w1 ⟨rfl, hb⟩
      cases r with
      | none => exact ⟨rfl, rfl, ((Below.refl _ _).alloc (Nat.le_refl _) _).trans (hb.mono (by simp))⟩
      | some r =>
        obtain ⟨k, b⟩ := r
        simp only [endsV, V.v]
        have kr := (Bk.new w 31 #[.int .i64 0, .int .u64 0]).old hb
        obtain ⟨c0, c1, f0, f1⟩ := vcells kr
        obtain ⟨d0, d1, _, _⟩ := vcells (vput kr (.int .i64 k) (.int .u64 b))
        have hb1 : Below w.heap.size w w1 := ((Below.refl _ _).alloc (Nat.le_refl _) _).trans (hb.mono (by simp))
        clear hb kr
        go_wp2
        exact bodyPost_ret (v := .agg #[.int .i64 k, .int .u64 b]) (by simp [results, Try.results58, go_sem, d0, d1]) rfl ⟨rfl, (hb1.setCell (Nat.le_refl _) _).setCell (Nat.le_refl _) _⟩
    · have e1 : b = m := by omega
      subst e1
      clear hm
      go_enter Try.func58, Try.ntmps58
      go_wp2_with fail
      refine (hc _).mono ?_
      rintro e w1 ⟨rfl, hb⟩
      cases r with
      | none => exact ⟨rfl, rfl, ((Below.refl _ _).alloc (Nat.le_refl _) _).trans (hb.mono (by simp))⟩
      | some r =>
        obtain ⟨k, b⟩ := r
        simp only [endsV, V.v]
        have kr := (Bk.new w 31 #[.int .i64 0, .int .u64 0]).old hb
        obtain ⟨c0, c1, f0, f1⟩ := vcells kr
        obtain ⟨d0, d1, _, _⟩ := vcells (vput kr (.int .i64 k) (.int .u64 b))
        have hb1 : Below w.heap.size w w1 := ((Below.refl _ _).alloc (Nat.le_refl _) _).trans (hb.mono (by simp))
        clear hb kr
        go_wp2
        exact bodyPost_ret (v := .agg #[.int .i64 k, .int .u64 b]) (by simp [results, Try.results58, go_sem, d0, d1]) rfl ⟨rfl, (hb1.setCell (Nat.le_refl _) _).setCell (Nat.le_refl _) _⟩
  · rw [show (if true = true then max a b else min a b) = max a b from rfl]
    have hc := told_any (max a b)
    generalize hm : max a b = m at *
    generalize toldV m = r at *
    by_cases h : b ≤ a
    · have e1 : a = m := by omega
      subst e1
      clear hm
      go_enter Try.func58, Try.ntmps58
      go_wp2_with fail
      refine (hc _).mono ?_
      rintro e w1 ⟨rfl, hb⟩
      cases r with
      | none => exact ⟨rfl, rfl, ((Below.refl _ _).alloc (Nat.le_refl _) _).trans (hb.mono (by simp))⟩
      | some r =>
        obtain ⟨k, b⟩ := r
        simp only [endsV, V.v]
        have kr := (Bk.new w 31 #[.int .i64 0, .int .u64 0]).old hb
        obtain ⟨c0, c1, f0, f1⟩ := vcells kr
        obtain ⟨d0, d1, _, _⟩ := vcells (vput kr (.int .i64 k) (.int .u64 b))
        have hb1 : Below w.heap.size w w1 := ((Below.refl _ _).alloc (Nat.le_refl _) _).trans (hb.mono (by simp))
        clear hb kr
        go_wp2
        exact bodyPost_ret (v := .agg #[.int .i64 k, .int .u64 b]) (by simp [results, Try.results58, go_sem, d0, d1]) rfl ⟨rfl, (hb1.setCell (Nat.le_refl _) _).setCell (Nat.le_refl _) _⟩
    · have e1 : b = m := by omega
      subst e1
      clear hm
      go_enter Try.func58, Try.ntmps58
      go_wp2_with fail
      refine (hc _).mono ?_
      rintro e w1 ⟨rfl, hb⟩
      cases r with
      | none => exact ⟨rfl, rfl, ((Below.refl _ _).alloc (Nat.le_refl _) _).trans (hb.mono (by simp))⟩
      | some r =>
        obtain ⟨k, b⟩ := r
        simp only [endsV, V.v]
        have kr := (Bk.new w 31 #[.int .i64 0, .int .u64 0]).old hb
        obtain ⟨c0, c1, f0, f1⟩ := vcells kr
        obtain ⟨d0, d1, _, _⟩ := vcells (vput kr (.int .i64 k) (.int .u64 b))
        have hb1 : Below w.heap.size w w1 := ((Below.refl _ _).alloc (Nat.le_refl _) _).trans (hb.mono (by simp))
        clear hb kr
        go_wp2
        exact bodyPost_ret (v := .agg #[.int .i64 k, .int .u64 b]) (by simp [results, Try.results58, go_sem, d0, d1]) rfl ⟨rfl, (hb1.setCell (Nat.le_refl _) _).setCell (Nat.le_refl _) _⟩

def un (n : Int) : Nat := (n % 18446744073709551616).toNat
theorem un_wrap (n : Int) : IntKind.u64.wrap n = (un n : Int) := by rw [IntKind.wrap_u64]; unfold un; omega
theorem un_lt (n : Int) : un n < 18446744073709551616 := by unfold un; omega
def intV (n : Int) : V := ⟨1, un n⟩
def intsV (op : Int) (x y : V) : Option V :=
  if op = 15 then some (yesV (wrap64 x.b == 0)) else if op = 16 then some ⟨4, ofInt (wrap64 x.b)⟩
  else if 7 ≤ op ∧ op ≤ 12 then some (yesV (holdsB op (decide (wrap64 x.b < wrap64 y.b)) (wrap64 x.b == wrap64 y.b) (decide (wrap64 y.b < wrap64 x.b))))
  else if op = 6 then (fitI (0 - wrap64 x.b)).map intV else (numV op (wrap64 x.b) (wrap64 y.b)).map intV
theorem i64_wrap (n : Int) : I64 (wrap64 n) := by unfold I64 wrap64; omega

theorem intsNot_any1 (x : V) (b o c : Nat) (w : World) (hn : 1 ≤ c) (hc1 : w.cell? ⟨b, o + 1, none⟩ = some (.int .u64 x.b)) :
    Calls Try.prog 62 #[.int .i64 15, .slice (some ⟨b, o, none⟩) 1 c] w fun e w' => e = endsV (some (yesV (wrap64 x.b == 0))) ∧ Below w.heap.size w w' := by
  have hlt : b < w.heap.size := World.block_lt_of_cell? w _ hc1
  generalize hr : (wrap64 x.b == 0) = r
  go_enter Try.func62, Try.ntmps62
  go_wp2_with fail
  refine (yes_any _ _).mono ?_
  rintro e w1 ⟨rfl, hb⟩
  simp only [endsV, yesV, V.v]
  have kr := (Bk.new w 31 #[.int .i64 0, .int .u64 0]).old hb
  obtain ⟨c0, c1, f0, f1⟩ := vcells kr
  obtain ⟨d0, d1, _, _⟩ := vcells (vput kr (.int .i64 2) (.int .u64 r.toNat))
  have hb1 : Below w.heap.size w w1 := ((Below.refl _ _).alloc (Nat.le_refl _) _).trans (hb.mono (by simp))
  clear hb kr
  go_wp2
  exact bodyPost_ret (v := .agg #[.int .i64 2, .int .u64 r.toNat]) (by simp [results, Try.results62, go_sem, d0, d1]) rfl ⟨rfl, (hb1.setCell (Nat.le_refl _) _).setCell (Nat.le_refl _) _⟩

theorem intsReal_any1 (x : V) (b o c : Nat) (w : World) (hn : 1 ≤ c) (hc1 : w.cell? ⟨b, o + 1, none⟩ = some (.int .u64 x.b)) :
    Calls Try.prog 62 #[.int .i64 16, .slice (some ⟨b, o, none⟩) 1 c] w fun e w' => e = endsV (some ⟨4, ofInt (wrap64 x.b)⟩) ∧ Below w.heap.size w w' := by
  have hlt : b < w.heap.size := World.block_lt_of_cell? w _ hc1
  have hh := ofInt_real (wrap64 x.b)
  generalize ofInt (wrap64 x.b) = r at *
  go_enter Try.func62, Try.ntmps62
  go_wp2_with fail
  refine (hh _).mono ?_
  rintro e w1 ⟨rfl, rfl⟩
  simp only [endsV, V.v]
  obtain ⟨c0, c1, f0, f1⟩ := vcells (Bk.new w 31 #[.int .i64 0, .int .u64 0])
  obtain ⟨d0, d1, _, _⟩ := vcells (vput (Bk.new w 31 #[.int .i64 0, .int .u64 0]) (.int .i64 4) (.int .u64 r))
  go_wp2
  exact bodyPost_ret (v := .agg #[.int .i64 4, .int .u64 r]) (by simp [results, Try.results62, go_sem, d0, d1]) rfl ⟨rfl, by repeat (first | exact Below.refl _ _ | refine Below.setCell ?_ (Nat.le_refl _) _ | refine Below.alloc ?_ (by simp) _)⟩

theorem intsCmp_any1 (op : Int) (x : V) (b o c : Nat) (w : World) (hn : 1 ≤ c) (hc1 : w.cell? ⟨b, o + 1, none⟩ = some (.int .u64 x.b)) (hc7 : 7 ≤ op) (hc12 : op ≤ 12) :
    Calls Try.prog 62 #[.int .i64 op, .slice (some ⟨b, o, none⟩) 1 c] w fun e w' => e = endsV (some (yesV (holdsB op (decide (wrap64 x.b < wrap64 x.b)) (wrap64 x.b == wrap64 x.b) (decide (wrap64 x.b < wrap64 x.b))))) ∧ Below w.heap.size w w' := by
  have hlt : b < w.heap.size := World.block_lt_of_cell? w _ hc1
  have hh := holds_any op (decide (wrap64 x.b < wrap64 x.b)) (wrap64 x.b == wrap64 x.b) (decide (wrap64 x.b < wrap64 x.b))
  generalize holdsB op (decide (wrap64 x.b < wrap64 x.b)) (wrap64 x.b == wrap64 x.b) (decide (wrap64 x.b < wrap64 x.b)) = r at *
  go_enter Try.func62, Try.ntmps62
  go_wp2_with fail
  simp only [Int.lt_irrefl, decide_false, beq_self_eq_true] at hh
  refine (hh _).mono ?_
  rintro e w1 ⟨rfl, rfl⟩
  go_wp2_with fail
  refine (yes_any _ _).mono ?_
  rintro e w1 ⟨rfl, hb⟩
  simp only [endsV, yesV, V.v]
  have kr := (Bk.new w 31 #[.int .i64 0, .int .u64 0]).old hb
  obtain ⟨c0, c1, f0, f1⟩ := vcells kr
  obtain ⟨d0, d1, _, _⟩ := vcells (vput kr (.int .i64 2) (.int .u64 r.toNat))
  have hb1 : Below w.heap.size w w1 := ((Below.refl _ _).alloc (Nat.le_refl _) _).trans (hb.mono (by simp))
  clear hb kr
  go_wp2
  exact bodyPost_ret (v := .agg #[.int .i64 2, .int .u64 r.toNat]) (by simp [results, Try.results62, go_sem, d0, d1]) rfl ⟨rfl, (hb1.setCell (Nat.le_refl _) _).setCell (Nat.le_refl _) _⟩

theorem intsNeg_any1 (op : Int) (x : V) (b o c : Nat) (w : World) (hn : 1 ≤ c) (hc1 : w.cell? ⟨b, o + 1, none⟩ = some (.int .u64 x.b)) (r : Option Int) (hh : ∀ w : World, Calls Try.prog 81 #[.int .i64 0, .int .i64 (wrap64 x.b)] w fun e w' => e = endsI r ∧ w = w') (h6 : (op == 6) = true) (h15 : op ≠ 15) (h16 : op ≠ 16) (g : ¬ 7 ≤ op) :
    Calls Try.prog 62 #[.int .i64 op, .slice (some ⟨b, o, none⟩) 1 c] w fun e w' => e = endsV (r.map intV) ∧ Below w.heap.size w w' := by
  have hlt : b < w.heap.size := World.block_lt_of_cell? w _ hc1
  go_enter Try.func62, Try.ntmps62
  go_wp2_with fail
  refine (hh _).mono ?_
  rintro e w1 ⟨rfl, rfl⟩
  cases r with
  | none => exact ⟨rfl, rfl, (Below.refl _ _).alloc (Nat.le_refl _) _⟩
  | some r =>
    obtain ⟨c0, c1, f0, f1⟩ := vcells (Bk.new w 31 #[.int .i64 0, .int .u64 0])
    obtain ⟨d0, d1, _, _⟩ := vcells (vput (Bk.new w 31 #[.int .i64 0, .int .u64 0]) (.int .i64 1) (.int .u64 (IntKind.u64.wrap r)))
    simp only [endsI]
    go_wp2
    exact bodyPost_ret (v := .agg #[.int .i64 1, .int .u64 (IntKind.u64.wrap r)]) (by simp [results, Try.results62, go_sem, d0, d1]) rfl ⟨by simp only [endsV, Option.map_some, intV, V.v, un_wrap], by repeat (first | exact Below.refl _ _ | refine Below.setCell ?_ (Nat.le_refl _) _ | refine Below.alloc ?_ (by simp) _)⟩

theorem intsNum_any1 (op : Int) (x : V) (b o c : Nat) (w : World) (hn : 1 ≤ c) (hc1 : w.cell? ⟨b, o + 1, none⟩ = some (.int .u64 x.b)) (h15 : op ≠ 15) (h16 : op ≠ 16) (hc' : op < 7 ∨ 12 < op) (h6 : op ≠ 6) :
    Calls Try.prog 62 #[.int .i64 op, .slice (some ⟨b, o, none⟩) 1 c] w fun e w' => e = endsV ((numV op (wrap64 x.b) (wrap64 x.b)).map intV) ∧ Below w.heap.size w w' := by
  have hlt : b < w.heap.size := World.block_lt_of_cell? w _ hc1
  have hh := number_any op (wrap64 x.b) (wrap64 x.b) (i64_wrap _) (i64_wrap _)
  generalize numV op (wrap64 x.b) (wrap64 x.b) = r at *
  rcases hc' with hc' | hc'
  · have g : ¬ 7 ≤ op := by omega
    go_enter Try.func62, Try.ntmps62
    go_wp2_with fail
    refine (hh _).mono ?_
    rintro e w1 ⟨rfl, rfl⟩
    cases r with
    | none => exact ⟨rfl, rfl, (Below.refl _ _).alloc (Nat.le_refl _) _⟩
    | some r =>
      obtain ⟨c0, c1, f0, f1⟩ := vcells (Bk.new w 31 #[.int .i64 0, .int .u64 0])
      obtain ⟨d0, d1, _, _⟩ := vcells (vput (Bk.new w 31 #[.int .i64 0, .int .u64 0]) (.int .i64 1) (.int .u64 (IntKind.u64.wrap r)))
      simp only [endsI]
      go_wp2
      exact bodyPost_ret (v := .agg #[.int .i64 1, .int .u64 (IntKind.u64.wrap r)]) (by simp [results, Try.results62, go_sem, d0, d1]) rfl ⟨by simp only [endsV, Option.map_some, intV, V.v, un_wrap], by repeat (first | exact Below.refl _ _ | refine Below.setCell ?_ (Nat.le_refl _) _ | refine Below.alloc ?_ (by simp) _)⟩
  · have g : 7 ≤ op := by omega
    have g2 : ¬ op ≤ 12 := by omega
    go_enter Try.func62, Try.ntmps62
    go_wp2_with fail
    refine (hh _).mono ?_
    rintro e w1 ⟨rfl, rfl⟩
    cases r with
    | none => exact ⟨rfl, rfl, (Below.refl _ _).alloc (Nat.le_refl _) _⟩
    | some r =>
      obtain ⟨c0, c1, f0, f1⟩ := vcells (Bk.new w 31 #[.int .i64 0, .int .u64 0])
      obtain ⟨d0, d1, _, _⟩ := vcells (vput (Bk.new w 31 #[.int .i64 0, .int .u64 0]) (.int .i64 1) (.int .u64 (IntKind.u64.wrap r)))
      simp only [endsI]
      go_wp2
      exact bodyPost_ret (v := .agg #[.int .i64 1, .int .u64 (IntKind.u64.wrap r)]) (by simp [results, Try.results62, go_sem, d0, d1]) rfl ⟨by simp only [endsV, Option.map_some, intV, V.v, un_wrap], by repeat (first | exact Below.refl _ _ | refine Below.setCell ?_ (Nat.le_refl _) _ | refine Below.alloc ?_ (by simp) _)⟩

theorem ints_any1 (op : Int) (x : V) (b o c : Nat) (w : World) (hn : 1 ≤ c) (hc1 : w.cell? ⟨b, o + 1, none⟩ = some (.int .u64 x.b)) :
    Calls Try.prog 62 #[.int .i64 op, .slice (some ⟨b, o, none⟩) 1 c] w fun e w' => e = endsV (intsV op x x) ∧ Below w.heap.size w w' := by
  have hlt : b < w.heap.size := World.block_lt_of_cell? w _ hc1
  unfold intsV
  by_cases h15 : op = 15
  · subst h15
    rw [if_pos rfl]
    exact intsNot_any1 x b o c w hn hc1
  rw [if_neg h15]
  by_cases h16 : op = 16
  · subst h16
    rw [if_pos rfl]
    exact intsReal_any1 x b o c w hn hc1
  rw [if_neg h16]
  by_cases hc : 7 ≤ op ∧ op ≤ 12
  · rw [if_pos hc]
    exact intsCmp_any1 op x b o c w hn hc1 hc.1 hc.2
  rw [if_neg hc]
  by_cases h6 : op = 6
  · rw [if_pos h6]
    exact intsNeg_any1 op x b o c w hn hc1 _ (sub_any 0 _ (by unfold I64; omega) (i64_wrap _)) (by rw [h6]; rfl) h15 h16 (by omega)
  rw [if_neg h6]
  exact intsNum_any1 op x b o c w hn hc1 h15 h16 (by omega) h6

theorem intsNot_any2 (x y : V) (b o c : Nat) (w : World) (hn : 2 ≤ c) (hc1 : w.cell? ⟨b, o + 1, none⟩ = some (.int .u64 x.b)) (hc3 : w.cell? ⟨b, o + 3, none⟩ = some (.int .u64 y.b)) :
    Calls Try.prog 62 #[.int .i64 15, .slice (some ⟨b, o, none⟩) 2 c] w fun e w' => e = endsV (some (yesV (wrap64 x.b == 0))) ∧ Below w.heap.size w w' := by
  have hlt : b < w.heap.size := World.block_lt_of_cell? w _ hc1
  generalize hr : (wrap64 x.b == 0) = r
  go_enter Try.func62, Try.ntmps62
  go_wp2_with fail
  refine (yes_any _ _).mono ?_
  rintro e w1 ⟨rfl, hb⟩
  simp only [endsV, yesV, V.v]
  have kr := (Bk.new w 31 #[.int .i64 0, .int .u64 0]).old hb
  obtain ⟨c0, c1, f0, f1⟩ := vcells kr
  obtain ⟨d0, d1, _, _⟩ := vcells (vput kr (.int .i64 2) (.int .u64 r.toNat))
  have hb1 : Below w.heap.size w w1 := ((Below.refl _ _).alloc (Nat.le_refl _) _).trans (hb.mono (by simp))
  clear hb kr
  go_wp2
  exact bodyPost_ret (v := .agg #[.int .i64 2, .int .u64 r.toNat]) (by simp [results, Try.results62, go_sem, d0, d1]) rfl ⟨rfl, (hb1.setCell (Nat.le_refl _) _).setCell (Nat.le_refl _) _⟩

theorem intsReal_any2 (x y : V) (b o c : Nat) (w : World) (hn : 2 ≤ c) (hc1 : w.cell? ⟨b, o + 1, none⟩ = some (.int .u64 x.b)) (hc3 : w.cell? ⟨b, o + 3, none⟩ = some (.int .u64 y.b)) :
    Calls Try.prog 62 #[.int .i64 16, .slice (some ⟨b, o, none⟩) 2 c] w fun e w' => e = endsV (some ⟨4, ofInt (wrap64 x.b)⟩) ∧ Below w.heap.size w w' := by
  have hlt : b < w.heap.size := World.block_lt_of_cell? w _ hc1
  have hh := ofInt_real (wrap64 x.b)
  generalize ofInt (wrap64 x.b) = r at *
  go_enter Try.func62, Try.ntmps62
  go_wp2_with fail
  refine (hh _).mono ?_
  rintro e w1 ⟨rfl, rfl⟩
  simp only [endsV, V.v]
  obtain ⟨c0, c1, f0, f1⟩ := vcells (Bk.new w 31 #[.int .i64 0, .int .u64 0])
  obtain ⟨d0, d1, _, _⟩ := vcells (vput (Bk.new w 31 #[.int .i64 0, .int .u64 0]) (.int .i64 4) (.int .u64 r))
  go_wp2
  exact bodyPost_ret (v := .agg #[.int .i64 4, .int .u64 r]) (by simp [results, Try.results62, go_sem, d0, d1]) rfl ⟨rfl, by repeat (first | exact Below.refl _ _ | refine Below.setCell ?_ (Nat.le_refl _) _ | refine Below.alloc ?_ (by simp) _)⟩

theorem intsCmp_any2 (op : Int) (x y : V) (b o c : Nat) (w : World) (hn : 2 ≤ c) (hc1 : w.cell? ⟨b, o + 1, none⟩ = some (.int .u64 x.b)) (hc3 : w.cell? ⟨b, o + 3, none⟩ = some (.int .u64 y.b)) (hc7 : 7 ≤ op) (hc12 : op ≤ 12) :
    Calls Try.prog 62 #[.int .i64 op, .slice (some ⟨b, o, none⟩) 2 c] w fun e w' => e = endsV (some (yesV (holdsB op (decide (wrap64 x.b < wrap64 y.b)) (wrap64 x.b == wrap64 y.b) (decide (wrap64 y.b < wrap64 x.b))))) ∧ Below w.heap.size w w' := by
  have hlt : b < w.heap.size := World.block_lt_of_cell? w _ hc1
  have hh := holds_any op (decide (wrap64 x.b < wrap64 y.b)) (wrap64 x.b == wrap64 y.b) (decide (wrap64 y.b < wrap64 x.b))
  generalize holdsB op (decide (wrap64 x.b < wrap64 y.b)) (wrap64 x.b == wrap64 y.b) (decide (wrap64 y.b < wrap64 x.b)) = r at *
  go_enter Try.func62, Try.ntmps62
  go_wp2_with fail
  refine (hh _).mono ?_
  rintro e w1 ⟨rfl, rfl⟩
  go_wp2_with fail
  refine (yes_any _ _).mono ?_
  rintro e w1 ⟨rfl, hb⟩
  simp only [endsV, yesV, V.v]
  have kr := (Bk.new w 31 #[.int .i64 0, .int .u64 0]).old hb
  obtain ⟨c0, c1, f0, f1⟩ := vcells kr
  obtain ⟨d0, d1, _, _⟩ := vcells (vput kr (.int .i64 2) (.int .u64 r.toNat))
  have hb1 : Below w.heap.size w w1 := ((Below.refl _ _).alloc (Nat.le_refl _) _).trans (hb.mono (by simp))
  clear hb kr
  go_wp2
  exact bodyPost_ret (v := .agg #[.int .i64 2, .int .u64 r.toNat]) (by simp [results, Try.results62, go_sem, d0, d1]) rfl ⟨rfl, (hb1.setCell (Nat.le_refl _) _).setCell (Nat.le_refl _) _⟩

theorem intsNeg_any2 (op : Int) (x y : V) (b o c : Nat) (w : World) (hn : 2 ≤ c) (hc1 : w.cell? ⟨b, o + 1, none⟩ = some (.int .u64 x.b)) (hc3 : w.cell? ⟨b, o + 3, none⟩ = some (.int .u64 y.b)) (r : Option Int) (hh : ∀ w : World, Calls Try.prog 81 #[.int .i64 0, .int .i64 (wrap64 x.b)] w fun e w' => e = endsI r ∧ w = w') (h6 : (op == 6) = true) (h15 : op ≠ 15) (h16 : op ≠ 16) (g : ¬ 7 ≤ op) :
    Calls Try.prog 62 #[.int .i64 op, .slice (some ⟨b, o, none⟩) 2 c] w fun e w' => e = endsV (r.map intV) ∧ Below w.heap.size w w' := by
  have hlt : b < w.heap.size := World.block_lt_of_cell? w _ hc1
  go_enter Try.func62, Try.ntmps62
  go_wp2_with fail
  refine (hh _).mono ?_
  rintro e w1 ⟨rfl, rfl⟩
  cases r with
  | none => exact ⟨rfl, rfl, (Below.refl _ _).alloc (Nat.le_refl _) _⟩
  | some r =>
    obtain ⟨c0, c1, f0, f1⟩ := vcells (Bk.new w 31 #[.int .i64 0, .int .u64 0])
    obtain ⟨d0, d1, _, _⟩ := vcells (vput (Bk.new w 31 #[.int .i64 0, .int .u64 0]) (.int .i64 1) (.int .u64 (IntKind.u64.wrap r)))
    simp only [endsI]
    go_wp2
    exact bodyPost_ret (v := .agg #[.int .i64 1, .int .u64 (IntKind.u64.wrap r)]) (by simp [results, Try.results62, go_sem, d0, d1]) rfl ⟨by simp only [endsV, Option.map_some, intV, V.v, un_wrap], by repeat (first | exact Below.refl _ _ | refine Below.setCell ?_ (Nat.le_refl _) _ | refine Below.alloc ?_ (by simp) _)⟩

theorem intsNum_any2 (op : Int) (x y : V) (b o c : Nat) (w : World) (hn : 2 ≤ c) (hc1 : w.cell? ⟨b, o + 1, none⟩ = some (.int .u64 x.b)) (hc3 : w.cell? ⟨b, o + 3, none⟩ = some (.int .u64 y.b)) (h15 : op ≠ 15) (h16 : op ≠ 16) (hc' : op < 7 ∨ 12 < op) (h6 : op ≠ 6) :
    Calls Try.prog 62 #[.int .i64 op, .slice (some ⟨b, o, none⟩) 2 c] w fun e w' => e = endsV ((numV op (wrap64 x.b) (wrap64 y.b)).map intV) ∧ Below w.heap.size w w' := by
  have hlt : b < w.heap.size := World.block_lt_of_cell? w _ hc1
  have hh := number_any op (wrap64 x.b) (wrap64 y.b) (i64_wrap _) (i64_wrap _)
  generalize numV op (wrap64 x.b) (wrap64 y.b) = r at *
  rcases hc' with hc' | hc'
  · have g : ¬ 7 ≤ op := by omega
    go_enter Try.func62, Try.ntmps62
    go_wp2_with fail
    refine (hh _).mono ?_
    rintro e w1 ⟨rfl, rfl⟩
    cases r with
    | none => exact ⟨rfl, rfl, (Below.refl _ _).alloc (Nat.le_refl _) _⟩
    | some r =>
      obtain ⟨c0, c1, f0, f1⟩ := vcells (Bk.new w 31 #[.int .i64 0, .int .u64 0])
      obtain ⟨d0, d1, _, _⟩ := vcells (vput (Bk.new w 31 #[.int .i64 0, .int .u64 0]) (.int .i64 1) (.int .u64 (IntKind.u64.wrap r)))
      simp only [endsI]
      go_wp2
      exact bodyPost_ret (v := .agg #[.int .i64 1, .int .u64 (IntKind.u64.wrap r)]) (by simp [results, Try.results62, go_sem, d0, d1]) rfl ⟨by simp only [endsV, Option.map_some, intV, V.v, un_wrap], by repeat (first | exact Below.refl _ _ | refine Below.setCell ?_ (Nat.le_refl _) _ | refine Below.alloc ?_ (by simp) _)⟩
  · have g : 7 ≤ op := by omega
    have g2 : ¬ op ≤ 12 := by omega
    go_enter Try.func62, Try.ntmps62
    go_wp2_with fail
    refine (hh _).mono ?_
    rintro e w1 ⟨rfl, rfl⟩
    cases r with
    | none => exact ⟨rfl, rfl, (Below.refl _ _).alloc (Nat.le_refl _) _⟩
    | some r =>
      obtain ⟨c0, c1, f0, f1⟩ := vcells (Bk.new w 31 #[.int .i64 0, .int .u64 0])
      obtain ⟨d0, d1, _, _⟩ := vcells (vput (Bk.new w 31 #[.int .i64 0, .int .u64 0]) (.int .i64 1) (.int .u64 (IntKind.u64.wrap r)))
      simp only [endsI]
      go_wp2
      exact bodyPost_ret (v := .agg #[.int .i64 1, .int .u64 (IntKind.u64.wrap r)]) (by simp [results, Try.results62, go_sem, d0, d1]) rfl ⟨by simp only [endsV, Option.map_some, intV, V.v, un_wrap], by repeat (first | exact Below.refl _ _ | refine Below.setCell ?_ (Nat.le_refl _) _ | refine Below.alloc ?_ (by simp) _)⟩

theorem ints_any2 (op : Int) (x y : V) (b o c : Nat) (w : World) (hn : 2 ≤ c) (hc1 : w.cell? ⟨b, o + 1, none⟩ = some (.int .u64 x.b)) (hc3 : w.cell? ⟨b, o + 3, none⟩ = some (.int .u64 y.b)) :
    Calls Try.prog 62 #[.int .i64 op, .slice (some ⟨b, o, none⟩) 2 c] w fun e w' => e = endsV (intsV op x y) ∧ Below w.heap.size w w' := by
  have hlt : b < w.heap.size := World.block_lt_of_cell? w _ hc1
  unfold intsV
  by_cases h15 : op = 15
  · subst h15
    rw [if_pos rfl]
    exact intsNot_any2 x y b o c w hn hc1 hc3
  rw [if_neg h15]
  by_cases h16 : op = 16
  · subst h16
    rw [if_pos rfl]
    exact intsReal_any2 x y b o c w hn hc1 hc3
  rw [if_neg h16]
  by_cases hc : 7 ≤ op ∧ op ≤ 12
  · rw [if_pos hc]
    exact intsCmp_any2 op x y b o c w hn hc1 hc3 hc.1 hc.2
  rw [if_neg hc]
  by_cases h6 : op = 6
  · rw [if_pos h6]
    exact intsNeg_any2 op x y b o c w hn hc1 hc3 _ (sub_any 0 _ (by unfold I64; omega) (i64_wrap _)) (by rw [h6]; rfl) h15 h16 (by omega)
  rw [if_neg h6]
  exact intsNum_any2 op x y b o c w hn hc1 hc3 h15 h16 (by omega) h6
end Go.Proofs.Ytadblgfppnpamaa
