/- Plain laws of comparisons. No conditions. -/
import Derived.Test.YtlejjchaooeabaaValFl
import Derived.Deep.DeepCutAuto
namespace Go.Proofs.Ytlejjchaooeabaa.valueCompares
open Go.RowKit
set_option linter.unusedSimpArgs false
set_option linter.unusedVariables false
theorem rtruth_any (b : Bool) (w : World) : Calls Try.prog 25 #[.bool b] w fun e w' => e = .returned (.agg #[.int .i64 2, .int .u64 (yesV b).b]) ∧ Below w.heap.size w w' := by
  cases b
  · go_enter Try.func25, Try.ntmps25
    go_wp2
    exact bodyPost_ret (v := .agg #[.int .i64 2, .int .u64 0]) (by simp [results, Try.results25, go_sem]) rfl ⟨rfl, by repeat (first | exact Below.refl _ _ | refine Below.alloc ?_ (by simp) _)⟩
  · go_enter Try.func25, Try.ntmps25
    go_wp2
    exact bodyPost_ret (v := .agg #[.int .i64 2, .int .u64 1]) (by simp [results, Try.results25, go_sem]) rfl ⟨rfl, by repeat (first | exact Below.refl _ _ | refine Below.alloc ?_ (by simp) _)⟩
theorem clean_lt (x : V) (h : x.fits) : (clean x).b < 18446744073709551616 := clean_fits x h
/-- Comparisons that there are. -/
structure Cmps (x y : V) (l e m nx ny : Bool) : Prop where
  less : applyV 9 [x, y] = yesV l
  equal : applyV 7 [x, y] = yesV e
  more : applyV 11 [x, y] = yesV m
  ne : applyV 8 [x, y] = yesV (!e)
  le : applyV 10 [x, y] = yesV (l || e)
  ge : applyV 12 [x, y] = yesV (m || e)
  one : (l.toNat + e.toNat + m.toNat == 1) = !(nx || ny)
  none : (l.toNat + e.toNat + m.toNat == 0) = (nx || ny)
  nanx : (applyV 17 [x] = yesV true) ↔ nx = true
  nany : (applyV 17 [y] = yesV true) ↔ ny = true
theorem rest_one {op : Int} {x : V} (h : oneK op (clean x).k ≠ 0) : restV op [x] = if (clean x).k = 4 then some (realsV op (clean x) (clean x)) else intsV op (clean x) (clean x) := by
  unfold restV
  rw [if_neg (show ¬ resK op ([x].map fun x => (clean x).k) = 0 from h)]
theorem not_yes (e : Bool) : applyV 15 [yesV e] = yesV (!e) := by
  have hk : (clean (yesV e)).k = 2 := by rw [clean_yes]; rfl
  rw [apply_rest (by simp), rest_one (by rw [hk]; decide), if_neg (by rw [hk]; decide), clean_yes]
  unfold intsV
  rw [if_pos rfl]
  cases e <;> simp [yesV, wrap64]
theorem truth_yes (e : Bool) : truthI (yesV e) = if e then 1 else -1 := by
  unfold truthI; rw [clean_yes]; cases e <;> rfl
theorem or_yes (a b : Bool) : applyV 14 [yesV a, yesV b] = yesV (a || b) := by
  rw [show applyV 14 [yesV a, yesV b] = (toldV (max (truthI (yesV a)) (truthI (yesV b)))).getD none0 from rfl, truth_yes, truth_yes]
  cases a <;> cases b <;> rfl
theorem cmp_rest {op : Int} {x y : V} (hop : 7 ≤ op ∧ op ≤ 12) (hk : (clean x).k = (clean y).k) (h : (clean x).k = 1 ∨ (clean x).k = 4) :
    applyV op [x, y] = if (clean x).k = 4 then yesV (holdsB op (ltF (clean x).b (clean y).b) (eqF (clean x).b (clean y).b) (ltF (clean y).b (clean x).b))
      else yesV (holdsB op (decide (wrap64 (clean x).b < wrap64 (clean y).b)) (wrap64 (clean x).b == wrap64 (clean y).b) (decide (wrap64 (clean y).b < wrap64 (clean x).b))) := by
  rw [apply_rest (by omega)]
  unfold restV
  have e : resK op ([x, y].map fun x => (clean x).k) = 2 := by
    show (if (clean x).k = (clean y).k then twoK op (clean x).k else 0) = 2
    rw [if_pos hk]
    unfold twoK
    rw [if_neg (by omega), if_pos (by omega)]
  rw [e, if_neg (by decide)]
  show (if (clean x).k = 4 then some (realsV op (clean x) (clean y)) else intsV op (clean x) (clean y)).getD none0 = _
  by_cases h4 : (clean x).k = 4
  · rw [if_pos h4, if_pos h4]
    unfold realsV
    rw [if_neg (by omega), if_neg (by omega), if_neg (by omega), if_neg (by omega), if_neg (by omega), if_neg (by omega)]
    rfl
  · rw [if_neg h4, if_neg h4]
    unfold intsV
    rw [if_neg (by omega), if_neg (by omega), if_pos hop]
    rfl
theorem yes_inj {b : Bool} : yesV b = yesV true ↔ b = true := by cases b <;> simp [yesV]
theorem nan_int {x : V} (h : (clean x).k = 1) : applyV 17 [x] = none0 := by
  rw [apply_rest (by simp)]
  unfold restV
  rw [if_pos (show resK 17 ([x].map fun x => (clean x).k) = 0 from by show oneK 17 (clean x).k = 0; rw [h]; decide)]
  rfl
theorem nan_real {x : V} (hx : x.fits) (h : (clean x).k = 4) : applyV 17 [x] = yesV (nanN (clean x).b) := by
  rw [apply_rest (by simp), rest_one (by rw [h]; decide), if_pos h, Option.getD_some]
  unfold realsV
  rw [if_neg (by decide), if_neg (by decide), if_neg (by decide), if_neg (by decide), if_neg (by decide), if_pos rfl]
  rw [eq_key (clean_lt x hx) (clean_lt x hx)]
  cases nanN (clean x).b <;> simp
theorem holds_all (l e m : Bool) : holdsB 9 l e m = l ∧ holdsB 7 l e m = e ∧ holdsB 11 l e m = m ∧ holdsB 8 l e m = (!e) ∧ holdsB 10 l e m = (l || e) ∧ holdsB 12 l e m = (m || e) := ⟨rfl, rfl, rfl, rfl, rfl, rfl⟩
theorem count_real (nx ny : Bool) (a b : Int) :
    ((!nx && !ny && decide (a < b)).toNat + (!nx && !ny && decide (a = b)).toNat + (!ny && !nx && decide (b < a)).toNat == 1) = !(nx || ny) ∧
    ((!nx && !ny && decide (a < b)).toNat + (!nx && !ny && decide (a = b)).toNat + (!ny && !nx && decide (b < a)).toNat == 0) = (nx || ny) := by
  cases nx <;> cases ny
  · rcases Int.lt_trichotomy a b with h | h | h
    · have h1 : ¬ a = b := by omega
      have h2 : ¬ b < a := by omega
      simp [h, h1, h2]
    · subst h; simp
    · have h1 : ¬ a = b := by omega
      have h2 : ¬ a < b := by omega
      simp [h, h1, h2]
  · simp
  · simp
  · simp
theorem count_int (a b : Int) : ((decide (a < b)).toNat + (a == b).toNat + (decide (b < a)).toNat == 1) = true ∧ ((decide (a < b)).toNat + (a == b).toNat + (decide (b < a)).toNat == 0) = false := by
  rcases Int.lt_trichotomy a b with h | h | h
  · have h1 : ¬ a = b := by omega
    have h2 : ¬ b < a := by omega
    simp [h, h1, h2]
  · subst h; simp
  · have h1 : ¬ a = b := by omega
    have h2 : ¬ a < b := by omega
    simp [h, h1, h2]
theorem cmps_real {x y : V} (hx : x.fits) (hy : y.fits) (hk : (clean x).k = (clean y).k) (h4 : (clean x).k = 4) : ∃ l e m nx ny, Cmps x y l e m nx ny := by
  have c := count_real (nanN (clean x).b) (nanN (clean y).b) (keyN (clean x).b) (keyN (clean y).b)
  rw [← lt_key (clean_lt x hx) (clean_lt y hy), ← lt_key (clean_lt y hy) (clean_lt x hx), ← eq_key (clean_lt x hx) (clean_lt y hy)] at c
  have hr : ∀ op, 7 ≤ op ∧ op ≤ 12 → applyV op [x, y] = yesV (holdsB op (ltF (clean x).b (clean y).b) (eqF (clean x).b (clean y).b) (ltF (clean y).b (clean x).b)) := fun op ho => by
    rw [cmp_rest ho hk (.inr h4), if_pos h4]
  have n1 := nan_real hx h4
  have n2 := nan_real hy (by omega)
  generalize ltF (clean x).b (clean y).b = l at *
  generalize eqF (clean x).b (clean y).b = e at *
  generalize ltF (clean y).b (clean x).b = m at *
  generalize nanN (clean x).b = nx at *
  generalize nanN (clean y).b = ny at *
  have hh := holds_all l e m
  refine ⟨l, e, m, nx, ny, ⟨?_, ?_, ?_, ?_, ?_, ?_, c.1, c.2, ?_, ?_⟩⟩
  · rw [hr 9 (by omega), hh.1]
  · rw [hr 7 (by omega), hh.2.1]
  · rw [hr 11 (by omega), hh.2.2.1]
  · rw [hr 8 (by omega), hh.2.2.2.1]
  · rw [hr 10 (by omega), hh.2.2.2.2.1]
  · rw [hr 12 (by omega), hh.2.2.2.2.2]
  · rw [n1]; exact yes_inj
  · rw [n2]; exact yes_inj
theorem cmps_int {x y : V} (hk : (clean x).k = (clean y).k) (h1 : (clean x).k = 1) : ∃ l e m nx ny, Cmps x y l e m nx ny := by
  have c := count_int (wrap64 (clean x).b) (wrap64 (clean y).b)
  have hr : ∀ op, 7 ≤ op ∧ op ≤ 12 → applyV op [x, y] = yesV (holdsB op (decide (wrap64 (clean x).b < wrap64 (clean y).b)) (wrap64 (clean x).b == wrap64 (clean y).b) (decide (wrap64 (clean y).b < wrap64 (clean x).b))) := fun op ho => by
    rw [cmp_rest ho hk (.inl h1), if_neg (by omega)]
  have n1 := nan_int h1
  have n2 := nan_int (x := y) (by omega)
  have hn : none0 ≠ yesV true := by simp [none0, yesV]
  generalize decide (wrap64 (clean x).b < wrap64 (clean y).b) = l at *
  generalize (wrap64 (clean x).b == wrap64 (clean y).b) = e at *
  generalize decide (wrap64 (clean y).b < wrap64 (clean x).b) = m at *
  have hh := holds_all l e m
  refine ⟨l, e, m, false, false, ⟨?_, ?_, ?_, ?_, ?_, ?_, c.1, c.2, ?_, ?_⟩⟩
  · rw [hr 9 (by omega), hh.1]
  · rw [hr 7 (by omega), hh.2.1]
  · rw [hr 11 (by omega), hh.2.2.1]
  · rw [hr 8 (by omega), hh.2.2.2.1]
  · rw [hr 10 (by omega), hh.2.2.2.2.1]
  · rw [hr 12 (by omega), hh.2.2.2.2.2]
  · rw [n1]; simp [hn]
  · rw [n2]; simp [hn]
theorem cmps {x y : V} (hx : x.fits) (hy : y.fits) (hk : (clean x).k = (clean y).k) (h : (clean x).k = 1 ∨ (clean x).k = 4) : ∃ l e m nx ny, Cmps x y l e m nx ny := by
  rcases h with h | h
  · exact cmps_int hk h
  · exact cmps_real hx hy hk h
/-- Else there are none. -/
theorem no_cmps {x y : V} (h : ¬ ((clean x).k = (clean y).k ∧ ((clean x).k = 1 ∨ (clean x).k = 4))) (op : Int) (hop : op = 9 ∨ op = 11) : applyV op [x, y] = none0 := by
  rw [apply_rest (by omega)]
  unfold restV
  have e : resK op ([x, y].map fun x => (clean x).k) = 0 := by
    show (if (clean x).k = (clean y).k then twoK op (clean x).k else 0) = 0
    split
    · unfold twoK
      rw [if_neg (by omega), if_neg (by omega)]
    · rfl
  rw [if_pos e]; rfl
end Go.Proofs.Ytlejjchaooeabaa.valueCompares
