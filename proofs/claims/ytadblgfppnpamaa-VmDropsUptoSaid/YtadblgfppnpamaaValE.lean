/- Contracts of the program's operators on reals. No conditions. -/
import Derived.Test.YtadblgfppnpamaaValD
namespace Go.Proofs.Ytadblgfppnpamaa
open Go.RowKit
set_option linter.unusedSimpArgs false
set_option linter.unusedVariables false

def eqF (a b : Nat) : Bool := FloatKind.f64.format.order (canonN a) (canonN b) == some .eq
def ltF (a b : Nat) : Bool := FloatKind.f64.format.order (canonN a) (canonN b) == some .lt
def realsV (op : Int) (x y : V) : V :=
  if op = 1 then ⟨4, flN .add (canonN x.b) (canonN y.b)⟩ else if op = 2 then ⟨4, flN .sub (canonN x.b) (canonN y.b)⟩
  else if op = 3 then ⟨4, flN .mul (canonN x.b) (canonN y.b)⟩ else if op = 4 then ⟨4, flN .quo (canonN x.b) (canonN y.b)⟩
  else if op = 6 then ⟨4, canonN (negN (canonN x.b))⟩ else if op = 17 then yesV (!eqF x.b x.b)
  else yesV (holdsB op (ltF x.b y.b) (eqF x.b y.b) (ltF y.b x.b))

theorem real_r (a : Nat) (w : World) : Calls Try.prog 70 #[.int .u64 a] w fun e w' => e = .returned (.agg #[.int .i64 4, .int .u64 a]) ∧ Below w.heap.size w w' := by
  obtain ⟨c0, c1, f0, f1⟩ := vcells (Bk.new w 31 #[.int .i64 0, .int .u64 0])
  obtain ⟨d0, d1, _, _⟩ := vcells (vput (Bk.new w 31 #[.int .i64 0, .int .u64 0]) (.int .i64 4) (.int .u64 a))
  go_enter Try.func70, Try.ntmps70
  go_wp2
  exact bodyPost_ret (v := .agg #[.int .i64 4, .int .u64 a]) (by simp [results, Try.results70, go_sem, d0, d1]) rfl ⟨rfl, by repeat (first | exact Below.refl _ _ | refine Below.setCell ?_ (Nat.le_refl _) _ | refine Below.alloc ?_ (by simp) _)⟩

theorem realsAdd_any1 (x : V) (b o c : Nat) (w : World) (hn : 1 ≤ c) (hx : x.fits) (hc1 : w.cell? ⟨b, o + 1, none⟩ = some (.int .u64 x.b)) :
    Calls Try.prog 61 #[.int .i64 1, .slice (some ⟨b, o, none⟩) 1 c] w fun e w' => e = .returned (⟨4, flN .add (canonN x.b) (canonN x.b)⟩ : V).v ∧ Below w.heap.size w w' := by
  have hlt : b < w.heap.size := World.block_lt_of_cell? w _ hc1
  have hh := add_real x.b x.b hx hx
  generalize flN .add (canonN x.b) (canonN x.b) = r at *
  go_enter Try.func61, Try.ntmps61
  go_wp2_with fail
  refine (hh _).mono ?_
  rintro e w2 ⟨rfl, hb2⟩
  go_wp2_with fail
  refine (real_r _ _).mono ?_
  rintro e w1 ⟨rfl, hb⟩
  simp only [V.v]
  have hb := hb2.trans (hb.mono hb2.size)
  have kr := (Bk.new w 31 #[.int .i64 0, .int .u64 0]).old hb
  obtain ⟨c0, c1, f0, f1⟩ := vcells kr
  obtain ⟨d0, d1, _, _⟩ := vcells (vput kr (.int .i64 4) (.int .u64 r))
  have hb1 : Below w.heap.size w w1 := ((Below.refl _ _).alloc (Nat.le_refl _) _).trans (hb.mono (by simp))
  clear hb kr
  go_wp2
  exact bodyPost_ret (v := .agg #[.int .i64 4, .int .u64 r]) (by simp [results, Try.results61, go_sem, d0, d1]) rfl ⟨rfl, (hb1.setCell (Nat.le_refl _) _).setCell (Nat.le_refl _) _⟩

theorem realsSub_any1 (x : V) (b o c : Nat) (w : World) (hn : 1 ≤ c) (hx : x.fits) (hc1 : w.cell? ⟨b, o + 1, none⟩ = some (.int .u64 x.b)) :
    Calls Try.prog 61 #[.int .i64 2, .slice (some ⟨b, o, none⟩) 1 c] w fun e w' => e = .returned (⟨4, flN .sub (canonN x.b) (canonN x.b)⟩ : V).v ∧ Below w.heap.size w w' := by
  have hlt : b < w.heap.size := World.block_lt_of_cell? w _ hc1
  have hh := sub_real x.b x.b hx hx
  generalize flN .sub (canonN x.b) (canonN x.b) = r at *
  go_enter Try.func61, Try.ntmps61
  go_wp2_with fail
  refine (hh _).mono ?_
  rintro e w2 ⟨rfl, hb2⟩
  go_wp2_with fail
  refine (real_r _ _).mono ?_
  rintro e w1 ⟨rfl, hb⟩
  simp only [V.v]
  have hb := hb2.trans (hb.mono hb2.size)
  have kr := (Bk.new w 31 #[.int .i64 0, .int .u64 0]).old hb
  obtain ⟨c0, c1, f0, f1⟩ := vcells kr
  obtain ⟨d0, d1, _, _⟩ := vcells (vput kr (.int .i64 4) (.int .u64 r))
  have hb1 : Below w.heap.size w w1 := ((Below.refl _ _).alloc (Nat.le_refl _) _).trans (hb.mono (by simp))
  clear hb kr
  go_wp2
  exact bodyPost_ret (v := .agg #[.int .i64 4, .int .u64 r]) (by simp [results, Try.results61, go_sem, d0, d1]) rfl ⟨rfl, (hb1.setCell (Nat.le_refl _) _).setCell (Nat.le_refl _) _⟩

theorem realsMul_any1 (x : V) (b o c : Nat) (w : World) (hn : 1 ≤ c) (hx : x.fits) (hc1 : w.cell? ⟨b, o + 1, none⟩ = some (.int .u64 x.b)) :
    Calls Try.prog 61 #[.int .i64 3, .slice (some ⟨b, o, none⟩) 1 c] w fun e w' => e = .returned (⟨4, flN .mul (canonN x.b) (canonN x.b)⟩ : V).v ∧ Below w.heap.size w w' := by
  have hlt : b < w.heap.size := World.block_lt_of_cell? w _ hc1
  have hh := mul_real x.b x.b hx hx
  generalize flN .mul (canonN x.b) (canonN x.b) = r at *
  go_enter Try.func61, Try.ntmps61
  go_wp2_with fail
  refine (hh _).mono ?_
  rintro e w2 ⟨rfl, hb2⟩
  go_wp2_with fail
  refine (real_r _ _).mono ?_
  rintro e w1 ⟨rfl, hb⟩
  simp only [V.v]
  have hb := hb2.trans (hb.mono hb2.size)
  have kr := (Bk.new w 31 #[.int .i64 0, .int .u64 0]).old hb
  obtain ⟨c0, c1, f0, f1⟩ := vcells kr
  obtain ⟨d0, d1, _, _⟩ := vcells (vput kr (.int .i64 4) (.int .u64 r))
  have hb1 : Below w.heap.size w w1 := ((Below.refl _ _).alloc (Nat.le_refl _) _).trans (hb.mono (by simp))
  clear hb kr
  go_wp2
  exact bodyPost_ret (v := .agg #[.int .i64 4, .int .u64 r]) (by simp [results, Try.results61, go_sem, d0, d1]) rfl ⟨rfl, (hb1.setCell (Nat.le_refl _) _).setCell (Nat.le_refl _) _⟩

theorem realsDiv_any1 (x : V) (b o c : Nat) (w : World) (hn : 1 ≤ c) (hx : x.fits) (hc1 : w.cell? ⟨b, o + 1, none⟩ = some (.int .u64 x.b)) :
    Calls Try.prog 61 #[.int .i64 4, .slice (some ⟨b, o, none⟩) 1 c] w fun e w' => e = .returned (⟨4, flN .quo (canonN x.b) (canonN x.b)⟩ : V).v ∧ Below w.heap.size w w' := by
  have hlt : b < w.heap.size := World.block_lt_of_cell? w _ hc1
  have hh := div_real x.b x.b hx hx
  generalize flN .quo (canonN x.b) (canonN x.b) = r at *
  go_enter Try.func61, Try.ntmps61
  go_wp2_with fail
  refine (hh _).mono ?_
  rintro e w2 ⟨rfl, hb2⟩
  go_wp2_with fail
  refine (real_r _ _).mono ?_
  rintro e w1 ⟨rfl, hb⟩
  simp only [V.v]
  have hb := hb2.trans (hb.mono hb2.size)
  have kr := (Bk.new w 31 #[.int .i64 0, .int .u64 0]).old hb
  obtain ⟨c0, c1, f0, f1⟩ := vcells kr
  obtain ⟨d0, d1, _, _⟩ := vcells (vput kr (.int .i64 4) (.int .u64 r))
  have hb1 : Below w.heap.size w w1 := ((Below.refl _ _).alloc (Nat.le_refl _) _).trans (hb.mono (by simp))
  clear hb kr
  go_wp2
  exact bodyPost_ret (v := .agg #[.int .i64 4, .int .u64 r]) (by simp [results, Try.results61, go_sem, d0, d1]) rfl ⟨rfl, (hb1.setCell (Nat.le_refl _) _).setCell (Nat.le_refl _) _⟩

theorem realsNeg_any1 (x : V) (b o c : Nat) (w : World) (hn : 1 ≤ c) (hx : x.fits) (hc1 : w.cell? ⟨b, o + 1, none⟩ = some (.int .u64 x.b)) :
    Calls Try.prog 61 #[.int .i64 6, .slice (some ⟨b, o, none⟩) 1 c] w fun e w' => e = .returned (⟨4, canonN (negN (canonN x.b))⟩ : V).v ∧ Below w.heap.size w w' := by
  have hlt : b < w.heap.size := World.block_lt_of_cell? w _ hc1
  have hh := neg_real x.b hx
  generalize canonN (negN (canonN x.b)) = r at *
  go_enter Try.func61, Try.ntmps61
  go_wp2_with fail
  refine (hh _).mono ?_
  rintro e w2 ⟨rfl, rfl⟩
  go_wp2_with fail
  refine (real_r _ _).mono ?_
  rintro e w1 ⟨rfl, hb⟩
  simp only [V.v]
  have kr := (Bk.new w 31 #[.int .i64 0, .int .u64 0]).old hb
  obtain ⟨c0, c1, f0, f1⟩ := vcells kr
  obtain ⟨d0, d1, _, _⟩ := vcells (vput kr (.int .i64 4) (.int .u64 r))
  have hb1 : Below w.heap.size w w1 := ((Below.refl _ _).alloc (Nat.le_refl _) _).trans (hb.mono (by simp))
  clear hb kr
  go_wp2
  exact bodyPost_ret (v := .agg #[.int .i64 4, .int .u64 r]) (by simp [results, Try.results61, go_sem, d0, d1]) rfl ⟨rfl, (hb1.setCell (Nat.le_refl _) _).setCell (Nat.le_refl _) _⟩

theorem realsNan_any1 (x : V) (b o c : Nat) (w : World) (hn : 1 ≤ c) (hx : x.fits) (hc1 : w.cell? ⟨b, o + 1, none⟩ = some (.int .u64 x.b)) :
    Calls Try.prog 61 #[.int .i64 17, .slice (some ⟨b, o, none⟩) 1 c] w fun e w' => e = .returned (yesV (!eqF x.b x.b)).v ∧ Below w.heap.size w w' := by
  have hlt : b < w.heap.size := World.block_lt_of_cell? w _ hc1
  have hh := equal_real x.b x.b hx hx
  rw [show (FloatKind.f64.format.order (canonN x.b) (canonN x.b) == some .eq) = eqF x.b x.b from rfl] at hh
  generalize eqF x.b x.b = r at *
  go_enter Try.func61, Try.ntmps61
  go_wp2_with fail
  refine (hh _).mono ?_
  rintro e w2 ⟨rfl, rfl⟩
  go_wp2_with fail
  refine (yes_any _ _).mono ?_
  rintro e w1 ⟨rfl, hb⟩
  simp only [V.v, yesV]
  have kr := (Bk.new w 31 #[.int .i64 0, .int .u64 0]).old hb
  obtain ⟨c0, c1, f0, f1⟩ := vcells kr
  obtain ⟨d0, d1, _, _⟩ := vcells (vput kr (.int .i64 2) (.int .u64 (!r).toNat))
  have hb1 : Below w.heap.size w w1 := ((Below.refl _ _).alloc (Nat.le_refl _) _).trans (hb.mono (by simp))
  clear hb kr
  go_wp2
  exact bodyPost_ret (v := .agg #[.int .i64 2, .int .u64 (!r).toNat]) (by simp [results, Try.results61, go_sem, d0, d1]) rfl ⟨rfl, (hb1.setCell (Nat.le_refl _) _).setCell (Nat.le_refl _) _⟩

theorem realsCmp_any1 (op : Int) (x : V) (b o c : Nat) (w : World) (hn : 1 ≤ c) (hx : x.fits) (hc1 : w.cell? ⟨b, o + 1, none⟩ = some (.int .u64 x.b)) (h1 : op ≠ 1) (h2 : op ≠ 2) (h3 : op ≠ 3) (h4 : op ≠ 4) (h6 : op ≠ 6) (h17 : op ≠ 17) :
    Calls Try.prog 61 #[.int .i64 op, .slice (some ⟨b, o, none⟩) 1 c] w fun e w' => e = .returned (yesV (holdsB op (ltF x.b x.b) (eqF x.b x.b) (ltF x.b x.b))).v ∧ Below w.heap.size w w' := by
  have hlt : b < w.heap.size := World.block_lt_of_cell? w _ hc1
  have hl : ∀ w, Calls Try.prog 79 #[.int .u64 x.b, .int .u64 x.b] w fun e w' => e = .returned (.bool (ltF x.b x.b)) ∧ w = w' := less_real x.b x.b hx hx
  have hq : ∀ w, Calls Try.prog 77 #[.int .u64 x.b, .int .u64 x.b] w fun e w' => e = .returned (.bool (eqF x.b x.b)) ∧ w = w' := equal_real x.b x.b hx hx
  have hm : ∀ w, Calls Try.prog 79 #[.int .u64 x.b, .int .u64 x.b] w fun e w' => e = .returned (.bool (ltF x.b x.b)) ∧ w = w' := less_real x.b x.b hx hx
  have hh := holds_any op (ltF x.b x.b) (eqF x.b x.b) (ltF x.b x.b)
  generalize holdsB op (ltF x.b x.b) (eqF x.b x.b) (ltF x.b x.b) = r at *
  go_enter Try.func61, Try.ntmps61
  go_wp2_with fail
  refine (hl _).mono ?_
  rintro e w2 ⟨rfl, rfl⟩
  go_wp2_with fail
  refine (hq _).mono ?_
  rintro e w2 ⟨rfl, rfl⟩
  go_wp2_with fail
  refine (hm _).mono ?_
  rintro e w2 ⟨rfl, rfl⟩
  go_wp2_with fail
  refine (hh _).mono ?_
  rintro e w2 ⟨rfl, rfl⟩
  go_wp2_with fail
  refine (yes_any _ _).mono ?_
  rintro e w1 ⟨rfl, hb⟩
  simp only [V.v, yesV]
  have kr := (Bk.new w 31 #[.int .i64 0, .int .u64 0]).old hb
  obtain ⟨c0, c1, f0, f1⟩ := vcells kr
  obtain ⟨d0, d1, _, _⟩ := vcells (vput kr (.int .i64 2) (.int .u64 r.toNat))
  have hb1 : Below w.heap.size w w1 := ((Below.refl _ _).alloc (Nat.le_refl _) _).trans (hb.mono (by simp))
  clear hb kr
  go_wp2
  exact bodyPost_ret (v := .agg #[.int .i64 2, .int .u64 r.toNat]) (by simp [results, Try.results61, go_sem, d0, d1]) rfl ⟨rfl, (hb1.setCell (Nat.le_refl _) _).setCell (Nat.le_refl _) _⟩

theorem reals_any1 (op : Int) (x : V) (b o c : Nat) (w : World) (hn : 1 ≤ c) (hx : x.fits) (hc1 : w.cell? ⟨b, o + 1, none⟩ = some (.int .u64 x.b)) :
    Calls Try.prog 61 #[.int .i64 op, .slice (some ⟨b, o, none⟩) 1 c] w fun e w' => e = .returned (realsV op x x).v ∧ Below w.heap.size w w' := by
  have hlt : b < w.heap.size := World.block_lt_of_cell? w _ hc1
  unfold realsV
  by_cases h1 : op = 1
  · subst h1
    rw [if_pos rfl]
    exact realsAdd_any1 x b o c w hn hx hc1
  rw [if_neg h1]
  by_cases h2 : op = 2
  · subst h2
    rw [if_pos rfl]
    exact realsSub_any1 x b o c w hn hx hc1
  rw [if_neg h2]
  by_cases h3 : op = 3
  · subst h3
    rw [if_pos rfl]
    exact realsMul_any1 x b o c w hn hx hc1
  rw [if_neg h3]
  by_cases h4 : op = 4
  · subst h4
    rw [if_pos rfl]
    exact realsDiv_any1 x b o c w hn hx hc1
  rw [if_neg h4]
  by_cases h6 : op = 6
  · subst h6
    rw [if_pos rfl]
    exact realsNeg_any1 x b o c w hn hx hc1
  rw [if_neg h6]
  by_cases h17 : op = 17
  · subst h17
    rw [if_pos rfl]
    exact realsNan_any1 x b o c w hn hx hc1
  rw [if_neg h17]
  exact realsCmp_any1 op x b o c w hn hx hc1 h1 h2 h3 h4 h6 h17

theorem realsAdd_any2 (x y : V) (b o c : Nat) (w : World) (hn : 2 ≤ c) (hx : x.fits) (hc1 : w.cell? ⟨b, o + 1, none⟩ = some (.int .u64 x.b)) (hy : y.fits) (hc3 : w.cell? ⟨b, o + 3, none⟩ = some (.int .u64 y.b)) :
    Calls Try.prog 61 #[.int .i64 1, .slice (some ⟨b, o, none⟩) 2 c] w fun e w' => e = .returned (⟨4, flN .add (canonN x.b) (canonN y.b)⟩ : V).v ∧ Below w.heap.size w w' := by
  have hlt : b < w.heap.size := World.block_lt_of_cell? w _ hc1
  have hh := add_real x.b y.b hx hy
  generalize flN .add (canonN x.b) (canonN y.b) = r at *
  go_enter Try.func61, Try.ntmps61
  go_wp2_with fail
  refine (hh _).mono ?_
  rintro e w2 ⟨rfl, hb2⟩
  go_wp2_with fail
  refine (real_r _ _).mono ?_
  rintro e w1 ⟨rfl, hb⟩
  simp only [V.v]
  have hb := hb2.trans (hb.mono hb2.size)
  have kr := (Bk.new w 31 #[.int .i64 0, .int .u64 0]).old hb
  obtain ⟨c0, c1, f0, f1⟩ := vcells kr
  obtain ⟨d0, d1, _, _⟩ := vcells (vput kr (.int .i64 4) (.int .u64 r))
  have hb1 : Below w.heap.size w w1 := ((Below.refl _ _).alloc (Nat.le_refl _) _).trans (hb.mono (by simp))
  clear hb kr
  go_wp2
  exact bodyPost_ret (v := .agg #[.int .i64 4, .int .u64 r]) (by simp [results, Try.results61, go_sem, d0, d1]) rfl ⟨rfl, (hb1.setCell (Nat.le_refl _) _).setCell (Nat.le_refl _) _⟩

theorem realsSub_any2 (x y : V) (b o c : Nat) (w : World) (hn : 2 ≤ c) (hx : x.fits) (hc1 : w.cell? ⟨b, o + 1, none⟩ = some (.int .u64 x.b)) (hy : y.fits) (hc3 : w.cell? ⟨b, o + 3, none⟩ = some (.int .u64 y.b)) :
    Calls Try.prog 61 #[.int .i64 2, .slice (some ⟨b, o, none⟩) 2 c] w fun e w' => e = .returned (⟨4, flN .sub (canonN x.b) (canonN y.b)⟩ : V).v ∧ Below w.heap.size w w' := by
  have hlt : b < w.heap.size := World.block_lt_of_cell? w _ hc1
  have hh := sub_real x.b y.b hx hy
  generalize flN .sub (canonN x.b) (canonN y.b) = r at *
  go_enter Try.func61, Try.ntmps61
  go_wp2_with fail
  refine (hh _).mono ?_
  rintro e w2 ⟨rfl, hb2⟩
  go_wp2_with fail
  refine (real_r _ _).mono ?_
  rintro e w1 ⟨rfl, hb⟩
  simp only [V.v]
  have hb := hb2.trans (hb.mono hb2.size)
  have kr := (Bk.new w 31 #[.int .i64 0, .int .u64 0]).old hb
  obtain ⟨c0, c1, f0, f1⟩ := vcells kr
  obtain ⟨d0, d1, _, _⟩ := vcells (vput kr (.int .i64 4) (.int .u64 r))
  have hb1 : Below w.heap.size w w1 := ((Below.refl _ _).alloc (Nat.le_refl _) _).trans (hb.mono (by simp))
  clear hb kr
  go_wp2
  exact bodyPost_ret (v := .agg #[.int .i64 4, .int .u64 r]) (by simp [results, Try.results61, go_sem, d0, d1]) rfl ⟨rfl, (hb1.setCell (Nat.le_refl _) _).setCell (Nat.le_refl _) _⟩

theorem realsMul_any2 (x y : V) (b o c : Nat) (w : World) (hn : 2 ≤ c) (hx : x.fits) (hc1 : w.cell? ⟨b, o + 1, none⟩ = some (.int .u64 x.b)) (hy : y.fits) (hc3 : w.cell? ⟨b, o + 3, none⟩ = some (.int .u64 y.b)) :
    Calls Try.prog 61 #[.int .i64 3, .slice (some ⟨b, o, none⟩) 2 c] w fun e w' => e = .returned (⟨4, flN .mul (canonN x.b) (canonN y.b)⟩ : V).v ∧ Below w.heap.size w w' := by
  have hlt : b < w.heap.size := World.block_lt_of_cell? w _ hc1
  have hh := mul_real x.b y.b hx hy
  generalize flN .mul (canonN x.b) (canonN y.b) = r at *
  go_enter Try.func61, Try.ntmps61
  go_wp2_with fail
  refine (hh _).mono ?_
  rintro e w2 ⟨rfl, hb2⟩
  go_wp2_with fail
  refine (real_r _ _).mono ?_
  rintro e w1 ⟨rfl, hb⟩
  simp only [V.v]
  have hb := hb2.trans (hb.mono hb2.size)
  have kr := (Bk.new w 31 #[.int .i64 0, .int .u64 0]).old hb
  obtain ⟨c0, c1, f0, f1⟩ := vcells kr
  obtain ⟨d0, d1, _, _⟩ := vcells (vput kr (.int .i64 4) (.int .u64 r))
  have hb1 : Below w.heap.size w w1 := ((Below.refl _ _).alloc (Nat.le_refl _) _).trans (hb.mono (by simp))
  clear hb kr
  go_wp2
  exact bodyPost_ret (v := .agg #[.int .i64 4, .int .u64 r]) (by simp [results, Try.results61, go_sem, d0, d1]) rfl ⟨rfl, (hb1.setCell (Nat.le_refl _) _).setCell (Nat.le_refl _) _⟩

theorem realsDiv_any2 (x y : V) (b o c : Nat) (w : World) (hn : 2 ≤ c) (hx : x.fits) (hc1 : w.cell? ⟨b, o + 1, none⟩ = some (.int .u64 x.b)) (hy : y.fits) (hc3 : w.cell? ⟨b, o + 3, none⟩ = some (.int .u64 y.b)) :
    Calls Try.prog 61 #[.int .i64 4, .slice (some ⟨b, o, none⟩) 2 c] w fun e w' => e = .returned (⟨4, flN .quo (canonN x.b) (canonN y.b)⟩ : V).v ∧ Below w.heap.size w w' := by
  have hlt : b < w.heap.size := World.block_lt_of_cell? w _ hc1
  have hh := div_real x.b y.b hx hy
  generalize flN .quo (canonN x.b) (canonN y.b) = r at *
  go_enter Try.func61, Try.ntmps61
  go_wp2_with fail
  refine (hh _).mono ?_
  rintro e w2 ⟨rfl, hb2⟩
  go_wp2_with fail
  refine (real_r _ _).mono ?_
  rintro e w1 ⟨rfl, hb⟩
  simp only [V.v]
  have hb := hb2.trans (hb.mono hb2.size)
  have kr := (Bk.new w 31 #[.int .i64 0, .int .u64 0]).old hb
  obtain ⟨c0, c1, f0, f1⟩ := vcells kr
  obtain ⟨d0, d1, _, _⟩ := vcells (vput kr (.int .i64 4) (.int .u64 r))
  have hb1 : Below w.heap.size w w1 := ((Below.refl _ _).alloc (Nat.le_refl _) _).trans (hb.mono (by simp))
  clear hb kr
  go_wp2
  exact bodyPost_ret (v := .agg #[.int .i64 4, .int .u64 r]) (by simp [results, Try.results61, go_sem, d0, d1]) rfl ⟨rfl, (hb1.setCell (Nat.le_refl _) _).setCell (Nat.le_refl _) _⟩

theorem realsNeg_any2 (x y : V) (b o c : Nat) (w : World) (hn : 2 ≤ c) (hx : x.fits) (hc1 : w.cell? ⟨b, o + 1, none⟩ = some (.int .u64 x.b)) (hy : y.fits) (hc3 : w.cell? ⟨b, o + 3, none⟩ = some (.int .u64 y.b)) :
    Calls Try.prog 61 #[.int .i64 6, .slice (some ⟨b, o, none⟩) 2 c] w fun e w' => e = .returned (⟨4, canonN (negN (canonN x.b))⟩ : V).v ∧ Below w.heap.size w w' := by
  have hlt : b < w.heap.size := World.block_lt_of_cell? w _ hc1
  have hh := neg_real x.b hx
  generalize canonN (negN (canonN x.b)) = r at *
  go_enter Try.func61, Try.ntmps61
  go_wp2_with fail
  refine (hh _).mono ?_
  rintro e w2 ⟨rfl, rfl⟩
  go_wp2_with fail
  refine (real_r _ _).mono ?_
  rintro e w1 ⟨rfl, hb⟩
  simp only [V.v]
  have kr := (Bk.new w 31 #[.int .i64 0, .int .u64 0]).old hb
  obtain ⟨c0, c1, f0, f1⟩ := vcells kr
  obtain ⟨d0, d1, _, _⟩ := vcells (vput kr (.int .i64 4) (.int .u64 r))
  have hb1 : Below w.heap.size w w1 := ((Below.refl _ _).alloc (Nat.le_refl _) _).trans (hb.mono (by simp))
  clear hb kr
  go_wp2
  exact bodyPost_ret (v := .agg #[.int .i64 4, .int .u64 r]) (by simp [results, Try.results61, go_sem, d0, d1]) rfl ⟨rfl, (hb1.setCell (Nat.le_refl _) _).setCell (Nat.le_refl _) _⟩

theorem realsNan_any2 (x y : V) (b o c : Nat) (w : World) (hn : 2 ≤ c) (hx : x.fits) (hc1 : w.cell? ⟨b, o + 1, none⟩ = some (.int .u64 x.b)) (hy : y.fits) (hc3 : w.cell? ⟨b, o + 3, none⟩ = some (.int .u64 y.b)) :
    Calls Try.prog 61 #[.int .i64 17, .slice (some ⟨b, o, none⟩) 2 c] w fun e w' => e = .returned (yesV (!eqF x.b x.b)).v ∧ Below w.heap.size w w' := by
  have hlt : b < w.heap.size := World.block_lt_of_cell? w _ hc1
  have hh := equal_real x.b x.b hx hx
  rw [show (FloatKind.f64.format.order (canonN x.b) (canonN x.b) == some .eq) = eqF x.b x.b from rfl] at hh
  generalize eqF x.b x.b = r at *
  go_enter Try.func61, Try.ntmps61
  go_wp2_with fail
  refine (hh _).mono ?_
  rintro e w2 ⟨rfl, rfl⟩
  go_wp2_with fail
  refine (yes_any _ _).mono ?_
  rintro e w1 ⟨rfl, hb⟩
  simp only [V.v, yesV]
  have kr := (Bk.new w 31 #[.int .i64 0, .int .u64 0]).old hb
  obtain ⟨c0, c1, f0, f1⟩ := vcells kr
  obtain ⟨d0, d1, _, _⟩ := vcells (vput kr (.int .i64 2) (.int .u64 (!r).toNat))
  have hb1 : Below w.heap.size w w1 := ((Below.refl _ _).alloc (Nat.le_refl _) _).trans (hb.mono (by simp))
  clear hb kr
  go_wp2
  exact bodyPost_ret (v := .agg #[.int .i64 2, .int .u64 (!r).toNat]) (by simp [results, Try.results61, go_sem, d0, d1]) rfl ⟨rfl, (hb1.setCell (Nat.le_refl _) _).setCell (Nat.le_refl _) _⟩

theorem realsCmp_any2 (op : Int) (x y : V) (b o c : Nat) (w : World) (hn : 2 ≤ c) (hx : x.fits) (hc1 : w.cell? ⟨b, o + 1, none⟩ = some (.int .u64 x.b)) (hy : y.fits) (hc3 : w.cell? ⟨b, o + 3, none⟩ = some (.int .u64 y.b)) (h1 : op ≠ 1) (h2 : op ≠ 2) (h3 : op ≠ 3) (h4 : op ≠ 4) (h6 : op ≠ 6) (h17 : op ≠ 17) :
    Calls Try.prog 61 #[.int .i64 op, .slice (some ⟨b, o, none⟩) 2 c] w fun e w' => e = .returned (yesV (holdsB op (ltF x.b y.b) (eqF x.b y.b) (ltF y.b x.b))).v ∧ Below w.heap.size w w' := by
  have hlt : b < w.heap.size := World.block_lt_of_cell? w _ hc1
  have hl : ∀ w, Calls Try.prog 79 #[.int .u64 x.b, .int .u64 y.b] w fun e w' => e = .returned (.bool (ltF x.b y.b)) ∧ w = w' := less_real x.b y.b hx hy
  have hq : ∀ w, Calls Try.prog 77 #[.int .u64 x.b, .int .u64 y.b] w fun e w' => e = .returned (.bool (eqF x.b y.b)) ∧ w = w' := equal_real x.b y.b hx hy
  have hm : ∀ w, Calls Try.prog 79 #[.int .u64 y.b, .int .u64 x.b] w fun e w' => e = .returned (.bool (ltF y.b x.b)) ∧ w = w' := less_real y.b x.b hy hx
  have hh := holds_any op (ltF x.b y.b) (eqF x.b y.b) (ltF y.b x.b)
  generalize holdsB op (ltF x.b y.b) (eqF x.b y.b) (ltF y.b x.b) = r at *
  go_enter Try.func61, Try.ntmps61
  go_wp2_with fail
  refine (hl _).mono ?_
  rintro e w2 ⟨rfl, rfl⟩
  go_wp2_with fail
  refine (hq _).mono ?_
  rintro e w2 ⟨rfl, rfl⟩
  go_wp2_with fail
  refine (hm _).mono ?_
  rintro e w2 ⟨rfl, rfl⟩
  go_wp2_with fail
  refine (hh _).mono ?_
  rintro e w2 ⟨rfl, rfl⟩
  go_wp2_with fail
  refine (yes_any _ _).mono ?_
  rintro e w1 ⟨rfl, hb⟩
  simp only [V.v, yesV]
  have kr := (Bk.new w 31 #[.int .i64 0, .int .u64 0]).old hb
  obtain ⟨c0, c1, f0, f1⟩ := vcells kr
  obtain ⟨d0, d1, _, _⟩ := vcells (vput kr (.int .i64 2) (.int .u64 r.toNat))
  have hb1 : Below w.heap.size w w1 := ((Below.refl _ _).alloc (Nat.le_refl _) _).trans (hb.mono (by simp))
  clear hb kr
  go_wp2
  exact bodyPost_ret (v := .agg #[.int .i64 2, .int .u64 r.toNat]) (by simp [results, Try.results61, go_sem, d0, d1]) rfl ⟨rfl, (hb1.setCell (Nat.le_refl _) _).setCell (Nat.le_refl _) _⟩

theorem reals_any2 (op : Int) (x y : V) (b o c : Nat) (w : World) (hn : 2 ≤ c) (hx : x.fits) (hc1 : w.cell? ⟨b, o + 1, none⟩ = some (.int .u64 x.b)) (hy : y.fits) (hc3 : w.cell? ⟨b, o + 3, none⟩ = some (.int .u64 y.b)) :
    Calls Try.prog 61 #[.int .i64 op, .slice (some ⟨b, o, none⟩) 2 c] w fun e w' => e = .returned (realsV op x y).v ∧ Below w.heap.size w w' := by
  have hlt : b < w.heap.size := World.block_lt_of_cell? w _ hc1
  unfold realsV
  by_cases h1 : op = 1
  · subst h1
    rw [if_pos rfl]
    exact realsAdd_any2 x y b o c w hn hx hc1 hy hc3
  rw [if_neg h1]
  by_cases h2 : op = 2
  · subst h2
    rw [if_pos rfl]
    exact realsSub_any2 x y b o c w hn hx hc1 hy hc3
  rw [if_neg h2]
  by_cases h3 : op = 3
  · subst h3
    rw [if_pos rfl]
    exact realsMul_any2 x y b o c w hn hx hc1 hy hc3
  rw [if_neg h3]
  by_cases h4 : op = 4
  · subst h4
    rw [if_pos rfl]
    exact realsDiv_any2 x y b o c w hn hx hc1 hy hc3
  rw [if_neg h4]
  by_cases h6 : op = 6
  · subst h6
    rw [if_pos rfl]
    exact realsNeg_any2 x y b o c w hn hx hc1 hy hc3
  rw [if_neg h6]
  by_cases h17 : op = 17
  · subst h17
    rw [if_pos rfl]
    exact realsNan_any2 x y b o c w hn hx hc1 hy hc3
  rw [if_neg h17]
  exact realsCmp_any2 op x y b o c w hn hx hc1 hy hc3 h1 h2 h3 h4 h6 h17
end Go.Proofs.Ytadblgfppnpamaa
