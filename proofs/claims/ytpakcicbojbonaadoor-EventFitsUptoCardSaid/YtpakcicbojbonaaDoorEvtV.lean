/- Layer 4: the schema that has any kinds, and its names. Plain. -/
import Derived.Test.YtpakcicbojbonaaDoorEvtU
namespace Go.Proofs.YtpakcicbojbonaaDoor
open Go.RowKit
set_option maxRecDepth 100000
set_option linter.unusedVariables false
set_option linter.unusedSimpArgs false

/-- The digits of a number below a hundred. -/
def d2 (i : Nat) : List UInt8 := if i < 10 then [dgt i] else [dgt (i / 10), dgt (i % 10)]
theorem itoa_d2 (i : Nat) (h : i < 100) : Lib.itoa (i : Int) = d2 i := by
  unfold Lib.itoa d2
  rw [if_neg (by omega), Int.toNat_natCast]
  by_cases h1 : i < 10
  · rw [if_pos h1, dec_small i h1]
  · rw [if_neg h1, dec_more i h1, dec_small (i / 10) (by omega)]; rfl
/-- The names of a row: a letter, a number. -/
def nameN (c : UInt8) (i : Nat) : ByteArray := bytes (c :: Lib.itoa (i : Int))
def namesN (c : UInt8) (m : Nat) : List ByteArray := (List.range m).map (nameN c)
theorem badFrom_pre : ∀ (l1 l2 pre : List (List UInt8)), badFrom pre (l1 ++ l2) = false → badFrom pre l1 = false
  | [], _, _, _ => rfl
  | x :: l1, l2, pre, h => by
    rw [List.cons_append, badFrom] at h
    rw [badFrom]
    split at h
    · rename_i h1
      rw [if_pos h1]
      split at h
      · cases h
      · rename_i h2
        rw [if_neg h2]
        exact badFrom_pre l1 l2 _ h
    · cases h
theorem big_T : badB ((List.range 16).map fun i => (84 : UInt8) :: d2 i) = false := by decide +kernel
theorem big_f : badB ((List.range 8).map fun i => (102 : UInt8) :: d2 i) = false := by decide +kernel
theorem big_s : badB ((List.range 64).map fun i => (115 : UInt8) :: d2 i) = false := by decide +kernel
theorem names_ok (c : UInt8) (M : Nat) (hM : M ≤ 100) (h : badB ((List.range M).map fun i => c :: d2 i) = false) (m : Nat) (hm : m ≤ M) : badB ((namesN c m).map (·.toList)) = false := by
  have e : (namesN c m).map (·.toList) = (List.range m).map fun i => c :: d2 i := by
    unfold namesN
    rw [List.map_map]
    refine List.map_congr_left fun i hi => ?_
    have := List.mem_range.1 hi
    show (nameN c i).toList = _
    rw [nameN, bytes_list, itoa_d2 i (by omega)]
  rw [e]
  obtain ⟨r, hr⟩ : ∃ r, (List.range M) = List.range m ++ r := by
    refine ⟨(List.range M).drop m, ?_⟩
    have : List.range m = (List.range M).take m := by rw [List.take_range]; rw [Nat.min_eq_left hm]
    rw [this, List.take_append_drop]
  rw [hr, List.map_append] at h
  exact badFrom_pre _ _ _ h
/-- Fields, types of a row of kinds. -/
def genF (l : List Int) : List FieldV := l.mapIdx fun k f => ⟨nameN 102 k, f⟩
def genT (K : List (List Int)) : List TSig := K.mapIdx fun i l => (nameN 84 i, genF l)
def genY (n : Int) : List ByteArray := namesN 115 (min n.toNat 65)
theorem genF_kinds (l : List Int) : (genF l).map (·.kind) = l := by
  unfold genF
  refine List.ext_getElem (by simp) fun i h1 h2 => by simp
theorem genF_names (l : List Int) : (genF l).map (·.name) = namesN 102 l.length := by
  unfold genF namesN
  refine List.ext_getElem (by simp) fun i h1 h2 => by simp
theorem genT_kinds (K : List (List Int)) : kindsOf (genT K) = K := by
  unfold kindsOf genT
  refine List.ext_getElem (by simp) fun i h1 h2 => ?_
  simp only [List.getElem_map, List.getElem_mapIdx]
  exact genF_kinds _
theorem genT_names (K : List (List Int)) : (genT K).map (·.1) = namesN 84 K.length := by
  unfold genT namesN
  refine List.ext_getElem (by simp) fun i h1 h2 => by simp
theorem genY_len (n : Int) : (genY n).length = min n.toNat 65 := by simp [genY, namesN]
theorem gen_check (K : List (List Int)) (n : Int) (hn : 0 ≤ n) : decide (checkSig (genT K) (genY n) = 0) = (kindsOk K && decide (n ≤ 64)) := by
  have hmem : ∀ t ∈ genT K, ∃ l ∈ K, t.2 = genF l := by
    intro t ht
    obtain ⟨i, hi, rfl⟩ := List.mem_iff_getElem.1 ht
    have hi2 : i < K.length := by simpa [genT] using hi
    exact ⟨K[i], List.getElem_mem _, by simp [genT]⟩
  have hmem2 : ∀ l ∈ K, ∃ t ∈ genT K, t.2 = genF l := by
    intro l hl
    obtain ⟨i, hi, rfl⟩ := List.mem_iff_getElem.1 hl
    have hi2 : i < (genT K).length := by simpa [genT] using hi
    exact ⟨(genT K)[i], List.getElem_mem _, by simp [genT]⟩
  by_cases hok : kindsOk K = true ∧ n ≤ 64
  · obtain ⟨h1, h2⟩ := hok
    rw [h1, decide_eq_true h2]
    unfold kindsOk at h1
    simp only [Bool.and_eq_true, decide_eq_true_eq, List.all_eq_true] at h1
    obtain ⟨h3, h4⟩ := h1
    have hrow : ∀ l ∈ K, l.length ≤ 8 ∧ ∀ k ∈ l, 1 ≤ k ∧ k ≤ 4 := by
      intro l hl
      have := h4 l hl
      unfold rowOk at this
      simp only [Bool.and_eq_true, decide_eq_true_eq, List.all_eq_true] at this
      refine ⟨this.1, fun k hk => ?_⟩
      have := this.2 k hk
      unfold kindOk at this
      simpa using this
    have g1 : (genT K).any longT = false := by
      rw [List.any_eq_false]
      intro t ht
      obtain ⟨l, hl, e⟩ := hmem t ht
      have := (hrow l hl).1
      unfold longT
      rw [e]
      simp [genF]; omega
    have g2 : (genT K).any nameT = false := by
      rw [List.any_eq_false]
      intro t ht
      obtain ⟨l, hl, e⟩ := hmem t ht
      have hb : nameT t = false := by
        unfold nameT fieldsOf
        rw [e, show (genF l).map (·.name.toList) = ((genF l).map (·.name)).map (·.toList) from by rw [List.map_map]; rfl, genF_names]
        exact names_ok 102 8 (by decide) big_f _ (hrow l hl).1
      rw [hb]; decide
    have g3 : badB ((genT K).map (·.1.toList)) = false := by
      rw [show (genT K).map (·.1.toList) = ((genT K).map (·.1)).map (·.toList) from by rw [List.map_map]; rfl, genT_names]
      exact names_ok 84 16 (by decide) big_T _ h3
    have g4 : badB ((genY n).map (·.toList)) = false := names_ok 115 64 (by decide) big_s _ (by omega)
    have g5 : (genT K).any kindT = false := by
      rw [List.any_eq_false]
      intro t ht
      obtain ⟨l, hl, e⟩ := hmem t ht
      have hb : kindT t = false := by
        unfold kindT
        rw [e, List.any_eq_false]
        intro f hf
        have hk : f.kind ∈ (genF l).map (·.kind) := List.mem_map_of_mem hf
        rw [genF_kinds] at hk
        have := (hrow l hl).2 _ hk
        unfold kindBadB
        rw [decide_eq_false (by omega : ¬ f.kind < 1), decide_eq_false (by omega : ¬ 4 < f.kind)]; decide
      rw [hb]; decide
    have hl1 : (genT K).length = K.length := by simp [genT]
    unfold checkSig
    rw [g1, g2, g3, g4, g5, hl1, genY_len, decide_eq_false (by omega : ¬ 16 < K.length), decide_eq_false (by omega : ¬ 64 < min n.toNat 65)]
    decide
  · have hno : (kindsOk K && decide (n ≤ 64)) = false := by
      cases h : kindsOk K
      · rfl
      · rw [Bool.true_and]
        exact decide_eq_false fun h2 => hok ⟨h, h2⟩
    rw [hno]
    refine decide_eq_false fun hz => hok ?_
    obtain ⟨z1, z2⟩ := check_zero hz
    rw [genT_kinds] at z1
    rw [genY_len] at z2
    exact ⟨z1, by omega⟩
theorem fits_gen (K : List (List Int)) (n : Int) (e : Int × Int × List V) : fitsB K n e = (decide (0 ≤ n) && validB (genT K) (genY n) e) := by
  by_cases hn : 0 ≤ n
  · unfold fitsB validB
    rw [gen_check K n hn, genT_kinds, genY_len, decide_eq_true hn, Bool.true_and]
    by_cases h64 : n ≤ 64
    · rw [decide_eq_true (⟨hn, h64⟩ : 0 ≤ n ∧ n ≤ 64), decide_eq_true h64, show min n.toNat 65 = n.toNat from by omega]
    · rw [decide_eq_false (by omega : ¬ (0 ≤ n ∧ n ≤ 64)), decide_eq_false h64, Bool.and_false, Bool.false_and, Bool.false_and]
  · unfold fitsB
    rw [decide_eq_false hn, decide_eq_false (by omega : ¬ (0 ≤ n ∧ n ≤ 64)), Bool.and_false, Bool.false_and, Bool.false_and]
end Go.Proofs.YtpakcicbojbonaaDoor
