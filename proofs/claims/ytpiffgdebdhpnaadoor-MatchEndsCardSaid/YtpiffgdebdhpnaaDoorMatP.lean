/- Layer 10: what a line of a match is when it is read again. Plain. -/
import Derived.Test.YtpiffgdebdhpnaaDoorMatF
namespace Go.Proofs.YtpiffgdebdhpnaaDoor
open Go.RowKit
set_option maxRecDepth 10000
set_option linter.unusedVariables false
set_option linter.unusedSimpArgs false

/-! Cutting a text at a byte. -/
def split1 (c : UInt8) : List UInt8 → List (List UInt8)
  | [] => [[]]
  | b :: l => if b = c then [] :: split1 c l else match split1 c l with | x :: r => (b :: x) :: r | [] => [[b]]
theorem split1_ne (c : UInt8) : ∀ l, split1 c l ≠ []
  | [] => by simp [split1]
  | b :: l => by
    unfold split1
    split
    · simp
    · cases split1 c l <;> simp
theorem idx_cons (b c : UInt8) (l : List UInt8) : Lib.index (b :: l) [c] = if b = c then 0 else if Lib.index l [c] == -1 then -1 else Lib.index l [c] + 1 := by
  by_cases h : b = c
  · subst h
    rw [if_pos rfl, Lib.index]
    simp [List.isPrefixOf]
  · rw [if_neg h]
    have hp : ([c] : List UInt8).isPrefixOf (b :: l) = false := by simp [List.isPrefixOf, Ne.symm h]
    rw [Lib.index, hp]
    simp
theorem splitK_one (c : UInt8) : ∀ l : List UInt8, Lib.splitK [c] 0 (l.count c) l = split1 c l
  | [] => rfl
  | b :: l => by
    have ih := splitK_one c l
    have hix := idx_cons b c l
    by_cases h : b = c
    · subst h
      rw [if_pos rfl] at hix
      have e : (b :: l).count b = l.count b + 1 := by simp
      rw [e]
      show (if Lib.index (b :: l) [b] == -1 then _ else _) = _
      rw [hix]
      unfold split1
      rw [if_pos rfl, ← ih]
      rfl
    · rw [if_neg h] at hix
      have e : (b :: l).count c = l.count c := by rw [List.count_cons_of_ne (by simpa using h)]
      rw [e]
      unfold split1
      rw [if_neg h, ← ih]
      cases hk : l.count c with
      | zero => rfl
      | succ k =>
        show (if Lib.index (b :: l) [c] == -1 then [b :: l] else (b :: l).take ((Lib.index (b :: l) [c]).toNat + 0) :: Lib.splitK [c] 0 k ((b :: l).drop ((Lib.index (b :: l) [c]).toNat + 1))) = match (if Lib.index l [c] == -1 then [l] else l.take ((Lib.index l [c]).toNat + 0) :: Lib.splitK [c] 0 k (l.drop ((Lib.index l [c]).toNat + 1))) with | x :: r => (b :: x) :: r | [] => [[b]]
        rw [hix]
        by_cases hm : Lib.index l [c] = -1
        · rw [hm]; rfl
        · have hge := Lib.index_ge l [c]
          have hf : (Lib.index l [c] == -1) = false := by rw [beq_eq_false_iff_ne]; exact hm
          rw [hf]
          simp only [Bool.false_eq_true, if_false]
          obtain ⟨j, hj⟩ : ∃ j : Nat, Lib.index l [c] = j := ⟨(Lib.index l [c]).toNat, by omega⟩
          rw [hj]
          have h1 : (((j : Int) + 1) == -1) = false := by rw [beq_eq_false_iff_ne]; omega
          rw [h1]
          simp only [Bool.false_eq_true, if_false]
          have h2 : ((j : Int) + 1).toNat = j + 1 := by omega
          rw [h2, Int.toNat_natCast]
          simp
theorem splitL_bytes (c : UInt8) (l : List UInt8) : splitL (bytes l) ⟨#[c]⟩ = (split1 c l).map bytes := by
  have h1 := Lib.splitB_data ⟨#[c]⟩ 0 (Lib.countB (bytes l) ⟨#[c]⟩) (bytes l)
  have h2 : Lib.countB (bytes l) ⟨#[c]⟩ = l.count c := by
    show Lib.count (bytes l).data.toList [c] = _
    rw [Lib.count_one]; simp [bytes]
  have h3 : (splitL (bytes l) ⟨#[c]⟩).map (·.data.toList) = split1 c l := by
    unfold splitL
    rw [h1, h2]
    show Lib.splitK [c] 0 (l.count c) (bytes l).data.toList = _
    have : (bytes l).data.toList = l := by simp [bytes]
    rw [this, splitK_one]
  rw [← h3, List.map_map]
  have : (bytes ∘ fun x : ByteArray => x.data.toList) = id := by funext x; simp [bytes]
  rw [this, List.map_id]
theorem of_bytes (s : ByteArray) : s = bytes s.data.toList := by simp [bytes]
theorem split1_none (c : UInt8) : ∀ a : List UInt8, c ∉ a → split1 c a = [a]
  | [], _ => rfl
  | b :: a, h => by
    have hb : ¬ b = c := fun e => h (by simp [e])
    unfold split1
    rw [if_neg hb, split1_none c a (fun e => h (by simp [e]))]
theorem split1_at (c : UInt8) (t : List UInt8) : ∀ a : List UInt8, c ∉ a → split1 c (a ++ c :: t) = a :: split1 c t
  | [], _ => by simp [split1]
  | b :: a, h => by
    have hb : ¬ b = c := fun e => h (by simp [e])
    show (if b = c then [] :: split1 c (a ++ c :: t) else match split1 c (a ++ c :: t) with | x :: r => (b :: x) :: r | [] => [[b]]) = _
    rw [if_neg hb, split1_at c t a (fun e => h (by simp [e]))]
def wid (L : List (List UInt8)) : Nat := (L.map fun x => x.length + 1).sum
theorem split1_wid (c : UInt8) : ∀ l, wid (split1 c l) = l.length + 1
  | [] => rfl
  | b :: l => by
    have ih := split1_wid c l
    unfold split1
    split
    · simp [wid] at ih ⊢; omega
    · cases h : split1 c l with
      | nil => exact absurd h (split1_ne c l)
      | cons x r => rw [h] at ih; simp [wid] at ih ⊢; omega
theorem wid_len : ∀ L : List (List UInt8), L.length ≤ wid L
  | [] => Nat.le_refl _
  | x :: L => by have := wid_len L; simp [wid] at this ⊢; omega
theorem wid_mem : ∀ (L : List (List UInt8)), ∀ x ∈ L, x.length + 1 ≤ wid L
  | x :: L, y, h => by
    simp only [wid, List.map_cons, List.sum_cons]
    rcases List.mem_cons.1 h with rfl | h
    · omega
    · have := wid_mem L y h; simp only [wid] at this; omega
theorem split1_mem (c : UInt8) (l : List UInt8) : ∀ x ∈ split1 c l, x.length ≤ l.length := by
  intro x hx
  have h1 := wid_mem _ x hx
  rw [split1_wid] at h1; omega
theorem cut_at (c : UInt8) (t : List UInt8) : ∀ a : List UInt8, c ∉ a → Lib.index (a ++ c :: t) [c] = a.length
  | [], _ => by rw [List.nil_append, idx_cons, if_pos rfl]; rfl
  | b :: a, h => by
    have hb : ¬ b = c := fun e => h (by simp [e])
    have ih := cut_at c t a (fun e => h (by simp [e]))
    show Lib.index (b :: (a ++ c :: t)) [c] = _
    rw [idx_cons, if_neg hb, ih]
    have h1 : (((a.length : Nat) : Int) == -1) = false := by rw [beq_eq_false_iff_ne]; omega
    rw [h1]; simp
theorem cut_line (c : UInt8) (a t : List UInt8) (h : c ∉ a) : Lib.cut (a ++ c :: t) [c] = (a, t, true) := by
  unfold Lib.cut
  rw [cut_at c t a h, if_pos (by omega)]
  simp
theorem cut_le (c : UInt8) (l : List UInt8) : (Lib.cut l [c]).1.length ≤ l.length ∧ (Lib.cut l [c]).2.1.length ≤ l.length ∧ ((Lib.cut l [c]).2.2 = true → (Lib.cut l [c]).2.1.length + 1 ≤ l.length) := by
  unfold Lib.cut
  split
  · rename_i h
    have := Lib.index_room l [c] (by omega)
    simp at this ⊢
    omega
  · simp

/-! Numbers. -/
def isD (c : UInt8) : Prop := 48 ≤ c.toNat ∧ c.toNat ≤ 57
theorem dgt_nat (k : Nat) (h : k < 10) : (dgt k).toNat = 48 + k := by
  match k, h with
  | 0, _ | 1, _ | 2, _ | 3, _ | 4, _ | 5, _ | 6, _ | 7, _ | 8, _ | 9, _ => rfl
theorem dec_d (n : Nat) : ∀ c ∈ Lib.decDigits n, isD c := by
  induction n using Nat.strongRecOn with
  | ind n ih =>
    by_cases h : n < 10
    · rw [dec_small n h]
      intro c hc
      simp at hc; subst hc
      have := dgt_nat n h
      exact ⟨by omega, by omega⟩
    · rw [dec_more n h]
      intro c hc
      rcases List.mem_append.1 hc with hc | hc
      · exact ih (n / 10) (by omega) c hc
      · simp at hc; subst hc
        have := dgt_nat (n % 10) (by omega)
        exact ⟨by omega, by omega⟩
theorem dec_ne (n : Nat) : Lib.decDigits n ≠ [] := by
  by_cases h : n < 10
  · rw [dec_small n h]; simp
  · rw [dec_more n h]; simp
theorem pu_snoc (d : UInt8) (hd : isD d) : ∀ (l : List UInt8) (acc a : Nat), Lib.parseUint10 acc l = .ok a → a * 10 + (d.toNat - 48) < 18446744073709551616 → Lib.parseUint10 acc (l ++ [d]) = .ok (a * 10 + (d.toNat - 48))
  | [], acc, a, h, hb => by
    simp only [Lib.parseUint10] at h
    injection h with h
    subst h
    rw [List.nil_append]
    unfold Lib.parseUint10
    rw [if_pos (show 48 ≤ d.toNat ∧ d.toNat ≤ 57 from hd), if_neg (by omega), if_neg (by omega)]
    rfl
  | c :: l, acc, a, h, hb => by
    show Lib.parseUint10 acc (c :: (l ++ [d])) = _
    unfold Lib.parseUint10 at h ⊢
    split at h
    · rename_i h1
      rw [if_pos h1]
      split at h
      · cases h
      · rename_i h2
        rw [if_neg h2]
        split at h
        · cases h
        · rename_i h3
          rw [if_neg h3]
          exact pu_snoc d hd l _ a h hb
    · cases h
theorem pu_dec (n : Nat) : n < 18446744073709551616 → Lib.parseUint10 0 (Lib.decDigits n) = .ok n := by
  induction n using Nat.strongRecOn with
  | ind n ih =>
    intro hn
    by_cases h : n < 10
    · rw [dec_small n h]
      have h1 := dgt_nat n h
      have h2 := pu_snoc (dgt n) ⟨by omega, by omega⟩ [] 0 0 rfl (by omega)
      rw [List.nil_append] at h2
      rw [h2, h1]
      congr 1; omega
    · rw [dec_more n h]
      have h1 := dgt_nat (n % 10) (by omega)
      rw [pu_snoc (dgt (n % 10)) ⟨by omega, by omega⟩ _ 0 (n / 10) (ih (n / 10) (by omega) (by omega)) (by omega), h1]
      congr 1; omega
theorem atoi_itoa (n : Int) (h : -9223372036854775808 ≤ n ∧ n ≤ 9223372036854775807) : Lib.atoiAll (Lib.itoa n) = .ok n := by
  unfold Lib.itoa
  split
  · rename_i h0
    rw [Lib.atoiAll_minus]
    unfold Lib.parseMag
    rw [if_neg (dec_ne _), pu_dec _ (by omega)]
    show (if 9223372036854775808 < n.natAbs then Lib.NumEnd.range else .ok (-(n.natAbs : Int))) = _
    rw [if_neg (by omega)]
    congr 1; omega
  · rename_i h0
    have hne := dec_ne n.toNat
    have hd := dec_d n.toNat
    have hp : Lib.parseMag (Lib.decDigits n.toNat) = .ok n.toNat := by
      unfold Lib.parseMag
      rw [if_neg hne, pu_dec _ (by omega)]
    cases hq : Lib.decDigits n.toNat with
    | nil => exact absurd hq hne
    | cons c r =>
      rw [hq] at hd hp
      have hc := hd c (by simp)
      unfold isD at hc
      rw [Lib.atoiAll_plain c r (by omega) (by omega), hp]
      show (if 9223372036854775808 ≤ n.toNat then Lib.NumEnd.range else .ok (n.toNat : Int)) = _
      rw [if_neg (by omega)]
      congr 1; omega
theorem atoiV_itoa (n : Int) (h : -9223372036854775808 ≤ n ∧ n ≤ 9223372036854775807) : atoiV (bytes (Lib.itoa n)) = n := by
  unfold atoiV
  have : (bytes (Lib.itoa n)).data.toList = Lib.itoa n := by simp [bytes]
  rw [this, atoi_itoa n h]
theorem itoa_no (n : Int) (c : UInt8) (h1 : c.toNat ≠ 45) (h2 : ¬ isD c) : c ∉ Lib.itoa n := by
  unfold Lib.itoa
  split
  · intro h
    rcases List.mem_cons.1 h with rfl | h
    · exact h1 rfl
    · exact h2 (dec_d _ c h)
  · exact fun h => h2 (dec_d _ c h)
theorem no32 (n : Int) : (32 : UInt8) ∉ Lib.itoa n := itoa_no n 32 (by decide) (by unfold isD; decide)
theorem no58 (n : Int) : (58 : UInt8) ∉ Lib.itoa n := itoa_no n 58 (by decide) (by unfold isD; decide)
theorem no59 (n : Int) : (59 : UInt8) ∉ Lib.itoa n := itoa_no n 59 (by decide) (by unfold isD; decide)

/-! Lines. -/
theorem split_nums : ∀ (l : List Int) (a : List UInt8), (32 : UInt8) ∉ a → split1 32 (a ++ numsL l) = a :: l.map Lib.itoa
  | [], a, h => by
    show split1 32 (a ++ []) = _
    rw [List.append_nil, split1_none 32 a h]; rfl
  | n :: l, a, h => by
    show split1 32 (a ++ 32 :: (Lib.itoa n ++ numsL l)) = _
    rw [split1_at 32 _ a h, split_nums l _ (no32 n)]; rfl
theorem nums_no (c : UInt8) (h : c ≠ 32) (h2 : ∀ n, c ∉ Lib.itoa n) : ∀ l : List Int, c ∉ numsL l
  | [] => by simp [numsL]
  | n :: l => by
    show c ∉ 32 :: (Lib.itoa n ++ numsL l)
    intro hc
    rcases List.mem_cons.1 hc with e | hc
    · exact h e
    · rcases List.mem_append.1 hc with hc | hc
      · exact h2 n hc
      · exact nums_no c h h2 l hc
theorem split_rest : ∀ (L : List (List Int)) (k : Nat) (a : List UInt8), (59 : UInt8) ∉ a → split1 59 (a ++ restL (k + 1) L) = a :: L.map numsL
  | [], k, a, h => by
    show split1 59 (a ++ []) = _
    rw [List.append_nil, split1_none 59 a h]; rfl
  | l :: L, k, a, h => by
    show split1 59 (a ++ (((if 0 < k + 1 then [59] else []) ++ numsL l) ++ restL (k + 1 + 1) L)) = _
    rw [if_pos (by omega)]
    show split1 59 (a ++ 59 :: (numsL l ++ restL (k + 1 + 1) L)) = _
    rw [split1_at 59 _ a h, split_rest L (k + 1) _ (nums_no 59 (by decide) no59 l)]; rfl
theorem part_nums (l : List Int) (h : ∀ x ∈ l, -9223372036854775808 ≤ x ∧ x ≤ 9223372036854775807) : partP (bytes (numsL l)) = l := by
  unfold partP sp
  rw [splitL_bytes]
  have h1 := split_nums l [] (by simp)
  rw [List.nil_append] at h1
  rw [h1]
  simp only [List.map_cons, List.drop_succ_cons, List.drop_zero, List.map_map]
  conv => rhs; rw [← List.map_id l]
  refine List.map_congr_left fun x hx => ?_
  exact atoiV_itoa x (h x hx)
theorem tail_parts (L : List (List Int)) (hne : L ≠ []) (h : ∀ l ∈ L, ∀ x ∈ l, -9223372036854775808 ≤ x ∧ x ≤ 9223372036854775807) : (splitL (bytes (restL 0 L)) semi).map partP = L := by
  unfold semi
  rw [splitL_bytes]
  have h1 : split1 59 (restL 0 L) = L.map numsL := by
    cases L with
    | nil => exact absurd rfl hne
    | cons l L =>
      show split1 59 ((((if 0 < 0 then [59] else []) ++ numsL l) ++ restL (0 + 1) L)) = _
      rw [if_neg (by omega), List.nil_append, split_rest L 0 _ (nums_no 59 (by decide) no59 l)]; rfl
  rw [h1, List.map_map, List.map_map]
  conv => rhs; rw [← List.map_id L]
  exact List.map_congr_left fun x hx => part_nums x (h x hx)
theorem good_ne {st br n : Int} {L : List (List Int)} (h : goodB st br n L = true) : L ≠ [] := by
  rintro rfl
  simp [goodB, partsT, lastB] at h
/-- A line that is read again is what was written. -/
theorem parse_line (st br : Int) (L : List (List Int)) (hst : -9223372036854775808 ≤ st ∧ st ≤ 9223372036854775807) (hbr : -9223372036854775808 ≤ br ∧ br ≤ 9223372036854775807) :
    parseM (bytes (lineT st br L)) = if goodB st br maxI L = true then some (st, br, L) else none := by
  by_cases hg : goodB st br maxI L = true
  · have hL := good_range hg hst.2
    have hne := good_ne hg
    have hline : lineT st br L = lineL st br L := if_pos hg
    rw [if_pos hg]
    have hd : lineL st br L = (Lib.itoa st ++ 32 :: Lib.itoa br) ++ 58 :: restL 0 L := by simp [lineL, headL]
    have h58 : (58 : UInt8) ∉ Lib.itoa st ++ 32 :: Lib.itoa br := by
      intro h
      rcases List.mem_append.1 h with h | h
      · exact no58 st h
      · rcases List.mem_cons.1 h with h | h
        · exact absurd h (by decide)
        · exact no58 br h
    have hb : (bytes (lineT st br L)).data.toList = (Lib.itoa st ++ 32 :: Lib.itoa br) ++ 58 :: restL 0 L := by rw [hline, hd]; simp [bytes]
    unfold parseM
    rw [hb, cut_line 58 _ _ h58]
    simp only [if_true]
    have hh : splitL (bytes (Lib.itoa st ++ 32 :: Lib.itoa br)) sp = [bytes (Lib.itoa st), bytes (Lib.itoa br)] := by
      unfold sp
      rw [splitL_bytes, split1_at 32 _ _ (no32 st), split1_none 32 _ (no32 br)]; rfl
    rw [hh]
    unfold bodyM
    simp only
    rw [tail_parts L hne hL, atoiV_itoa st hst, atoiV_itoa br hbr, if_pos rfl, if_neg]
    rw [bytes_size, hline, hd]
    simp
  · have hline : lineT st br L = [] := if_neg hg
    rw [if_neg hg, hline]
    rfl
theorem line_empty (st br : Int) (L : List (List Int)) : ((bytes (lineT st br L)).size = 0) ↔ ¬ goodB st br maxI L = true := by
  unfold lineT
  split
  · rename_i h
    rw [bytes_size]
    simp [lineL, headL, h]
  · rename_i h
    rw [bytes_size]
    simp [h]
theorem nums_len (l : List Int) (h : ∀ x ∈ l, -9223372036854775808 ≤ x ∧ x ≤ 9223372036854775807) : (numsL l).length ≤ 21 * l.length := by
  induction l with
  | nil => simp [numsL]
  | cons n l ih =>
    have h1 := itoa_len n (h n (by simp))
    have h2 := ih fun x hx => h x (by simp [hx])
    show (32 :: (Lib.itoa n ++ numsL l)).length ≤ _
    simp only [List.length_cons, List.length_append]
    omega
def tot (L : List (List Int)) : Nat := (L.map fun l => l.length + 1).sum
theorem rest_len : ∀ (L : List (List Int)) (k : Nat), (∀ l ∈ L, ∀ x ∈ l, -9223372036854775808 ≤ x ∧ x ≤ 9223372036854775807) → (restL k L).length ≤ 21 * tot L
  | [], k, _ => by simp [restL]
  | l :: L, k, h => by
    have h1 := nums_len l (h l (by simp))
    have h2 := rest_len L (k + 1) fun x hx => h x (by simp [hx])
    show (((if 0 < k then [59] else []) ++ numsL l) ++ restL (k + 1) L).length ≤ _
    have h3 : (if 0 < k then ([59] : List UInt8) else []).length ≤ 1 := by split <;> simp
    simp only [List.length_append, tot, List.map_cons, List.sum_cons] at h2 ⊢
    omega
theorem line_len (st br : Int) (L : List (List Int)) (hst : -9223372036854775808 ≤ st ∧ st ≤ 9223372036854775807) (hbr : -9223372036854775808 ≤ br ∧ br ≤ 9223372036854775807)
    (h : ∀ l ∈ L, ∀ x ∈ l, -9223372036854775808 ≤ x ∧ x ≤ 9223372036854775807) : (lineL st br L).length ≤ 42 + 21 * tot L := by
  have h1 := itoa_len st hst
  have h2 := itoa_len br hbr
  have h3 := rest_len L 0 h
  unfold lineL headL
  simp only [List.length_append, List.length_cons, List.length_nil]
  omega
theorem tot_parts : ∀ (X : List (List UInt8)), tot ((X.map bytes).map partP) ≤ wid X
  | [] => Nat.le_refl _
  | x :: X => by
    have ih := tot_parts X
    have h1 := wid_len (split1 32 x)
    rw [split1_wid] at h1
    have h2 : (partP (bytes x)).length ≤ x.length := by
      rw [part_len]
      unfold sp
      rw [splitL_bytes, List.length_map]
      omega
    simp only [tot, wid, List.map_cons, List.sum_cons] at ih ⊢
    omega
theorem parts_range' (X : List ByteArray) : ∀ l ∈ X.map partP, ∀ x ∈ l, -9223372036854775808 ≤ x ∧ x ≤ 9223372036854775807 := by
  intro l hl x hx
  obtain ⟨y, _, rfl⟩ := List.mem_map.1 hl
  unfold partP at hx
  obtain ⟨z, _, rfl⟩ := List.mem_map.1 hx
  exact atoi_range z
/-- All pieces of a text are small, if it is. -/
theorem small_of (s : ByteArray) (hs : s.size < 4294967281) : Small s := by
  obtain ⟨l, rfl⟩ : ∃ l, s = bytes l := ⟨_, of_bytes s⟩
  have hl : (bytes l).data.toList = l := by simp [bytes]
  rw [bytes_size] at hs
  obtain ⟨h1, h2, _⟩ := cut_le 58 l
  refine ⟨by rw [bytes_size]; exact hs, ?_, ?_, ?_, ?_, ?_⟩
  · rw [hl]; omega
  · rw [hl]; omega
  · rw [hl]
    intro x hx
    unfold sp at hx
    rw [splitL_bytes] at hx
    obtain ⟨y, hy, rfl⟩ := List.mem_map.1 hx
    have := split1_mem _ _ y hy
    rw [bytes_size]; omega
  · rw [hl]
    intro x hx
    unfold semi at hx
    rw [splitL_bytes] at hx
    obtain ⟨y, hy, rfl⟩ := List.mem_map.1 hx
    have h3 := split1_mem _ _ y hy
    refine ⟨by rw [bytes_size]; omega, fun z hz => ?_⟩
    unfold sp at hz
    rw [splitL_bytes] at hz
    obtain ⟨u, hu, rfl⟩ := List.mem_map.1 hz
    have h4 := split1_mem _ _ u hu
    rw [bytes_size]; omega
  · rw [hl]
    intro st br hst hbr
    have h3 := line_len st br _ hst hbr (parts_range' (splitL (bytes (Lib.cut l [58]).2.1) semi))
    have h4 : tot ((splitL (bytes (Lib.cut l [58]).2.1) semi).map partP) ≤ wid (split1 59 (Lib.cut l [58]).2.1) := by
      unfold semi
      rw [splitL_bytes]
      exact tot_parts _
    rw [split1_wid] at h4
    omega
/-- The rows of what is read are no more than the text is long. -/
theorem parse_rows (s : ByteArray) (st br : Int) (L : List (List Int)) (h : parseM s = some (st, br, L)) : L.length ≤ s.size ∧ (∀ l ∈ L, l.length ≤ s.size) ∧ bytes (lineT st br L) = s ∧ s.size ≠ 0 := by
  obtain ⟨l, rfl⟩ : ∃ l, s = bytes l := ⟨_, of_bytes s⟩
  have hl : (bytes l).data.toList = l := by simp [bytes]
  unfold parseM at h
  rw [hl] at h
  obtain ⟨h1, h2, h5⟩ := cut_le 58 l
  split at h
  · rename_i hcf
    have h5 := h5 hcf
    unfold bodyM at h
    split at h
    · split at h
      · cases h
      · rename_i hz
        split at h
        · rename_i hline
          injection h with h
          injection h with e1 h
          injection h with e2 e3
          subst e1; subst e2; subst e3
          refine ⟨?_, ?_, hline, hz⟩
          · unfold semi
            rw [splitL_bytes, List.length_map, List.length_map, bytes_size]
            have h6 := wid_len (split1 59 (Lib.cut l [58]).2.1)
            rw [split1_wid] at h6
            omega
          · intro x hx
            unfold semi at hx
            rw [splitL_bytes] at hx
            obtain ⟨y, hy, rfl⟩ := List.mem_map.1 hx
            obtain ⟨z, hz', rfl⟩ := List.mem_map.1 hy
            have h6 := split1_mem _ _ z hz'
            rw [part_len]
            unfold sp
            rw [splitL_bytes, List.length_map, bytes_size]
            have h7 := wid_len (split1 32 z)
            rw [split1_wid] at h7
            omega
        · cases h
    · cases h
  · cases h
/-- The places of what is read are no more than the text is long; its line is no longer than may be. -/
theorem parse_tot (s : ByteArray) (st br : Int) (L : List (List Int)) (h : parseM s = some (st, br, L)) : tot L ≤ s.size ∧ bytes (lineT st br L) = s ∧ s.size ≠ 0 ∧ (s.size < 4294967281 → (lineL st br L).length ≤ 140737488355328) := by
  obtain ⟨h1, h2, hline, hz⟩ := parse_rows s st br L h
  refine ⟨?_, hline, hz, fun hs => ?_⟩
  · obtain ⟨l, rfl⟩ : ∃ l, s = bytes l := ⟨_, of_bytes s⟩
    have hl : (bytes l).data.toList = l := by simp [bytes]
    unfold parseM at h
    rw [hl] at h
    obtain ⟨h1, h2, h5⟩ := cut_le 58 l
    split at h
    · rename_i hcf
      have h5 := h5 hcf
      unfold bodyM at h
      split at h
      · split at h
        · cases h
        · split at h
          · injection h with h
            injection h with e1 h
            injection h with e2 e3
            subst e3
            unfold semi
            rw [splitL_bytes, bytes_size]
            have h6 := tot_parts (split1 59 (Lib.cut l [58]).2.1)
            rw [split1_wid] at h6
            omega
          · cases h
      · cases h
    · cases h
  · by_cases hg : goodB st br maxI L = true
    · have e : lineT st br L = lineL st br L := if_pos hg
      rw [e] at hline
      have := congrArg ByteArray.size hline
      rw [bytes_size] at this
      omega
    · have e : lineT st br L = [] := if_neg hg
      rw [e] at hline
      exact absurd (by rw [← hline]; rfl) hz
end Go.Proofs.YtpiffgdebdhpnaaDoor
