/- Texts cut at a byte; numbers written and read. Plain. -/
import Derived.Test.YtpakcicbojbonaaGreatDoorDec
import Derived.Lib.SplitLaws
import Derived.Lib.AtoiAllCases
namespace Go.Proofs.YtpakcicbojbonaaGreatDoor
open Go.RowKit
set_option maxRecDepth 10000
set_option linter.unusedVariables false
set_option linter.unusedSimpArgs false

def splitL (s sep : ByteArray) : List ByteArray := Lib.splitB sep 0 (Lib.countB s sep) s
theorem spl_len (s sep : ByteArray) (h1 : 1 ≤ sep.size) : (splitL s sep).length = Lib.countB s sep + 1 := Lib.splitB_all sep h1 0 _ s rfl
theorem spl_le (s sep : ByteArray) (h1 : 1 ≤ sep.size) : (splitL s sep).length ≤ s.size + 1 := by
  rw [spl_len s sep h1]
  have := Lib.countB_le sep h1 s.size s (Nat.le_refl _)
  omega
/-! Cutting a text at a byte. -/
def split1 (c : UInt8) : List UInt8 → List (List UInt8)
  | [] => [[]]
  | b :: l => if b = c then [] :: split1 c l else match split1 c l with | x :: r => (b :: x) :: r | [] => [[b]]
theorem split1_ne (c : UInt8) : ∀ l, split1 c l ≠ []
  | [] => by simp [split1]
  | b :: l => by
    unfold split1
    split
    · simp
    · cases split1 c l <;> simp
theorem idx_cons (b c : UInt8) (l : List UInt8) : Lib.index (b :: l) [c] = if b = c then 0 else if Lib.index l [c] == -1 then -1 else Lib.index l [c] + 1 := by
  by_cases h : b = c
  · subst h
    rw [if_pos rfl, Lib.index]
    simp [List.isPrefixOf]
  · rw [if_neg h]
    have hp : ([c] : List UInt8).isPrefixOf (b :: l) = false := by simp [List.isPrefixOf, Ne.symm h]
    rw [Lib.index, hp]
    simp
theorem splitK_one (c : UInt8) : ∀ l : List UInt8, Lib.splitK [c] 0 (l.count c) l = split1 c l
  | [] => rfl
  | b :: l => by
    have ih := splitK_one c l
    have hix := idx_cons b c l
    by_cases h : b = c
    · subst h
      rw [if_pos rfl] at hix
      have e : (b :: l).count b = l.count b + 1 := by simp
      rw [e]
      show (if Lib.index (b :: l) [b] == -1 then _ else _) = _
      rw [hix]
      unfold split1
      rw [if_pos rfl, ← ih]
      rfl
    · rw [if_neg h] at hix
      have e : (b :: l).count c = l.count c := by rw [List.count_cons_of_ne (by simpa using h)]
      rw [e]
      unfold split1
      rw [if_neg h, ← ih]
      cases hk : l.count c with
      | zero => rfl
      | succ k =>
        show (if Lib.index (b :: l) [c] == -1 then [b :: l] else (b :: l).take ((Lib.index (b :: l) [c]).toNat + 0) :: Lib.splitK [c] 0 k ((b :: l).drop ((Lib.index (b :: l) [c]).toNat + 1))) = match (if Lib.index l [c] == -1 then [l] else l.take ((Lib.index l [c]).toNat + 0) :: Lib.splitK [c] 0 k (l.drop ((Lib.index l [c]).toNat + 1))) with | x :: r => (b :: x) :: r | [] => [[b]]
        rw [hix]
        by_cases hm : Lib.index l [c] = -1
        · rw [hm]; rfl
        · have hge := Lib.index_ge l [c]
          have hf : (Lib.index l [c] == -1) = false := by rw [beq_eq_false_iff_ne]; exact hm
          rw [hf]
          simp only [Bool.false_eq_true, if_false]
          obtain ⟨j, hj⟩ : ∃ j : Nat, Lib.index l [c] = j := ⟨(Lib.index l [c]).toNat, by omega⟩
          rw [hj]
          have h1 : (((j : Int) + 1) == -1) = false := by rw [beq_eq_false_iff_ne]; omega
          rw [h1]
          simp only [Bool.false_eq_true, if_false]
          have h2 : ((j : Int) + 1).toNat = j + 1 := by omega
          rw [h2, Int.toNat_natCast]
          simp
theorem splitL_bytes (c : UInt8) (l : List UInt8) : splitL (bytes l) ⟨#[c]⟩ = (split1 c l).map bytes := by
  have h1 := Lib.splitB_data ⟨#[c]⟩ 0 (Lib.countB (bytes l) ⟨#[c]⟩) (bytes l)
  have h2 : Lib.countB (bytes l) ⟨#[c]⟩ = l.count c := by
    show Lib.count (bytes l).data.toList [c] = _
    rw [Lib.count_one]; simp [bytes]
  have h3 : (splitL (bytes l) ⟨#[c]⟩).map (·.data.toList) = split1 c l := by
    unfold splitL
    rw [h1, h2]
    show Lib.splitK [c] 0 (l.count c) (bytes l).data.toList = _
    have : (bytes l).data.toList = l := by simp [bytes]
    rw [this, splitK_one]
  rw [← h3, List.map_map]
  have : (bytes ∘ fun x : ByteArray => x.data.toList) = id := by funext x; simp [bytes]
  rw [this, List.map_id]
theorem of_bytes (s : ByteArray) : s = bytes s.data.toList := by simp [bytes]
theorem split1_none (c : UInt8) : ∀ a : List UInt8, c ∉ a → split1 c a = [a]
  | [], _ => rfl
  | b :: a, h => by
    have hb : ¬ b = c := fun e => h (by simp [e])
    unfold split1
    rw [if_neg hb, split1_none c a (fun e => h (by simp [e]))]
theorem split1_at (c : UInt8) (t : List UInt8) : ∀ a : List UInt8, c ∉ a → split1 c (a ++ c :: t) = a :: split1 c t
  | [], _ => by simp [split1]
  | b :: a, h => by
    have hb : ¬ b = c := fun e => h (by simp [e])
    show (if b = c then [] :: split1 c (a ++ c :: t) else match split1 c (a ++ c :: t) with | x :: r => (b :: x) :: r | [] => [[b]]) = _
    rw [if_neg hb, split1_at c t a (fun e => h (by simp [e]))]
def wid (L : List (List UInt8)) : Nat := (L.map fun x => x.length + 1).sum
theorem split1_wid (c : UInt8) : ∀ l, wid (split1 c l) = l.length + 1
  | [] => rfl
  | b :: l => by
    have ih := split1_wid c l
    unfold split1
    split
    · simp [wid] at ih ⊢; omega
    · cases h : split1 c l with
      | nil => exact absurd h (split1_ne c l)
      | cons x r => rw [h] at ih; simp [wid] at ih ⊢; omega
theorem wid_len : ∀ L : List (List UInt8), L.length ≤ wid L
  | [] => Nat.le_refl _
  | x :: L => by have := wid_len L; simp [wid] at this ⊢; omega
theorem wid_mem : ∀ (L : List (List UInt8)), ∀ x ∈ L, x.length + 1 ≤ wid L
  | x :: L, y, h => by
    simp only [wid, List.map_cons, List.sum_cons]
    rcases List.mem_cons.1 h with rfl | h
    · omega
    · have := wid_mem L y h; simp only [wid] at this; omega
theorem split1_mem (c : UInt8) (l : List UInt8) : ∀ x ∈ split1 c l, x.length ≤ l.length := by
  intro x hx
  have h1 := wid_mem _ x hx
  rw [split1_wid] at h1; omega
theorem dec_len : ∀ (k n : Nat), n < 10 ^ (k + 1) → (Lib.decDigits n).length ≤ k + 1
  | 0, n, h => by rw [dec_small n (by omega)]; simp
  | k + 1, n, h => by
    by_cases h1 : n < 10
    · rw [dec_small n h1]; simp
    · rw [dec_more n h1, List.length_append]
      have := dec_len k (n / 10) (by rw [Nat.pow_succ] at h; omega)
      simp; omega
theorem itoa_len (n : Int) (h : -9223372036854775808 ≤ n ∧ n ≤ 9223372036854775807) : (Lib.itoa n).length ≤ 20 := by
  have h1 := dec_len 18 n.natAbs (by omega)
  have h2 := dec_len 18 n.toNat (by omega)
  unfold Lib.itoa
  split
  · simp; omega
  · omega
/-! Numbers. -/
def isD (c : UInt8) : Prop := 48 ≤ c.toNat ∧ c.toNat ≤ 57
theorem dgt_nat (k : Nat) (h : k < 10) : (dgt k).toNat = 48 + k := by
  match k, h with
  | 0, _ | 1, _ | 2, _ | 3, _ | 4, _ | 5, _ | 6, _ | 7, _ | 8, _ | 9, _ => rfl
theorem dec_d (n : Nat) : ∀ c ∈ Lib.decDigits n, isD c := by
  induction n using Nat.strongRecOn with
  | ind n ih =>
    by_cases h : n < 10
    · rw [dec_small n h]
      intro c hc
      simp at hc; subst hc
      have := dgt_nat n h
      exact ⟨by omega, by omega⟩
    · rw [dec_more n h]
      intro c hc
      rcases List.mem_append.1 hc with hc | hc
      · exact ih (n / 10) (by omega) c hc
      · simp at hc; subst hc
        have := dgt_nat (n % 10) (by omega)
        exact ⟨by omega, by omega⟩
theorem dec_ne (n : Nat) : Lib.decDigits n ≠ [] := by
  by_cases h : n < 10
  · rw [dec_small n h]; simp
  · rw [dec_more n h]; simp
theorem pu_snoc (d : UInt8) (hd : isD d) : ∀ (l : List UInt8) (acc a : Nat), Lib.parseUint10 acc l = .ok a → a * 10 + (d.toNat - 48) < 18446744073709551616 → Lib.parseUint10 acc (l ++ [d]) = .ok (a * 10 + (d.toNat - 48))
  | [], acc, a, h, hb => by
    simp only [Lib.parseUint10] at h
    injection h with h
    subst h
    rw [List.nil_append]
    unfold Lib.parseUint10
    rw [if_pos (show 48 ≤ d.toNat ∧ d.toNat ≤ 57 from hd), if_neg (by omega), if_neg (by omega)]
    rfl
  | c :: l, acc, a, h, hb => by
    show Lib.parseUint10 acc (c :: (l ++ [d])) = _
    unfold Lib.parseUint10 at h ⊢
    split at h
    · rename_i h1
      rw [if_pos h1]
      split at h
      · cases h
      · rename_i h2
        rw [if_neg h2]
        split at h
        · cases h
        · rename_i h3
          rw [if_neg h3]
          exact pu_snoc d hd l _ a h hb
    · cases h
theorem pu_dec (n : Nat) : n < 18446744073709551616 → Lib.parseUint10 0 (Lib.decDigits n) = .ok n := by
  induction n using Nat.strongRecOn with
  | ind n ih =>
    intro hn
    by_cases h : n < 10
    · rw [dec_small n h]
      have h1 := dgt_nat n h
      have h2 := pu_snoc (dgt n) ⟨by omega, by omega⟩ [] 0 0 rfl (by omega)
      rw [List.nil_append] at h2
      rw [h2, h1]
      congr 1; omega
    · rw [dec_more n h]
      have h1 := dgt_nat (n % 10) (by omega)
      rw [pu_snoc (dgt (n % 10)) ⟨by omega, by omega⟩ _ 0 (n / 10) (ih (n / 10) (by omega) (by omega)) (by omega), h1]
      congr 1; omega
theorem atoi_itoa (n : Int) (h : -9223372036854775808 ≤ n ∧ n ≤ 9223372036854775807) : Lib.atoiAll (Lib.itoa n) = .ok n := by
  unfold Lib.itoa
  split
  · rename_i h0
    rw [Lib.atoiAll_minus]
    unfold Lib.parseMag
    rw [if_neg (dec_ne _), pu_dec _ (by omega)]
    show (if 9223372036854775808 < n.natAbs then Lib.NumEnd.range else .ok (-(n.natAbs : Int))) = _
    rw [if_neg (by omega)]
    congr 1; omega
  · rename_i h0
    have hne := dec_ne n.toNat
    have hd := dec_d n.toNat
    have hp : Lib.parseMag (Lib.decDigits n.toNat) = .ok n.toNat := by
      unfold Lib.parseMag
      rw [if_neg hne, pu_dec _ (by omega)]
    cases hq : Lib.decDigits n.toNat with
    | nil => exact absurd hq hne
    | cons c r =>
      rw [hq] at hd hp
      have hc := hd c (by simp)
      unfold isD at hc
      rw [Lib.atoiAll_plain c r (by omega) (by omega), hp]
      show (if 9223372036854775808 ≤ n.toNat then Lib.NumEnd.range else .ok (n.toNat : Int)) = _
      rw [if_neg (by omega)]
      congr 1; omega
theorem itoa_no (n : Int) (c : UInt8) (h1 : c.toNat ≠ 45) (h2 : ¬ isD c) : c ∉ Lib.itoa n := by
  unfold Lib.itoa
  split
  · intro h
    rcases List.mem_cons.1 h with rfl | h
    · exact h1 rfl
    · exact h2 (dec_d _ c h)
  · exact fun h => h2 (dec_d _ c h)
theorem no32 (n : Int) : (32 : UInt8) ∉ Lib.itoa n := itoa_no n 32 (by decide) (by unfold isD; decide)
theorem no58 (n : Int) : (58 : UInt8) ∉ Lib.itoa n := itoa_no n 58 (by decide) (by unfold isD; decide)
theorem no59 (n : Int) : (59 : UInt8) ∉ Lib.itoa n := itoa_no n 59 (by decide) (by unfold isD; decide)

/-! Texts joined. -/
def join1 (c : UInt8) : List (List UInt8) → List UInt8
  | [] => []
  | [x] => x
  | x :: l => x ++ c :: join1 c l
theorem join1_cons (c : UInt8) (x : List UInt8) (l : List (List UInt8)) (h : l ≠ []) : join1 c (x :: l) = x ++ c :: join1 c l := by
  cases l with
  | nil => exact absurd rfl h
  | cons _ _ => rfl
theorem join_split (c : UInt8) : ∀ l, join1 c (split1 c l) = l
  | [] => rfl
  | b :: l => by
    have ih := join_split c l
    have hne := split1_ne c l
    unfold split1
    split
    · rename_i h
      rw [join1_cons c _ _ hne, ih, h]; rfl
    · cases hs : split1 c l with
      | nil => exact absurd hs hne
      | cons x r =>
        rw [hs] at ih
        show join1 c ((b :: x) :: r) = _
        cases r with
        | nil => show b :: x = b :: l; rw [← ih]; rfl
        | cons y r => show b :: (x ++ c :: join1 c (y :: r)) = b :: l; rw [← ih]; rfl
theorem join_flat (c : UInt8) (x : List UInt8) : ∀ l : List (List UInt8), join1 c (x :: l) = x ++ l.flatMap fun y => c :: y
  | [] => by simp [join1]
  | y :: l => by
    have ih := join_flat c y l
    rw [join1_cons c _ _ (by simp), ih]
    simp
theorem split_flat (c : UInt8) : ∀ (l : List (List UInt8)) (x : List UInt8), c ∉ x → (∀ y ∈ l, c ∉ y) → split1 c (x ++ l.flatMap fun y => c :: y) = x :: l
  | [], x, h, _ => by simpa using split1_none c x h
  | y :: l, x, h, hl => by
    show split1 c (x ++ c :: (y ++ l.flatMap fun y => c :: y)) = _
    rw [split1_at c _ x h, split_flat c l y (hl y (by simp)) fun z hz => hl z (by simp [hz])]
theorem split1_no (c : UInt8) (l : List UInt8) : ∀ x ∈ split1 c l, c ∉ x := by
  induction l with
  | nil => intro x hx; simp [split1] at hx; subst hx; simp
  | cons b l ih =>
    unfold split1
    split
    · intro x hx
      rcases List.mem_cons.1 hx with rfl | hx
      · simp
      · exact ih x hx
    · rename_i hb
      cases hs : split1 c l with
      | nil => intro x hx; simp at hx; subst hx; simp; exact fun e => hb e.symm
      | cons y r =>
        rw [hs] at ih
        intro x hx
        rcases List.mem_cons.1 hx with rfl | hx
        · intro h
          rcases List.mem_cons.1 h with e | h
          · exact hb e.symm
          · exact ih y (by simp) h
        · exact ih x (by simp [hx])
/-- A number, if it is written in the one way. -/
def numP (s : List UInt8) : Option Int := match Lib.atoiAll s with | .ok n => if Lib.itoa n = s then some n else none | .«syntax» => none | .range => none
theorem num_itoa (n : Int) (h : -9223372036854775808 ≤ n ∧ n ≤ 9223372036854775807) : numP (Lib.itoa n) = some n := by
  unfold numP
  rw [atoi_itoa n h]
  exact if_pos rfl
theorem num_text {s : List UInt8} {n : Int} (h : numP s = some n) : Lib.itoa n = s ∧ -9223372036854775808 ≤ n ∧ n ≤ 9223372036854775807 := by
  unfold numP at h
  cases hq : Lib.atoiAll s with
  | ok v =>
    rw [hq] at h
    simp only at h
    split at h
    · rename_i h1
      injection h with h
      subst h
      exact ⟨h1, Lib.atoiAll_bounds hq⟩
    · cases h
  | «syntax» => rw [hq] at h; cases h
  | range => rw [hq] at h; cases h
/-! Numbers read loosely, as the document's reader does. -/
def drop45 (s : List UInt8) : List UInt8 := match s with | 45 :: d => d | s => s
def dAcc (n : Nat) : List UInt8 → Option Nat
  | [] => some n
  | c :: l => if 48 ≤ c.toNat ∧ c.toNat ≤ 57 then dAcc (10 * n + (c.toNat - 48)) l else none
def digsD (s : List UInt8) : Option Nat := if s.length ≤ 19 then dAcc 0 s else none
def numD (s : List UInt8) : Int := match digsD (drop45 s) with | none => 0 | some n => if (drop45 s).length < s.length then wrap64 (-(wrap64 n)) else wrap64 n
theorem dAcc_snoc (d : UInt8) (hd : isD d) : ∀ (l : List UInt8) (n a : Nat), dAcc n l = some a → dAcc n (l ++ [d]) = some (10 * a + (d.toNat - 48))
  | [], n, a, h => by
    injection h with h; subst h
    show (if 48 ≤ d.toNat ∧ d.toNat ≤ 57 then _ else _) = _
    rw [if_pos (show 48 ≤ d.toNat ∧ d.toNat ≤ 57 from hd)]; rfl
  | c :: l, n, a, h => by
    show (if 48 ≤ c.toNat ∧ c.toNat ≤ 57 then dAcc (10 * n + (c.toNat - 48)) (l ++ [d]) else none) = _
    have h' : (if 48 ≤ c.toNat ∧ c.toNat ≤ 57 then dAcc (10 * n + (c.toNat - 48)) l else none) = some a := h
    split at h'
    · rename_i h1
      rw [if_pos h1]
      exact dAcc_snoc d hd l _ a h'
    · cases h'
theorem dAcc_dec (n : Nat) : dAcc 0 (Lib.decDigits n) = some n := by
  induction n using Nat.strongRecOn with
  | ind n ih =>
    by_cases h : n < 10
    · rw [dec_small n h]
      have h1 := dgt_nat n h
      have h2 := dAcc_snoc (dgt n) ⟨by omega, by omega⟩ [] 0 0 rfl
      rw [List.nil_append] at h2
      rw [h2, h1]; congr 1; omega
    · rw [dec_more n h]
      have h1 := dgt_nat (n % 10) (by omega)
      rw [dAcc_snoc (dgt (n % 10)) ⟨by omega, by omega⟩ _ 0 (n / 10) (ih (n / 10) (by omega)), h1]
      congr 1; omega
theorem drop45_dec (n : Nat) : drop45 (Lib.decDigits n) = Lib.decDigits n := by
  have hd := dec_d n
  cases h : Lib.decDigits n with
  | nil => rfl
  | cons c l =>
    rw [h] at hd
    have hc := hd c (by simp)
    unfold drop45
    split
    · rename_i d e
      injection e with e1 e2
      subst e1
      exact absurd hc (by unfold isD; decide)
    · rfl
theorem numD_itoa (n : Int) (h : -9223372036854775808 ≤ n ∧ n ≤ 9223372036854775807) : numD (Lib.itoa n) = n := by
  have h1 := dec_len 18 n.natAbs (by omega)
  have h2 := dec_len 18 n.toNat (by omega)
  unfold Lib.itoa
  split
  · have e : drop45 (45 :: Lib.decDigits n.natAbs) = Lib.decDigits n.natAbs := rfl
    unfold numD digsD
    rw [e, if_pos (by omega), dAcc_dec]
    simp only [List.length_cons]
    rw [if_pos (by omega)]
    unfold wrap64; omega
  · unfold numD digsD
    rw [drop45_dec, if_pos (by omega), dAcc_dec]
    simp only
    rw [if_neg (by omega)]
    unfold wrap64; omega
end Go.Proofs.YtpakcicbojbonaaGreatDoor
