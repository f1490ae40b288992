/- Layer 4: what a line of an event is when it is read again. Plain. -/
import Derived.Test.YtpakcicbojbonaaGreatDoorEvtH
import Derived.Test.YtpakcicbojbonaaGreatDoorSpl
namespace Go.Proofs.YtpakcicbojbonaaGreatDoor
open Go.RowKit
set_option maxRecDepth 10000
set_option linter.unusedVariables false
set_option linter.unusedSimpArgs false

/-! Bits in hexadecimal. -/
def hexD (d : Nat) : UInt8 := UInt8.ofNat (if d < 10 then 48 + d else 87 + d)
def hexN (a : Nat) : Nat → List UInt8
  | 0 => []
  | k + 1 => hexD (a / 16 ^ k % 16) :: hexN a k
theorem hexN_len (a : Nat) : ∀ k, (hexN a k).length = k
  | 0 => rfl
  | k + 1 => by simp [hexN, hexN_len a k]
def realL (a : Nat) : List UInt8 := 35 :: hexN (canonN a) 16
def hexV (c : UInt8) : Option Nat := if 48 ≤ c.toNat ∧ c.toNat ≤ 57 then some (c.toNat - 48) else if 97 ≤ c.toNat ∧ c.toNat ≤ 102 then some (c.toNat - 87) else none
theorem hexV_D : ∀ d : Nat, d < 16 → hexV (hexD d) = some d := by decide
theorem hexD_V {c : UInt8} {d : Nat} (h : hexV c = some d) : d < 16 ∧ hexD d = c := by
  unfold hexV at h
  split at h
  · injection h with h
    subst h
    refine ⟨by omega, ?_⟩
    unfold hexD
    rw [if_pos (by omega)]
    apply UInt8.toNat_inj.1
    rw [UInt8.toNat_ofNat']; omega
  · split at h
    · injection h with h
      subst h
      refine ⟨by omega, ?_⟩
      unfold hexD
      rw [if_neg (by omega)]
      apply UInt8.toNat_inj.1
      rw [UInt8.toNat_ofNat']; omega
    · cases h
theorem hexD_no : ∀ d : Nat, d < 16 → hexD d ≠ 32 := by decide
theorem hexN_no (a : Nat) : ∀ k, (32 : UInt8) ∉ hexN a k
  | 0 => by simp [hexN]
  | k + 1 => by
    intro h
    rcases List.mem_cons.1 h with e | h
    · exact hexD_no _ (Nat.mod_lt _ (by omega)) e.symm
    · exact hexN_no a k h
def hexFrom (a : Nat) : List UInt8 → Option Nat
  | [] => some a
  | c :: r => match hexV c with | some d => hexFrom (a * 16 + d) r | none => none
theorem pow16 (k : Nat) : 0 < 16 ^ k := Nat.pow_pos (by omega)
theorem hexFrom_N (a : Nat) : ∀ (k acc : Nat), hexFrom acc (hexN a k) = some (acc * 16 ^ k + a % 16 ^ k)
  | 0, acc => by simp [hexN, hexFrom, Nat.mod_one]
  | k + 1, acc => by
    show (match hexV (hexD (a / 16 ^ k % 16)) with | some d => hexFrom (acc * 16 + d) (hexN a k) | none => none) = _
    rw [hexV_D _ (Nat.mod_lt _ (by omega))]
    show hexFrom (acc * 16 + a / 16 ^ k % 16) (hexN a k) = _
    rw [hexFrom_N a k, Nat.pow_succ, Nat.mod_mul, Nat.add_mul, Nat.mul_assoc, Nat.mul_comm 16 (16 ^ k), Nat.mul_comm (16 ^ k) (a / 16 ^ k % 16)]
    congr 1; omega
theorem hexN_from : ∀ (r : List UInt8) (acc a : Nat), hexFrom acc r = some a → hexN a r.length = r ∧ a / 16 ^ r.length = acc
  | [], acc, a, h => by
    injection h with h; subst h
    exact ⟨rfl, by simp⟩
  | c :: r, acc, a, h => by
    have h' : (match hexV c with | some d => hexFrom (acc * 16 + d) r | none => none) = some a := h
    cases hv : hexV c with
    | none => rw [hv] at h'; cases h'
    | some d =>
      rw [hv] at h'
      obtain ⟨h1, h2⟩ := hexN_from r _ a h'
      obtain ⟨h3, h4⟩ := hexD_V hv
      refine ⟨?_, ?_⟩
      · show hexD (a / 16 ^ r.length % 16) :: hexN a r.length = _
        rw [h1, h2, show (acc * 16 + d) % 16 = d by omega, h4]
      · rw [List.length_cons, Nat.pow_succ, ← Nat.div_div_eq_div_mul, h2]; omega
def hexR (s : List UInt8) : Option Nat := match s with
  | c :: r => if c = 35 ∧ r.length = 16 then (match hexFrom 0 r with | some a => if canonN a = a then some a else none | none => none) else none
  | [] => none
theorem hex_text {s : List UInt8} {a : Nat} (h : hexR s = some a) : realL a = s ∧ canonN a = a ∧ a < 18446744073709551616 := by
  unfold hexR at h
  split at h
  · rename_i c r
    split at h
    · rename_i h1
      cases hf : hexFrom 0 r with
      | none => rw [hf] at h; cases h
      | some x =>
        rw [hf] at h
        simp only at h
        split at h
        · rename_i h2
          injection h with h; subst h
          obtain ⟨h3, h4⟩ := hexN_from r 0 x hf
          rw [h1.2] at h3 h4
          refine ⟨by unfold realL; rw [h2, h3, h1.1], h2, ?_⟩
          have : x < 16 ^ 16 := by
            rcases Nat.lt_or_ge x (16 ^ 16) with h | h
            · exact h
            · have := Nat.div_pos h (pow16 16); omega
          exact this
        · cases h
    · cases h
  · cases h
theorem text_hex (a : Nat) (h : canonN a = a) (hl : a < 18446744073709551616) : hexR (realL a) = some a := by
  unfold hexR realL
  rw [h]
  simp only [hexN_len, and_self, if_true]
  rw [hexFrom_N a 16 0, Nat.mod_eq_of_lt (show a < 16 ^ 16 from hl)]
  simp [h]

/-! Texts of values, and values of texts. -/
def tTrue : List UInt8 := [116, 114, 117, 101]
def tFalse : List UInt8 := [102, 97, 108, 115, 101]
def textV (Y : List ByteArray) (v : V) : List UInt8 := if v.k = 4 then realL v.b else textL Y v
def symP (Y : List ByteArray) (w : List UInt8) : Int := match w with | 39 :: nm => atFrom nm 0 (Y.map (·.toList)) | _ => -1
def u64 (n : Int) : Nat := (n % 18446744073709551616).toNat
def valP (Y : List ByteArray) (k : Int) (w : List UInt8) : Option V :=
  if k = 1 then (numP w).map (fun n => ⟨1, u64 n⟩)
  else if k = 2 then (if w = tTrue then some ⟨2, 1⟩ else if w = tFalse then some ⟨2, 0⟩ else none)
  else if k = 3 then (if 0 ≤ symP Y w then some ⟨3, (symP Y w).toNat⟩ else none)
  else (hexR w).map (fun a => ⟨k, a⟩)
theorem valP1 (Y : List ByteArray) (w : List UInt8) : valP Y 1 w = (numP w).map (fun n => ⟨1, u64 n⟩) := by unfold valP; rw [if_pos rfl]
theorem valP2 (Y : List ByteArray) (w : List UInt8) : valP Y 2 w = if w = tTrue then some ⟨2, 1⟩ else if w = tFalse then some ⟨2, 0⟩ else none := by unfold valP; rw [if_neg (by decide), if_pos rfl]
theorem valP3 (Y : List ByteArray) (w : List UInt8) : valP Y 3 w = if 0 ≤ symP Y w then some ⟨3, (symP Y w).toNat⟩ else none := by unfold valP; rw [if_neg (by decide), if_neg (by decide), if_pos rfl]
theorem valP4 (Y : List ByteArray) (w : List UInt8) : valP Y 4 w = (hexR w).map (fun a => ⟨4, a⟩) := by unfold valP; rw [if_neg (by decide), if_neg (by decide), if_neg (by decide)]
theorem textV1 (Y : List ByteArray) (b : Nat) : textV Y ⟨1, b⟩ = Lib.itoa (wrap64 b) := by simp [textV, textL]
theorem textV2 (Y : List ByteArray) (b : Nat) : textV Y ⟨2, b⟩ = if b = 1 then tTrue else tFalse := by simp [textV, textL, tTrue, tFalse]
theorem textV3 (Y : List ByteArray) (b : Nat) : textV Y ⟨3, b⟩ = 39 :: (Y.getD b ⟨#[]⟩).toList := by simp [textV, textL]
theorem textV4 (Y : List ByteArray) (b : Nat) : textV Y ⟨4, b⟩ = realL b := by simp [textV]
theorem clean2 (b : Nat) (h : ¬ b < 2) : clean ⟨2, b⟩ = none0 := by simp [clean]; omega
theorem clean4 (b : Nat) : clean ⟨4, b⟩ = ⟨4, canonN b⟩ := by simp [clean]
theorem at_ge (s : List UInt8) : ∀ (l : List (List UInt8)) (k : Nat), -1 ≤ atFrom s k l ∧ atFrom s k l < (k + l.length : Nat) ∧ (0 ≤ atFrom s k l → (k : Int) ≤ atFrom s k l ∧ l[(atFrom s k l).toNat - k]? = some s)
  | [], k => by
    show -1 ≤ (-1 : Int) ∧ (-1 : Int) < (k + 0 : Nat) ∧ (0 ≤ (-1 : Int) → _)
    exact ⟨by omega, by omega, fun h => absurd h (by omega)⟩
  | x :: l, k => by
    unfold atFrom
    split
    · rename_i h
      have e : x = s := by simpa using h
      subst e
      refine ⟨by omega, by simp; omega, fun _ => ⟨by omega, by simp⟩⟩
    · obtain ⟨h1, h2, h3⟩ := at_ge s l (k + 1)
      refine ⟨h1, by simp only [List.length_cons]; omega, fun h => ?_⟩
      obtain ⟨h4, h5⟩ := h3 h
      refine ⟨by omega, ?_⟩
      have e : (atFrom s (k + 1) l).toNat - k = ((atFrom s (k + 1) l).toNat - (k + 1)) + 1 := by omega
      rw [e]; simpa using h5
theorem sym_text {Y : List ByteArray} {w : List UInt8} (h : 0 ≤ symP Y w) : (symP Y w).toNat < Y.length ∧ 39 :: (Y.getD (symP Y w).toNat ⟨#[]⟩).toList = w := by
  unfold symP at h ⊢
  split at h
  · rename_i nm
    obtain ⟨h1, h2, h3⟩ := at_ge nm (Y.map (·.toList)) 0
    obtain ⟨_, h5⟩ := h3 h
    have hl : (atFrom nm 0 (Y.map (·.toList))).toNat < Y.length := by simp at h2; omega
    refine ⟨hl, ?_⟩
    rw [Nat.sub_zero, List.getElem?_map, List.getElem?_eq_getElem hl] at h5
    rw [List.getD_eq_getElem?_getD, List.getElem?_eq_getElem hl]
    simp at h5 ⊢
    exact h5
  · omega
theorem val_text {Y : List ByteArray} {k : Int} {w : List UInt8} {v : V} (hk : 1 ≤ k ∧ k ≤ 4) (hY : Y.length ≤ 64) (h : valP Y k w = some v) : textV Y v = w ∧ v.k = k ∧ v.fits := by
  have hc : k = 1 ∨ k = 2 ∨ k = 3 ∨ k = 4 := by omega
  rcases hc with rfl | rfl | rfl | rfl
  · rw [valP1] at h
    cases hn : numP w with
    | none => rw [hn] at h; cases h
    | some n =>
      rw [hn] at h
      injection h with h; subst h
      obtain ⟨h2, h3⟩ := num_text hn
      refine ⟨?_, rfl, by show u64 n < _; unfold u64; omega⟩
      rw [textV1, ← h2]; congr 1
      unfold wrap64 u64; omega
  · rw [valP2] at h
    split at h
    · rename_i h2
      injection h with h; subst h
      exact ⟨by rw [textV2, if_pos rfl]; exact h2.symm, rfl, by show (1 : Nat) < _; omega⟩
    · split at h
      · rename_i h2
        injection h with h; subst h
        exact ⟨by rw [textV2, if_neg (by decide)]; exact h2.symm, rfl, by show (0 : Nat) < _; omega⟩
      · cases h
  · rw [valP3] at h
    split at h
    · rename_i h2
      injection h with h; subst h
      obtain ⟨h3, h4⟩ := sym_text h2
      exact ⟨by rw [textV3]; exact h4, rfl, by show (symP Y w).toNat < _; omega⟩
    · cases h
  · rw [valP4] at h
    cases hx : hexR w with
    | none => rw [hx] at h; cases h
    | some a =>
      rw [hx] at h
      injection h with h; subst h
      obtain ⟨h4, h5, h6⟩ := hex_text hx
      exact ⟨by rw [textV4]; exact h4, rfl, h6⟩
theorem bad_not : ∀ {l pre : List (List UInt8)}, badFrom pre l = false → (∀ x ∈ l, nameB x = true ∧ x ∉ pre) ∧ l.Nodup
  | [], _, _ => ⟨by simp, List.nodup_nil⟩
  | x :: r, pre, h => by
    unfold badFrom at h
    by_cases hn : nameB x = true
    · rw [if_pos hn] at h
      by_cases hc : pre.contains x = true
      · rw [if_pos hc] at h; cases h
      · rw [if_neg hc] at h
        obtain ⟨h1, h2⟩ := bad_not h
        have hx : x ∉ pre := by simpa using hc
        refine ⟨fun y hy => ?_, List.nodup_cons.2 ⟨fun hm => (h1 x hm).2 (by simp), h2⟩⟩
        rcases List.mem_cons.1 hy with rfl | hy
        · exact ⟨hn, hx⟩
        · exact ⟨(h1 y hy).1, fun hm => (h1 y hy).2 (by simp [hm])⟩
    · rw [if_neg hn] at h; cases h
theorem at_nodup : ∀ {l : List (List UInt8)} (k i : Nat) (hi : i < l.length), l.Nodup → atFrom l[i] k l = (k + i : Nat)
  | x :: r, k, 0, _, _ => by simp [atFrom]
  | x :: r, k, i + 1, hi, h => by
    obtain ⟨h1, h2⟩ := List.nodup_cons.1 h
    have hi' : i < r.length := by simpa using hi
    have hne : (x == r[i]) = false := by rw [beq_eq_false_iff_ne]; intro e; exact h1 (by rw [e]; exact List.getElem_mem _)
    show (if (x == r[i]) = true then (k : Int) else atFrom r[i] (k + 1) r) = _
    rw [hne, if_neg (by simp), at_nodup (k + 1) i hi' h2]
    omega
theorem right_all {T : List TSig} {Y : List ByteArray} (h : checkSig T Y = 0) : badB (T.map (·.1.toList)) = false ∧ badB (Y.map (·.toList)) = false ∧ (∀ t ∈ T, badB (fieldsOf t) = false) ∧ ∀ t ∈ T, ∀ f ∈ t.2, 1 ≤ f.kind ∧ f.kind ≤ 4 := by
  unfold checkSig at h
  split at h
  · cases h
  · split at h
    · cases h
    · rename_i h1 h2
      simp only [Bool.or_eq_true, not_or, Bool.not_eq_true] at h2
      have h3 : T.any kindT = false := by
        unfold eZ at h
        split at h
        · cases h
        · rename_i h3; simpa using h3
      refine ⟨h2.1.2, h2.2, fun t ht => ?_, fun t ht f hf => ?_⟩
      · have := h2.1.1
        rw [List.any_eq_false] at this
        simpa [nameT] using this t ht
      · rw [List.any_eq_false] at h3
        have := h3 t ht
        simp only [kindT, Bool.not_eq_true, List.any_eq_false] at this
        have := this f hf
        simp [kindBadB] at this
        omega


theorem u64_wrap (b : Nat) (h : b < 18446744073709551616) : u64 (wrap64 b) = b := by unfold u64 wrap64; omega
theorem val_of {Y : List ByteArray} {k : Int} {v : V} (hv : attrOk Y.length k v = true) (hf : v.fits) (hk : 1 ≤ k ∧ k ≤ 4) (hY : badB (Y.map (·.toList)) = false) : valP Y k (textV Y v) = some v := by
  obtain ⟨vk, b⟩ := v
  simp only [attrOk, cleanB, Bool.and_eq_true, decide_eq_true_eq, Bool.not_eq_true', Bool.and_eq_false_iff, decide_eq_false_iff_not] at hv
  obtain ⟨rfl, ⟨h1, h2⟩, h3⟩ := hv
  have hf : b < 18446744073709551616 := hf
  have hc : vk = 1 ∨ vk = 2 ∨ vk = 3 ∨ vk = 4 := by omega
  rcases hc with rfl | rfl | rfl | rfl
  · rw [textV1, valP1, num_itoa _ (by unfold wrap64; omega), Option.map_some, u64_wrap b hf]
  · have hb : b < 2 := by
      by_cases h : b < 2
      · exact h
      · rw [clean2 b h] at h1
        exact absurd h1 (by decide)
    rw [textV2, valP2]
    rcases (show b = 0 ∨ b = 1 by omega) with rfl | rfl
    · rw [if_neg (show ¬ (0 : Nat) = 1 by decide), if_neg (show ¬ tFalse = tTrue by decide), if_pos rfl]
    · rw [if_pos rfl, if_pos rfl]
  · have hb : b < Y.length := by
      rcases h3 with h | h
      · exact absurd rfl h
      · omega
    have h4 := at_nodup 0 b (by simpa using hb) (bad_not hY).2
    rw [Nat.zero_add, List.getElem_map] at h4
    have e : symP Y (39 :: (Y.getD b ⟨#[]⟩).toList) = (b : Nat) := by
      rw [List.getD_eq_getElem?_getD, List.getElem?_eq_getElem hb]
      exact h4
    rw [textV3, valP3, e, if_pos (by omega), Int.toNat_natCast]
  · have hc : canonN b = b := by
      rw [clean4] at h2
      exact h2
    rw [textV4, valP4, text_hex b hc hf, Option.map_some]
def readAll (Y : List ByteArray) : List Int → List (List UInt8) → Option (List V)
  | [], [] => some []
  | k :: ks, w :: ws => match valP Y k w with | some v => (readAll Y ks ws).map (v :: ·) | none => none
  | [], _ :: _ => none
  | _ :: _, [] => none
theorem read_text {Y : List ByteArray} (hY : Y.length ≤ 64) : ∀ {ks : List Int} {ws : List (List UInt8)} {vs : List V}, (∀ k ∈ ks, 1 ≤ k ∧ k ≤ 4) → readAll Y ks ws = some vs → vs.map (textV Y) = ws ∧ ∀ v ∈ vs, v.fits
  | [], [], vs, _, h => by injection h with h; subst h; exact ⟨rfl, by simp⟩
  | [], _ :: _, _, _, h => by cases h
  | _ :: _, [], _, _, h => by cases h
  | k :: ks, w :: ws, vs, hk, h => by
    have h' : (match valP Y k w with | some v => (readAll Y ks ws).map (v :: ·) | none => none) = some vs := h
    cases hv : valP Y k w with
    | none => rw [hv] at h'; cases h'
    | some v =>
      rw [hv] at h'
      simp only at h'
      cases hr : readAll Y ks ws with
      | none => rw [hr] at h'; cases h'
      | some us =>
        rw [hr] at h'
        injection h' with h'; subst h'
        obtain ⟨h1, h2, h3⟩ := val_text (hk k (by simp)) hY hv
        obtain ⟨h4, h5⟩ := read_text hY (fun x hx => hk x (by simp [hx])) hr
        refine ⟨by rw [List.map_cons, h1, h4], fun x hx => ?_⟩
        rcases List.mem_cons.1 hx with rfl | hx
        · exact h3
        · exact h5 x hx
theorem read_of {Y : List ByteArray} (hY : badB (Y.map (·.toList)) = false) : ∀ {ks : List Int} {vs : List V}, (∀ k ∈ ks, 1 ≤ k ∧ k ≤ 4) → (∀ v ∈ vs, v.fits) → attrsOk Y.length ks vs = true → readAll Y ks (vs.map (textV Y)) = some vs
  | [], [], _, _, _ => rfl
  | [], _ :: _, _, _, h => by cases h
  | _ :: _, [], _, _, h => by cases h
  | k :: ks, v :: vs, hk, hf, h => by
    have h' : (attrOk Y.length k v && attrsOk Y.length ks vs) = true := h
    rw [Bool.and_eq_true] at h'
    show (match valP Y k (textV Y v) with | some v => (readAll Y ks (vs.map (textV Y))).map (v :: ·) | none => none) = _
    rw [val_of h'.1 (hf v (by simp)) (hk k (by simp)) hY, read_of hY (fun x hx => hk x (by simp [hx])) (fun x hx => hf x (by simp [hx])) h'.2]
    rfl
def kindsAt (T : List TSig) (t : Int) : List Int := (kindsOf T).getD t.toNat []
def nameAt (T : List TSig) (t : Int) : List UInt8 := (T.getD t.toNat (⟨#[]⟩, [])).1.toList
def lineV (T : List TSig) (Y : List ByteArray) (e : Int × Int × List V) : List UInt8 := lineF (textV Y) (nameAt T e.1) e.2.1 e.2.2
def lineB (T : List TSig) (Y : List ByteArray) (e : Int × Int × List V) : List UInt8 := if validB T Y e = true then lineV T Y e else []
def packP (T : List TSig) (Y : List ByteArray) (t tm : Int) (vs : List V) : Option (Int × Int × List V) := if validB T Y (t, tm, vs) = true then some (t, tm, vs) else none
def bodyP (T : List TSig) (Y : List ByteArray) (t : Int) (w1 : List UInt8) (ws : List (List UInt8)) : Option (Int × Int × List V) :=
  match numP w1 with
  | none => none
  | some tm => match readAll Y (kindsAt T t) ws with | none => none | some vs => packP T Y t tm vs
def wordsP (T : List TSig) (Y : List ByteArray) : List (List UInt8) → Option (Int × Int × List V)
  | w0 :: w1 :: ws => if checkSig T Y = 0 ∧ 0 ≤ typeSig T w0 ∧ ws.length = (kindsAt T (typeSig T w0)).length then bodyP T Y (typeSig T w0) w1 ws else none
  | _ => none
/-- What the program reads. -/
def parseP (T : List TSig) (Y : List ByteArray) (l : List UInt8) : Option (Int × Int × List V) := wordsP T Y (split1 32 l)
theorem line_join (T : List TSig) (Y : List ByteArray) (e : Int × Int × List V) : lineV T Y e = nameAt T e.1 ++ (Lib.itoa e.2.1 :: e.2.2.map (textV Y)).flatMap fun y => 32 :: y := by
  unfold lineV lineF
  simp [List.flatMap_map]
theorem name_no32 {l : List UInt8} (h : nameB l = true) : (32 : UInt8) ∉ l := by
  intro hm
  unfold nameB at h
  simp only [Bool.and_eq_true, List.all_eq_true] at h
  have := h.2.2.2 32 hm
  exact absurd this (by decide)
structure RightS (T : List TSig) (Y : List ByteArray) : Prop where
  names : ∀ t : Nat, t < T.length → (32 : UInt8) ∉ nameAt T t ∧ typeSig T (nameAt T t) = t
  syms : badB (Y.map (·.toList)) = false
  few : Y.length ≤ 64
  kinds : ∀ t, ∀ k ∈ kindsAt T t, 1 ≤ k ∧ k ≤ 4
theorem right_of {T : List TSig} {Y : List ByteArray} (h : checkSig T Y = 0) : RightS T Y := by
  obtain ⟨h1, h2, h3, h4⟩ := right_all h
  obtain ⟨h5, h6⟩ := check_zero h
  refine ⟨fun t ht => ?_, h2, h6, fun t k hk => ?_⟩
  · have e : nameAt T t = T[t].1.toList := by
      unfold nameAt
      rw [Int.toNat_natCast, List.getD_eq_getElem?_getD, List.getElem?_eq_getElem ht]; rfl
    have hb := bad_not h1
    rw [e]
    refine ⟨name_no32 (hb.1 _ (List.mem_map_of_mem (List.getElem_mem ht))).1, ?_⟩
    have := at_nodup 0 t (by simpa using ht) hb.2
    rw [List.getElem_map, Nat.zero_add] at this
    exact this
  · unfold kindsAt kindsOf at hk
    rw [List.getD_eq_getElem?_getD, List.getElem?_map] at hk
    cases hq : T[t.toNat]? with
    | none => rw [hq] at hk; simp at hk
    | some x =>
      rw [hq] at hk
      simp only [Option.map_some, Option.getD_some, List.mem_map] at hk
      obtain ⟨f, hf, rfl⟩ := hk
      exact h4 x (List.mem_of_getElem? hq) f hf
theorem text_no32 {Y : List ByteArray} {k : Int} {v : V} (hY : badB (Y.map (·.toList)) = false) (hk : 1 ≤ k ∧ k ≤ 4) (h : attrOk Y.length k v = true) : (32 : UInt8) ∉ textV Y v := by
  simp only [attrOk, Bool.and_eq_true, decide_eq_true_eq, Bool.not_eq_true', Bool.and_eq_false_iff, decide_eq_false_iff_not] at h
  obtain ⟨h1, _, h3⟩ := h
  unfold textV textL
  split
  · intro hm
    rcases List.mem_cons.1 hm with e | hm
    · exact absurd e (by decide)
    · exact hexN_no _ _ hm
  · split
    · exact no32 _
    · split
      · split <;> decide
      · intro hm
        rcases List.mem_cons.1 hm with e | hm
        · exact absurd e (by decide)
        · have hb : v.b < Y.length := by omega
          rw [List.getD_eq_getElem?_getD, List.getElem?_eq_getElem hb] at hm
          exact name_no32 ((bad_not hY).1 _ (List.mem_map_of_mem (List.getElem_mem hb))).1 hm
theorem texts_no32 {Y : List ByteArray} (hY : badB (Y.map (·.toList)) = false) : ∀ {ks : List Int} {vs : List V}, (∀ k ∈ ks, 1 ≤ k ∧ k ≤ 4) → attrsOk Y.length ks vs = true → ∀ y ∈ vs.map (textV Y), (32 : UInt8) ∉ y
  | [], [], _, _ => by simp
  | [], _ :: _, _, h => by cases h
  | _ :: _, [], _, h => by cases h
  | k :: ks, v :: vs, hk, h => by
    have h' : (attrOk Y.length k v && attrsOk Y.length ks vs) = true := h
    rw [Bool.and_eq_true] at h'
    intro y hy
    rcases List.mem_cons.1 hy with rfl | hy
    · exact text_no32 hY (hk k (by simp)) h'.1
    · exact texts_no32 hY (fun x hx => hk x (by simp [hx])) h'.2 y hy
structure ValidE (T : List TSig) (Y : List ByteArray) (e : Int × Int × List V) : Prop where
  check : checkSig T Y = 0
  type : 0 ≤ e.1 ∧ e.1.toNat < T.length
  time : 0 ≤ e.2.1 ∧ e.2.1 ≤ 1152921504606846976
  attrs : attrsOk Y.length (kindsAt T e.1) e.2.2 = true
theorem valid_e {T : List TSig} {Y : List ByteArray} {e : Int × Int × List V} (h : validB T Y e = true) : ValidE T Y e := by
  unfold validB headOk rowFits maxTime at h
  simp only [Bool.and_eq_true, decide_eq_true_eq] at h
  obtain ⟨h1, ⟨h2, h3⟩, h4, h5⟩ := h
  refine ⟨h1, ?_, h3, h5⟩
  simpa [kindsOf] using h2
theorem line_split {T : List TSig} {Y : List ByteArray} {e : Int × Int × List V} (h : ValidE T Y e) : split1 32 (lineV T Y e) = nameAt T e.1 :: Lib.itoa e.2.1 :: e.2.2.map (textV Y) := by
  have hR := right_of h.check
  obtain ⟨t, ht⟩ : ∃ t : Nat, e.1 = t := ⟨e.1.toNat, by have := h.type; omega⟩
  have hn := hR.names t (by have := h.type; omega)
  rw [← ht] at hn
  rw [line_join, split_flat 32 _ _ hn.1]
  intro y hy
  rcases List.mem_cons.1 hy with rfl | hy
  · exact no32 _
  · exact texts_no32 hR.syms (hR.kinds _) h.attrs y hy
theorem type_name {T : List TSig} {Y : List ByteArray} {e : Int × Int × List V} (h : ValidE T Y e) : typeSig T (nameAt T e.1) = e.1 := by
  have hR := right_of h.check
  obtain ⟨t, ht⟩ : ∃ t : Nat, e.1 = t := ⟨e.1.toNat, by have := h.type; omega⟩
  rw [ht]
  exact (hR.names t (by have := h.type; omega)).2
/-- A line that is read again is what was written. -/
theorem parse_line {T : List TSig} {Y : List ByteArray} {e : Int × Int × List V} (hv : validB T Y e = true) (hf : ∀ v ∈ e.2.2, v.fits) : parseP T Y (lineV T Y e) = some e := by
  have h := valid_e hv
  have hR := right_of h.check
  unfold parseP
  rw [line_split h]
  show (if checkSig T Y = 0 ∧ 0 ≤ typeSig T (nameAt T e.1) ∧ (e.2.2.map (textV Y)).length = (kindsAt T (typeSig T (nameAt T e.1))).length then bodyP T Y (typeSig T (nameAt T e.1)) (Lib.itoa e.2.1) (e.2.2.map (textV Y)) else none) = _
  rw [type_name h, if_pos ⟨h.check, h.type.1, by rw [List.length_map]; exact (attrsOk_len h.attrs).symm⟩]
  unfold bodyP
  rw [num_itoa _ (by have := h.time; omega), read_of hR.syms (hR.kinds _) hf h.attrs]
  exact if_pos hv
theorem typeSig_name {T : List TSig} {w : List UInt8} (h : 0 ≤ typeSig T w) : nameAt T (typeSig T w) = w := by
  unfold typeSig at h ⊢
  obtain ⟨h1, h2, h3⟩ := at_ge w (T.map (·.1.toList)) 0
  obtain ⟨_, h5⟩ := h3 h
  rw [Nat.sub_zero, List.getElem?_map] at h5
  unfold nameAt
  rw [List.getD_eq_getElem?_getD]
  cases hq : T[(atFrom w 0 (T.map (·.1.toList))).toNat]? with
  | none => rw [hq] at h5; cases h5
  | some x => rw [hq] at h5; simpa using h5
/-- What is read has the line that was read. -/
theorem parse_back {T : List TSig} {Y : List ByteArray} {l : List UInt8} {e : Int × Int × List V} (h : parseP T Y l = some e) : validB T Y e = true ∧ lineV T Y e = l ∧ (∀ v ∈ e.2.2, v.fits) ∧ e.2.2.length ≤ l.length := by
  have hj := join_split 32 l
  have hlen := wid_len (split1 32 l)
  rw [split1_wid] at hlen
  unfold parseP at h
  generalize split1 32 l = W at *
  match W, h with
  | w0 :: w1 :: ws, h =>
    have h' : (if checkSig T Y = 0 ∧ 0 ≤ typeSig T w0 ∧ ws.length = (kindsAt T (typeSig T w0)).length then bodyP T Y (typeSig T w0) w1 ws else none) = some e := h
    split at h'
    · rename_i hc
      have hR := right_of hc.1
      unfold bodyP at h'
      cases hn : numP w1 with
      | none => rw [hn] at h'; cases h'
      | some tm =>
        rw [hn] at h'
        simp only at h'
        cases hr : readAll Y (kindsAt T (typeSig T w0)) ws with
        | none => rw [hr] at h'; cases h'
        | some vs =>
          rw [hr] at h'
          simp only [packP] at h'
          split at h'
          · rename_i hv
            injection h' with h'; subst h'
            obtain ⟨h1, h2⟩ := read_text hR.few (hR.kinds _) hr
            refine ⟨hv, ?_, h2, ?_⟩
            · rw [line_join]
              simp only
              rw [typeSig_name hc.2.1, (num_text hn).1, h1, ← join_flat, hj]
            · have := congrArg List.length h1
              rw [List.length_map] at this
              simp only [List.length_cons] at hlen
              show vs.length ≤ _
              omega
          · cases h'
    · cases h'

/-! The document's reader. -/
def symLast (w : List UInt8) : Nat → Nat → List (List UInt8) → Nat
  | _, b, [] => b
  | i, b, n :: l => symLast w (i + 1) (if w = 39 :: n then i else b) l
def bitsU (a : Nat) : List UInt8 → Nat
  | [] => a
  | c :: r => bitsU (a * 16 + (hexV c).getD 0) r
def bitsD (w : List UInt8) : Nat := canonN (bitsU 0 (w.drop 1) % 18446744073709551616)
def valD (Y : List ByteArray) (k : Int) (w : List UInt8) : V :=
  if k = 1 then ⟨1, u64 (numD w)⟩ else if k = 2 then ⟨2, if w = tTrue then 1 else 0⟩ else if k = 3 then ⟨3, symLast w 0 0 (Y.map (·.toList))⟩ else ⟨k, bitsD w⟩
def candD (T : List TSig) (Y : List ByteArray) (w0 w1 : List UInt8) (ws : List (List UInt8)) : Int × Int × List V := (typeSig T w0, numD w1, List.zipWith (valD Y) (kindsAt T (typeSig T w0)) ws)
def lineIs (T : List TSig) (Y : List ByteArray) (l : List UInt8) (e : Int × Int × List V) : Option (Int × Int × List V) := if lineB T Y e = l ∧ l ≠ [] then some e else none
def wordsD (T : List TSig) (Y : List ByteArray) (l : List UInt8) : List (List UInt8) → Option (Int × Int × List V)
  | w0 :: w1 :: ws => if checkSig T Y = 0 ∧ 0 ≤ typeSig T w0 then lineIs T Y l (candD T Y w0 w1 ws) else none
  | _ => none
def parseD (T : List TSig) (Y : List ByteArray) (l : List UInt8) : Option (Int × Int × List V) := wordsD T Y l (split1 32 l)
theorem bits_hex : ∀ (r : List UInt8) (acc a : Nat), hexFrom acc r = some a → bitsU acc r = a
  | [], acc, a, h => by injection h
  | c :: r, acc, a, h => by
    have h' : (match hexV c with | some d => hexFrom (acc * 16 + d) r | none => none) = some a := h
    cases hv : hexV c with
    | none => rw [hv] at h'; cases h'
    | some d =>
      rw [hv] at h'
      show bitsU (acc * 16 + (hexV c).getD 0) r = a
      rw [hv]
      exact bits_hex r _ a h'
theorem last_not (w : List UInt8) : ∀ (l : List (List UInt8)) (i b : Nat), (∀ n ∈ l, w ≠ 39 :: n) → symLast w i b l = b
  | [], i, b, _ => rfl
  | n :: l, i, b, h => by
    show symLast w (i + 1) (if w = 39 :: n then i else b) l = b
    rw [if_neg (h n (by simp)), last_not w l _ _ fun x hx => h x (by simp [hx])]
theorem last_at : ∀ (l : List (List UInt8)) (i b j : Nat) (hj : j < l.length), l.Nodup → symLast (39 :: l[j]) i b l = i + j
  | n :: l, i, b, 0, _, h => by
    obtain ⟨h1, h2⟩ := List.nodup_cons.1 h
    show symLast (39 :: n) (i + 1) (if 39 :: n = 39 :: n then i else b) l = i + 0
    rw [if_pos rfl, last_not _ l _ _ fun x hx e => h1 (by injection e with _ e; rw [e]; exact hx)]; rfl
  | n :: l, i, b, j + 1, hj, h => by
    obtain ⟨h1, h2⟩ := List.nodup_cons.1 h
    have hj' : j < l.length := by simpa using hj
    show symLast (39 :: l[j]) (i + 1) _ l = i + (j + 1)
    rw [last_at l _ _ j hj' h2]; omega
theorem valD1 (Y : List ByteArray) (w : List UInt8) : valD Y 1 w = ⟨1, u64 (numD w)⟩ := by unfold valD; rw [if_pos rfl]
theorem valD2 (Y : List ByteArray) (w : List UInt8) : valD Y 2 w = ⟨2, if w = tTrue then 1 else 0⟩ := by unfold valD; rw [if_neg (by decide), if_pos rfl]
theorem valD3 (Y : List ByteArray) (w : List UInt8) : valD Y 3 w = ⟨3, symLast w 0 0 (Y.map (·.toList))⟩ := by unfold valD; rw [if_neg (by decide), if_neg (by decide), if_pos rfl]
theorem valD4 (Y : List ByteArray) (w : List UInt8) : valD Y 4 w = ⟨4, bitsD w⟩ := by unfold valD; rw [if_neg (by decide), if_neg (by decide), if_neg (by decide)]
theorem bits_real (b : Nat) (h : canonN b = b) (hf : b < 18446744073709551616) : bitsD (realL b) = b := by
  unfold bitsD realL
  rw [List.drop_succ_cons, List.drop_zero, h, bits_hex _ 0 _ (hexFrom_N b 16 0), Nat.zero_mul, Nat.zero_add, Nat.mod_eq_of_lt (show b < 16 ^ 16 from hf), Nat.mod_eq_of_lt hf, h]
theorem valD_of {Y : List ByteArray} {k : Int} {v : V} (hv : attrOk Y.length k v = true) (hf : v.fits) (hk : 1 ≤ k ∧ k ≤ 4) (hY : badB (Y.map (·.toList)) = false) : valD Y k (textV Y v) = v := by
  obtain ⟨vk, b⟩ := v
  simp only [attrOk, cleanB, Bool.and_eq_true, decide_eq_true_eq, Bool.not_eq_true', Bool.and_eq_false_iff, decide_eq_false_iff_not] at hv
  obtain ⟨rfl, ⟨h1, h2⟩, h3⟩ := hv
  have hf : b < 18446744073709551616 := hf
  have hc : vk = 1 ∨ vk = 2 ∨ vk = 3 ∨ vk = 4 := by omega
  rcases hc with rfl | rfl | rfl | rfl
  · rw [textV1, valD1, numD_itoa _ (by unfold wrap64; omega), u64_wrap b hf]
  · have hb : b < 2 := by
      by_cases h : b < 2
      · exact h
      · rw [clean2 b h] at h1
        exact absurd h1 (by decide)
    rw [textV2, valD2]
    rcases (show b = 0 ∨ b = 1 by omega) with rfl | rfl
    · rw [if_neg (show ¬ (0 : Nat) = 1 by decide), if_neg (show ¬ tFalse = tTrue by decide)]
    · rw [if_pos rfl, if_pos rfl]
  · have hb : b < Y.length := by
      rcases h3 with h | h
      · exact absurd rfl h
      · omega
    have h4 := last_at (Y.map (·.toList)) 0 0 b (by simpa using hb) (bad_not hY).2
    rw [List.getElem_map, Nat.zero_add] at h4
    have e : symLast (39 :: (Y.getD b ⟨#[]⟩).toList) 0 0 (Y.map (·.toList)) = b := by
      rw [List.getD_eq_getElem?_getD, List.getElem?_eq_getElem hb]
      exact h4
    rw [textV3, valD3, e]
  · have hc : canonN b = b := by
      rw [clean4] at h2
      exact h2
    rw [textV4, valD4, bits_real b hc hf]
theorem zips_of {Y : List ByteArray} (hY : badB (Y.map (·.toList)) = false) : ∀ {ks : List Int} {vs : List V}, (∀ k ∈ ks, 1 ≤ k ∧ k ≤ 4) → (∀ v ∈ vs, v.fits) → attrsOk Y.length ks vs = true → List.zipWith (valD Y) ks (vs.map (textV Y)) = vs
  | [], [], _, _, _ => rfl
  | [], _ :: _, _, _, h => by cases h
  | _ :: _, [], _, _, h => by cases h
  | k :: ks, v :: vs, hk, hf, h => by
    have h' : (attrOk Y.length k v && attrsOk Y.length ks vs) = true := h
    rw [Bool.and_eq_true] at h'
    rw [List.map_cons, List.zipWith_cons_cons, valD_of h'.1 (hf v (by simp)) (hk k (by simp)) hY, zips_of hY (fun x hx => hk x (by simp [hx])) (fun x hx => hf x (by simp [hx])) h'.2]
theorem line_ne {T : List TSig} {Y : List ByteArray} (e : Int × Int × List V) : lineV T Y e ≠ [] := by
  unfold lineV lineF
  simp
/-- Both readers read the same. -/
theorem parse_same (T : List TSig) (Y : List ByteArray) (l : List UInt8) (hfit : ∀ w0 w1 ws, ∀ v ∈ (candD T Y w0 w1 ws).2.2, v.fits) : parseD T Y l = parseP T Y l := by
  cases hp : parseP T Y l with
  | some e =>
    obtain ⟨hv, hl, hf, _⟩ := parse_back hp
    have h := valid_e hv
    have hR := right_of h.check
    unfold parseD
    rw [← hl, line_split h]
    show (if checkSig T Y = 0 ∧ 0 ≤ typeSig T (nameAt T e.1) then lineIs T Y (lineV T Y e) (candD T Y (nameAt T e.1) (Lib.itoa e.2.1) (e.2.2.map (textV Y))) else none) = _
    have hc : candD T Y (nameAt T e.1) (Lib.itoa e.2.1) (e.2.2.map (textV Y)) = e := by
      unfold candD
      rw [type_name h, numD_itoa _ (by have := h.time; omega), zips_of hR.syms (hR.kinds _) hf h.attrs]
    rw [if_pos ⟨h.check, by rw [type_name h]; exact h.type.1⟩, hc]
    exact if_pos ⟨if_pos hv, line_ne e⟩
  | none =>
    cases hd : parseD T Y l with
    | none => rfl
    | some e =>
      unfold parseD at hd
      match hW : split1 32 l, hd with
      | w0 :: w1 :: ws, hd =>
        have hd' : (if checkSig T Y = 0 ∧ 0 ≤ typeSig T w0 then lineIs T Y l (candD T Y w0 w1 ws) else none) = some e := hd
        split at hd'
        · unfold lineIs at hd'
          split at hd'
          · rename_i h1
            injection hd' with hd'
            have hf := hfit w0 w1 ws
            rw [hd'] at h1 hf
            unfold lineB at h1
            split at h1
            · rename_i hv
              have := parse_line hv hf
              rw [h1.1, hp] at this
              cases this
            · exact absurd h1.1.symm h1.2
          · cases hd'
        · cases hd'
      | [], hd => cases hd
      | [_], hd => cases hd
end Go.Proofs.YtpakcicbojbonaaGreatDoor
