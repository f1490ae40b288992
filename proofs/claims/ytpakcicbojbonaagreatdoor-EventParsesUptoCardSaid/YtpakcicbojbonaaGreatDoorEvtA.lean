/- Layer 4: events and kinds in memory; which events fit kinds. Plain. -/
import Derived.Test.YtpakcicbojbonaaGreatDoorSchJ
import Derived.Test.YtpakcicbojbonaaGreatDoorValA
namespace Go.Proofs.YtpakcicbojbonaaGreatDoor
open Go.RowKit
set_option linter.unusedVariables false
set_option linter.unusedSimpArgs false

/-- An event in memory. -/
structure EventV where
  type : Int
  time : Int
  A : Option Addr
  c : Nat
  attrs : List V
def EventV.cells (e : EventV) : List Value := [.int .i64 e.type, .int .i64 e.time, .slice e.A e.attrs.length e.c]
def EventV.val (e : EventV) : Value := .agg #[.int .i64 e.type, .int .i64 e.time, .slice e.A e.attrs.length e.c]
structure EventV.ok (e : EventV) (w : World) (B : Nat) : Prop where
  rd : Rd w B e.A (e.attrs.flatMap V.cells)
  len : e.attrs.length ≤ 8796093021952
  fits : ∀ x ∈ e.attrs, x.fits
  time : -9223372036854775808 ≤ e.time ∧ e.time ≤ 9223372036854775807
/-- What an event says. -/
def EventV.sig (e : EventV) : Int × Int × List V := (e.type, e.time, e.attrs)
theorem EventV.ok.keep {e : EventV} {w w' : World} {B B' : Nat} (h : e.ok w B) (hb : Below B w w') (hB : B ≤ B') : e.ok w' B' := ⟨(h.rd.below hb).more hB, h.len, h.fits, h.time⟩
theorem EventV.ok.old {e : EventV} {w w' : World} (h : e.ok w w.heap.size) (hb : Below w.heap.size w w') : e.ok w' w'.heap.size := h.keep hb hb.size

/-- A row of ints in memory. -/
structure RowV where
  A : Option Addr
  c : Nat
  l : List Int
def ints (l : List Int) : List Value := l.map fun n : Int => Value.int .i64 n
theorem ints_len (l : List Int) : (ints l).length = l.length := by simp [ints]
def RowV.cells (r : RowV) : List Value := [.slice r.A r.l.length r.c]
structure RowV.ok (r : RowV) (w : World) (B : Nat) : Prop where
  rd : Rd w B r.A (ints r.l)
  len : r.l.length ≤ 17592186043904
theorem RowV.ok.keep {e : RowV} {w w' : World} {B B' : Nat} (h : e.ok w B) (hb : Below B w w') (hB : B ≤ B') : e.ok w' B' := ⟨(h.rd.below hb).more hB, h.len⟩
theorem RowV.ok.old {e : RowV} {w w' : World} (h : e.ok w w.heap.size) (hb : Below w.heap.size w w') : e.ok w' w'.heap.size := h.keep hb hb.size

/-! Which events fit. -/
def kindOk (k : Int) : Bool := decide (1 ≤ k) && decide (k ≤ 4)
def rowOk (l : List Int) : Bool := decide (l.length ≤ 8) && l.all kindOk
def cleanB (v : V) : Bool := decide ((clean v).k = v.k) && decide ((clean v).b = v.b)
def attrOk (n : Nat) (k : Int) (v : V) : Bool := decide (v.k = k) && (cleanB v && !(decide (v.k = 3) && decide (n ≤ v.b)))
def attrsOk (n : Nat) : List Int → List V → Bool
  | [], [] => true
  | k :: l, v :: a => attrOk n k v && attrsOk n l a
  | _, _ => false
/-- By the kinds of the type alone. -/
def rowFits (n : Nat) (l : List Int) (a : List V) : Bool := decide (a.length = l.length) && attrsOk n l a
def kindsOk (K : List (List Int)) : Bool := decide (K.length ≤ 16) && K.all rowOk
def maxTime : Int := 1152921504606846976
def headOk (K : List (List Int)) (ty tm : Int) : Bool := decide (0 ≤ ty ∧ ty.toNat < K.length) && decide (0 ≤ tm ∧ tm ≤ maxTime)
def fitsB (K : List (List Int)) (n : Int) (e : Int × Int × List V) : Bool :=
  (kindsOk K && decide (0 ≤ n ∧ n ≤ 64)) && (headOk K e.1 e.2.1 && rowFits n.toNat (K.getD e.1.toNat []) e.2.2)
theorem attrsOk_len {n : Nat} : ∀ {l : List Int} {a : List V}, attrsOk n l a = true → l.length = a.length
  | [], [], _ => rfl
  | [], _ :: _, h => by simp [attrsOk] at h
  | _ :: _, [], h => by simp [attrsOk] at h
  | k :: l, v :: a, h => by
    simp only [attrsOk, Bool.and_eq_true] at h
    simp [attrsOk_len h.2]
/-- Through a row of equal length: where the first k fit, all of it fits as the rest does. -/
theorem attrsOk_drop (n : Nat) : ∀ (k : Nat) (l : List Int) (a : List V), l.length = a.length → (hk : k < a.length) → (hl : k < l.length) → attrsOk n (l.drop k) (a.drop k) = (attrOk n l[k] a[k] && attrsOk n (l.drop (k + 1)) (a.drop (k + 1))) := by
  intro k l a _ hk hl
  rw [List.drop_eq_getElem_cons hk, List.drop_eq_getElem_cons hl]
  rfl
theorem attrsOk_end (n : Nat) (l : List Int) (a : List V) (k : Nat) (h : l.length ≤ k) (h' : a.length ≤ k) : attrsOk n (l.drop k) (a.drop k) = true := by
  rw [List.drop_eq_nil_of_le h, List.drop_eq_nil_of_le h']; rfl

/-- Of a schema. -/
def kindsOf (T : List TSig) : List (List Int) := T.map fun t => t.2.map (·.kind)
def validB (T : List TSig) (Y : List ByteArray) (e : Int × Int × List V) : Bool := decide (checkSig T Y = 0) && (headOk (kindsOf T) e.1 e.2.1 && rowFits Y.length ((kindsOf T).getD e.1.toNat []) e.2.2)
theorem check_zero {T : List TSig} {Y : List ByteArray} (h : checkSig T Y = 0) : kindsOk (kindsOf T) = true ∧ Y.length ≤ 64 := by
  unfold checkSig at h
  split at h
  · omega
  rename_i h1
  split at h
  · omega
  have h3 : T.any kindT = false := by
    cases hk : T.any kindT
    · rfl
    · rw [hk] at h; exact absurd h (by decide)
  simp only [Bool.or_eq_true, decide_eq_true_eq, not_or] at h1
  obtain ⟨⟨h4, h5⟩, h6⟩ := h1
  refine ⟨?_, by omega⟩
  unfold kindsOk
  simp only [Bool.and_eq_true, decide_eq_true_eq, List.all_eq_true]
  refine ⟨by unfold kindsOf; simp; omega, fun l hl => ?_⟩
  obtain ⟨t, ht, rfl⟩ := List.mem_map.1 hl
  have h7 : longT t = false := by
    cases e : longT t
    · rfl
    · exact absurd (List.any_eq_true.2 ⟨t, ht, e⟩) h6
  have h8 : kindT t = false := by
    cases e : kindT t
    · rfl
    · exact absurd (List.any_eq_true.2 ⟨t, ht, e⟩) (by rw [h3]; decide)
  unfold longT at h7
  unfold kindT at h8
  unfold rowOk
  simp only [Bool.and_eq_true, decide_eq_true_eq, List.all_eq_true, List.length_map]
  refine ⟨by have := of_decide_eq_false h7; omega, fun k hk => ?_⟩
  obtain ⟨f, hf, rfl⟩ := List.mem_map.1 hk
  have h9 : kindBadB f = false := by
    cases e : kindBadB f
    · rfl
    · exact absurd (List.any_eq_true.2 ⟨f, hf, e⟩) (by rw [h8]; decide)
  unfold kindBadB at h9
  simp only [Bool.or_eq_false_iff, decide_eq_false_iff_not] at h9
  unfold kindOk
  simp only [Bool.and_eq_true, decide_eq_true_eq]
  omega
/-- The program asks kinds and count, behind Check. -/
theorem valid_fits (T : List TSig) (Y : List ByteArray) (e : Int × Int × List V) : (decide (checkSig T Y = 0) && fitsB (kindsOf T) Y.length e) = validB T Y e := by
  unfold validB fitsB
  by_cases h : checkSig T Y = 0
  · obtain ⟨h1, h2⟩ := check_zero h
    have h3 : decide (0 ≤ (Y.length : Int) ∧ (Y.length : Int) ≤ 64) = true := decide_eq_true (by omega)
    rw [h1, h3, Int.toNat_natCast]
    rfl
  · rw [decide_eq_false h]; rfl
/-- The first that is wrong: its place, and why (20, 21); 0, 0. -/
def scriptFrom (T : List TSig) (Y : List ByteArray) (k : Nat) (prev : Option Int) : List (Int × Int × List V) → Int × Int
  | [] => (0, 0)
  | e :: l => if validB T Y e then (if (match prev with | some t => decide (e.2.1 < t) | none => false) then (k, 21) else scriptFrom T Y (k + 1) (some e.2.1) l) else (k, 20)
def scriptB (T : List TSig) (Y : List ByteArray) (l : List (Int × Int × List V)) : Int × Int := scriptFrom T Y 0 none l
end Go.Proofs.YtpakcicbojbonaaGreatDoor
