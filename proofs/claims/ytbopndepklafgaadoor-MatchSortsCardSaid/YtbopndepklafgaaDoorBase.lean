/- Plain words used by all walks of this seat: rows of cells that are read, and how they stay. No conditions. -/
import Derived.Test.YtbopndepklafgaaDoorRows
import Derived.WalkKit
import Derived.WalkLawsBesides
import Derived.BigQuiet
import Derived.Lib.Hide
namespace Go.Proofs.YtbopndepklafgaaDoor
open Go.RowKit

theorem ret_bool {a b : Bool} (h : a = b) : Ending.returned (.bool a) = .returned (.bool b) := by rw [h]
theorem ret_int {k : IntKind} {a b : Int} (h : a = b) : Ending.returned (.int k a) = .returned (.int k b) := by rw [h]
theorem val_int {k : IntKind} {a b : Int} (h : a = b) : Value.int k a = .int k b := by rw [h]

/-- The cells 'cs' lie one behind the other from the address on, in a block below B. -/
def Rd (w : World) (B : Nat) (A : Option Addr) (cs : List Value) : Prop :=
  cs = [] ∨ ∃ b o, A = some ⟨b, o, none⟩ ∧ b < B ∧ ∀ (j : Nat) (u : Value), cs[j]? = some u → w.cell? ⟨b, o + j, none⟩ = some u

section
variable {w w' : World} {B B' : Nat} {A : Option Addr} {cs : List Value}
theorem Rd.nil : Rd w B A [] := .inl rfl
theorem Rd.keep (h : Rd w B A cs) (hk : ∀ b o, b < B → w'.cell? ⟨b, o, none⟩ = w.cell? ⟨b, o, none⟩) : Rd w' B A cs := by
  rcases h with h | ⟨b, o, hA, hb, hc⟩
  · exact .inl h
  · exact .inr ⟨b, o, hA, hb, fun j u hu => (hk b _ hb).trans (hc j u hu)⟩
theorem Rd.more (h : Rd w B A cs) (hB : B ≤ B') : Rd w B' A cs := by
  rcases h with h | ⟨b, o, hA, hb, hc⟩
  · exact .inl h
  · exact .inr ⟨b, o, hA, Nat.lt_of_lt_of_le hb hB, hc⟩
theorem Rd.below (h : Rd w B A cs) (hb : Below B w w') : Rd w' B A cs := h.keep fun b o hlt => hb.cell (p := ⟨b, o, none⟩) hlt
theorem Rd.at_ (h : Rd w B A cs) {j : Nat} (hj : j < cs.length) : ∃ b o, A = some ⟨b, o, none⟩ ∧ b < B ∧ ∀ (j : Nat) (u : Value), cs[j]? = some u → w.cell? ⟨b, o + j, none⟩ = some u := by
  rcases h with h | h
  · subst h; simp at hj
  · exact h
end

/-- All cells of blocks below B, and their marks, are as they were. -/
theorem bcell {B : Nat} {w w' : World} (hb : Below B w w') : ∀ b o, b < B → w'.cell? ⟨b, o, none⟩ = w.cell? ⟨b, o, none⟩ := fun b o h => hb.cell (p := ⟨b, o, none⟩) h
theorem bfrozen {B : Nat} {w w' : World} (hb : Below B w w') : ∀ b o, b < B → w'.frozen? ⟨b, o, none⟩ = w.frozen? ⟨b, o, none⟩ := fun b o h => hb.frozen (p := ⟨b, o, none⟩) h


/-! Rows of elements of n cells each -/
theorem flat_at {α β : Type} {n : Nat} (f : α → List β) (hf : ∀ a, (f a).length = n) (l : List α) (k j : Nat) (hk : k < l.length) (hj : j < n) : (l.flatMap f)[k * n + j]? = (f l[k])[j]? := by
  induction l generalizing k with
  | nil => simp at hk
  | cons x l ih =>
    rw [List.flatMap_cons]
    cases k with
    | zero => simp [List.getElem?_append, hf, hj]
    | succ k =>
      have e : (k + 1) * n = k * n + n := Nat.succ_mul k n
      rw [List.getElem?_append_right (by rw [hf]; omega), hf, show (k + 1) * n + j - n = k * n + j by omega]
      simpa using ih k (by simpa using hk)
theorem flat_len {α β : Type} {n : Nat} (f : α → List β) (hf : ∀ a, (f a).length = n) (l : List α) : (l.flatMap f).length = l.length * n := by
  induction l with
  | nil => simp
  | cons x l ih => rw [List.flatMap_cons, List.length_append, hf, ih, List.length_cons, Nat.succ_mul]; omega

/-- The element k: its place, and its cells in the walk's own spelling. -/
theorem Rd.elem {α : Type} {w : World} {B : Nat} {A : Option Addr} {n : Nat} {f : α → List Value} (hf : ∀ a, (f a).length = n) (hn : 0 < n) {l : List α} (h : Rd w B A (l.flatMap f)) {k : Nat} (hk : k < l.length) :
    ∃ b o, A = some ⟨b, o, none⟩ ∧ b < B ∧ ∀ (j : Nat) (u : Value), (f l[k])[j]? = some u → w.cell? ⟨b, o + k * n + j, none⟩ = some u := by
  have hle : k * n + n ≤ l.length * n := by have := Nat.mul_le_mul_right n (show k + 1 ≤ l.length by omega); rw [Nat.succ_mul] at this; exact this
  obtain ⟨b, o, hA, hb, hc⟩ := h.at_ (j := k * n) (by rw [flat_len f hf]; omega)
  refine ⟨b, o, hA, hb, fun j u hu => ?_⟩
  have hj : j < n := by have := (List.getElem?_eq_some_iff.1 hu).1; rw [hf] at this; exact this
  rw [Nat.add_assoc]
  exact hc _ u (by rw [flat_at f hf l k j hk hj]; exact hu)
/-- Elements of one cell. -/
theorem Rd.elem1 {α : Type} {w : World} {B : Nat} {A : Option Addr} {f : α → Value} {l : List α} (h : Rd w B A (l.map f)) {k : Nat} (hk : k < l.length) :
    ∃ b o, A = some ⟨b, o, none⟩ ∧ b < B ∧ w.cell? ⟨b, o + k, none⟩ = some (f l[k]) := by
  obtain ⟨b, o, hA, hb, hc⟩ := h.at_ (j := k) (by simpa using hk)
  exact ⟨b, o, hA, hb, hc k _ (by simp [hk])⟩

end Go.Proofs.YtbopndepklafgaaDoor
