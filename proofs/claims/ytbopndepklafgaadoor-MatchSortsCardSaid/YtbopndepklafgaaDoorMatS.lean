/- Layer 10: the order of matches is one; match.Same. No conditions. -/
import Derived.Test.YtbopndepklafgaaDoorMatB
namespace Go.Proofs.YtbopndepklafgaaDoor
open Go.RowKit
set_option maxRecDepth 10000
set_option linter.unusedVariables false
set_option linter.unusedSimpArgs false

structure IsCmp {α : Type} (f : α → α → Int) : Prop where
  neg : ∀ a b, f b a = - f a b
  eq : ∀ a b, f a b = 0 → a = b
  le : ∀ a b c, f a b ≤ 0 → f b c ≤ 0 → f a c ≤ 0
  rng : ∀ a b, -1 ≤ f a b ∧ f a b ≤ 1
theorem IsCmp.refl {α : Type} {f : α → α → Int} (h : IsCmp f) (a : α) : f a a = 0 := by have := h.neg a a; omega
theorem cmp_int : IsCmp Lib.compareInt := by
  refine ⟨fun a b => ?_, fun a b h => ?_, fun a b c h1 h2 => ?_, fun a b => ?_⟩ <;> unfold Lib.compareInt at * <;> (repeat' split at *) <;> omega
def lexL {α : Type} (f : α → α → Int) : List α → List α → Int
  | x :: a, y :: b => if f x y = 0 then lexL f a b else f x y
  | [], [] => 0
  | [], _ :: _ => -1
  | _ :: _, [] => 1
theorem lex_cons {α : Type} (f : α → α → Int) (x y : α) (a b : List α) : lexL f (x :: a) (y :: b) = if f x y = 0 then lexL f a b else f x y := rfl
theorem cmp_lex {α : Type} {f : α → α → Int} (h : IsCmp f) : IsCmp (lexL f) := by
  refine ⟨fun a => ?_, fun a => ?_, fun a => ?_, fun a => ?_⟩
  · induction a with
    | nil => intro b; cases b <;> rfl
    | cons x a ih =>
      intro b
      cases b with
      | nil => rfl
      | cons y b =>
        rw [lex_cons, lex_cons, h.neg x y, ih b]
        by_cases e : f x y = 0
        · rw [if_pos (by omega), if_pos e]
        · rw [if_neg (by omega), if_neg e]
  · induction a with
    | nil => intro b e; cases b with | nil => rfl | cons y b => exact absurd e (by simp [lexL])
    | cons x a ih =>
      intro b e
      cases b with
      | nil => exact absurd e (by simp [lexL])
      | cons y b =>
        rw [lex_cons] at e
        by_cases e1 : f x y = 0
        · rw [if_pos e1] at e
          rw [h.eq x y e1, ih b e]
        · rw [if_neg e1] at e; exact absurd e e1
  · induction a with
    | nil => intro b c h1 h2; cases c <;> simp [lexL]
    | cons x a ih =>
      intro b c h1 h2
      cases b with
      | nil => exact absurd h1 (by simp [lexL])
      | cons y b =>
        cases c with
        | nil => exact absurd h2 (by simp [lexL])
        | cons z c =>
          rw [lex_cons] at h1 h2 ⊢
          by_cases e1 : f x y = 0
          · rw [if_pos e1] at h1
            obtain rfl := h.eq x y e1
            by_cases e2 : f x z = 0
            · rw [if_pos e2] at h2 ⊢; exact ih b c h1 h2
            · rw [if_neg e2] at h2 ⊢; exact h2
          · rw [if_neg e1] at h1
            have h3 : f y z ≤ 0 := by
              by_cases e2 : f y z = 0
              · omega
              · rw [if_neg e2] at h2; exact h2
            have h4 := h.le x y z h1 h3
            by_cases e3 : f x z = 0
            · obtain rfl := h.eq x z e3
              have := h.neg x y
              omega
            · rw [if_neg e3]; exact h4
  · induction a with
    | nil => intro b; cases b <;> simp [lexL]
    | cons x a ih =>
      intro b
      cases b with
      | nil => simp [lexL]
      | cons y b =>
        rw [lex_cons]
        split
        · exact ih b
        · exact h.rng x y
def lex2 {α β : Type} (f : α → α → Int) (g : β → β → Int) (a b : α × β) : Int := if f a.1 b.1 = 0 then g a.2 b.2 else f a.1 b.1
theorem cmp_lex2 {α β : Type} {f : α → α → Int} {g : β → β → Int} (h : IsCmp f) (k : IsCmp g) : IsCmp (lex2 f g) := by
  refine ⟨fun ⟨a, a'⟩ ⟨b, b'⟩ => ?_, fun ⟨a, a'⟩ ⟨b, b'⟩ e => ?_, fun ⟨a, a'⟩ ⟨b, b'⟩ ⟨c, c'⟩ h1 h2 => ?_, fun ⟨a, a'⟩ ⟨b, b'⟩ => ?_⟩
  · show (if f b a = 0 then g b' a' else f b a) = -(if f a b = 0 then g a' b' else f a b)
    rw [h.neg a b, k.neg a' b']
    by_cases e : f a b = 0
    · rw [if_pos (by omega), if_pos e]
    · rw [if_neg (by omega), if_neg e]
  · have e : (if f a b = 0 then g a' b' else f a b) = 0 := e
    by_cases e1 : f a b = 0
    · rw [if_pos e1] at e
      rw [h.eq a b e1, k.eq a' b' e]
    · rw [if_neg e1] at e; exact absurd e e1
  · replace h1 : (if f a b = 0 then g a' b' else f a b) ≤ 0 := h1
    replace h2 : (if f b c = 0 then g b' c' else f b c) ≤ 0 := h2
    show (if f a c = 0 then g a' c' else f a c) ≤ 0
    by_cases e1 : f a b = 0
    · rw [if_pos e1] at h1
      obtain rfl := h.eq a b e1
      by_cases e2 : f a c = 0
      · rw [if_pos e2] at h2 ⊢; exact k.le _ _ _ h1 h2
      · rw [if_neg e2] at h2 ⊢; exact h2
    · rw [if_neg e1] at h1
      have h3 : f b c ≤ 0 := by
        by_cases e2 : f b c = 0
        · omega
        · rw [if_neg e2] at h2; exact h2
      have h4 := h.le a b c h1 h3
      by_cases e3 : f a c = 0
      · obtain rfl := h.eq a c e3
        have := h.neg a b
        omega
      · rw [if_neg e3]; exact h4
  · show -1 ≤ (if f a b = 0 then g a' b' else f a b) ∧ (if f a b = 0 then g a' b' else f a b) ≤ 1
    split
    · exact k.rng a' b'
    · exact h.rng a b
theorem cmpL_lex : cmpL = lexL Lib.compareInt := by
  funext a
  induction a with
  | nil => funext b; cases b <;> rfl
  | cons x a ih => funext b; cases b with | nil => rfl | cons y b => show (if _ then cmpL a b else _) = _; rw [ih]; rfl
theorem ordL_lex : ordL = lexL cmpL := by
  funext a
  induction a with
  | nil => funext b; cases b <;> rfl
  | cons x a ih => funext b; cases b with | nil => rfl | cons y b => show (if _ then ordL a b else _) = _; rw [ih]; rfl
theorem cmp_ord : IsCmp (lex2 Lib.compareInt (lex2 Lib.compareInt ordL)) := cmp_lex2 cmp_int (cmp_lex2 cmp_int (by rw [ordL_lex, cmpL_lex]; exact cmp_lex (cmp_lex cmp_int)))
def MatV.key (m : MatV) : Int × Int × List (List Int) := (m.step, m.branch, m.L)
theorem ord_key (a b : MatV) : a.ord b = lex2 Lib.compareInt (lex2 Lib.compareInt ordL) a.key b.key := rfl
theorem ord_neg (a b : MatV) : b.ord a = - a.ord b := cmp_ord.neg a.key b.key
theorem ord_rng (a b : MatV) : -1 ≤ a.ord b ∧ a.ord b ≤ 1 := cmp_ord.rng a.key b.key
theorem ord_le (a b c : MatV) : a.ord b ≤ 0 → b.ord c ≤ 0 → a.ord c ≤ 0 := cmp_ord.le a.key b.key c.key
theorem ord_eq (a b : MatV) : a.ord b = 0 → a.key = b.key := cmp_ord.eq a.key b.key
theorem ord_self (a b : MatV) (h : a.key = b.key) : a.ord b = 0 := by rw [ord_key, h]; exact cmp_ord.refl _

end Go.Proofs.YtbopndepklafgaaDoor
