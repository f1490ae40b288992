/- Layer 18: the document's way through the instructions, plain. No conditions. -/
import Derived.Test.YtadblgfppnpamaaVmJ
namespace Go.Proofs.Ytadblgfppnpamaa
open Go.RowKit
set_option linter.unusedVariables false
set_option linter.unusedSimpArgs false

/-- The document's way through the instructions. -/
def refL (nr ns : Int) (n1 n2 : Nat) : List InsV → (Int → Bool) → (Int → Bool) → Bool
  | [], _, _ => true
  | x :: l, f, g =>
    if (((decide (opnd x.op < 2) && (x.op != 53)) && (x.b != 0)) || ((x.op == 52) != l.isEmpty)) = true then false
    else if x.op = 52 then (readsL x).all f && (x.dst == 0)
    else if x.op = 53 then (((((readsL x).all f && (x.dst == 0)) && decide (0 ≤ x.a)) && decide (x.a < ns)) && f x.b) && refL nr ns n1 n2 l f (updB g x.a)
    else (((if x.op = 50 then ((readsL x).all f && decide (0 ≤ x.a)) && decide (x.a < (n1 : Nat)) else if x.op = 51 then ((readsL x).all f && decide (0 ≤ x.a)) && decide (x.a < (n2 : Nat)) else if x.op = 54 then (readsL x).all f && g x.a else (readsL x).all f && decide (0 < opnd x.op))
      && decide (0 ≤ x.dst)) && decide (x.dst < nr)) && refL nr ns n1 n2 l (updB f x.dst) g
theorem refL_good (nr ns : Int) (n1 n2 : Nat) : ∀ (l : List InsV) (f g : Int → Bool), refL nr ns n1 n2 l f g = goodL nr ns n1 n2 l f g
  | [], _, _ => rfl
  | x :: l, f, g => by
    rw [refL, goodL, refL_good nr ns n1 n2 l, refL_good nr ns n1 n2 l]
    generalize hE : l.isEmpty = E
    have hnil : E = true → ∀ f g, goodL nr ns n1 n2 l f g = true := by
      intro h f g
      rw [← hE, List.isEmpty_iff] at h
      subst h
      rfl
    obtain ⟨op, dst, a, b⟩ := x
    unfold rightB readsL
    simp only [bne]
    by_cases h52 : op = 52
    · subst h52
      have ho : opnd 52 = 0 := by decide
      have h1 : ¬ oneB 52 := by decide
      simp only [ho, h1]
      generalize (b == 0) = b0
      generalize (dst == 0) = d0
      cases E
      · cases b0 <;> cases d0 <;> cases hf : f a <;> simp [hf]
      · cases b0 <;> cases d0 <;> cases hf : f a <;> simp [hf, hnil rfl]
    by_cases h53 : op = 53
    · subst h53
      have ho : opnd 53 = 0 := by decide
      have h1 : ¬ oneB 53 := by decide
      simp only [ho, h1]
      generalize (b == 0) = b0
      generalize (dst == 0) = d0
      cases E <;> cases b0 <;> cases d0 <;> cases hf : f b <;> simp [hf]
    have e52 : (op == 52) = false := by rw [beq_eq_false_iff_ne]; exact h52
    have e53 : (op == 53) = false := by rw [beq_eq_false_iff_ne]; exact h53
    simp only [e52, e53, h52, h53, if_false, or_self]
    generalize goodL nr ns n1 n2 l _ _ = G
    generalize (b == 0) = b0
    generalize decide (0 ≤ dst) = d1
    generalize decide (dst < nr) = d2
    by_cases h50 : op = 50
    · subst h50
      have ho : opnd 50 = 0 := by decide
      have h1 : ¬ oneB 50 := by decide
      simp only [ho, h1]
      generalize decide (0 ≤ a) = a1
      generalize decide (a < (n1 : Int)) = a2
      cases E <;> cases b0 <;> cases d1 <;> cases d2 <;> cases a1 <;> cases a2 <;> cases G <;> rfl
    by_cases h51 : op = 51
    · subst h51
      have ho : opnd 51 = 0 := by decide
      have h1 : ¬ oneB 51 := by decide
      simp only [ho, h1]
      generalize decide (0 ≤ a) = a1
      generalize decide (a < (n2 : Int)) = a2
      cases E <;> cases b0 <;> cases d1 <;> cases d2 <;> cases a1 <;> cases a2 <;> cases G <;> rfl
    by_cases h54 : op = 54
    · subst h54
      have ho : opnd 54 = 0 := by decide
      have h1 : ¬ oneB 54 := by decide
      simp only [ho, h1]
      generalize g a = a1
      cases E <;> cases b0 <;> cases d1 <;> cases d2 <;> cases a1 <;> cases G <;> rfl
    simp only [h50, h51, h54, if_false]
    by_cases h1 : oneB op
    · have ho : opnd op = 1 := if_pos h1
      simp only [ho, h1, if_true, List.take, List.all, Bool.and_true]
      generalize f a = a1
      cases E <;> cases b0 <;> cases d1 <;> cases d2 <;> cases a1 <;> cases G <;> rfl
    simp only [h1, if_false]
    by_cases h2 : 1 ≤ op ∧ op ≤ 14
    · have ho : opnd op = 2 := (if_neg h1).trans (if_pos h2)
      have hl : decide (1 ≤ op) = true := decide_eq_true h2.1
      have hm : decide (op ≤ 14) = true := decide_eq_true h2.2
      simp only [ho, hl, hm, List.take, List.all, Bool.and_true]
      generalize f a = a1
      generalize f b = a2
      cases E <;> cases b0 <;> cases d1 <;> cases d2 <;> cases a1 <;> cases a2 <;> cases G <;> rfl
    · have ho : opnd op = 0 := (if_neg h1).trans (if_neg h2)
      have hl : (decide (1 ≤ op) && decide (op ≤ 14)) = false := by
        rw [Bool.eq_false_iff]
        intro h
        rw [Bool.and_eq_true, decide_eq_true_eq, decide_eq_true_eq] at h
        exact h2 h
      rw [hl]
      simp only [ho, List.take, List.all, Bool.and_true]
      cases E <;> cases b0 <;> cases d1 <;> cases d2 <;> cases G <;> rfl
end Go.Proofs.Ytadblgfppnpamaa
