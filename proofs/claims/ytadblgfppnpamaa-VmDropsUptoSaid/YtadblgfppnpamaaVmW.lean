/- Layer 18: what is left fits, and tells the same; plain. No conditions. -/
import Derived.Test.YtadblgfppnpamaaVmQ2
namespace Go.Proofs.Ytadblgfppnpamaa
open Go.RowKit
set_option linter.unusedVariables false
set_option linter.unusedSimpArgs false

structure FitS (s : DropS) (n : Nat) : Prop where
  li : ∀ x ∈ s.li, x.fits
  lk : ∀ x ∈ s.lk, x.fits
  ll : ∀ x ∈ s.ll, x.fits
  n1 : s.li.length ≤ n
  n2 : s.lk.length ≤ n
  n3 : s.ll.length ≤ n
  bec : ∀ j, 0 ≤ s.bec j ∧ s.bec j ≤ n
theorem i64_small {n : Int} (h0 : 0 ≤ n) (h1 : n ≤ 1048577) : I64 n := by
  unfold I64
  omega
theorem i64_50 : I64 50 := by unfold I64; omega
theorem i64_51 : I64 51 := by unfold I64; omega
theorem i64_0 : I64 0 := by unfold I64; omega
theorem FitS.step {li : List InputV} {lk : List V} {i n : Nat} {x : InsV} {s : DropS} (h : FitS s n) (hn : n ≤ 1048575) (hi : ∀ y ∈ li, y.fits) (hk : ∀ y ∈ lk, y.fits) (hx : x.fits) : FitS (dropStep li lk i x s) (n + 1) := by
  have hb : 0 ≤ (if opnd x.op = 2 then s.bec x.b else 0) ∧ (if opnd x.op = 2 then s.bec x.b else 0) ≤ n := by
    split
    · exact h.bec _
    · omega
  have hbec : ∀ j, 0 ≤ updI s.bec i s.ll.length j ∧ updI s.bec i s.ll.length j ≤ ((n + 1 : Nat) : Int) := fun j => by
    unfold updI
    have := h.n3
    have := h.bec j
    split <;> omega
  have n3 := h.n3
  by_cases h50 : x.op = 50
  · have e : dropStep li lk i x s = ⟨(placeL sameI (li.getD x.a.toNat ⟨0, 0, 0, 0⟩) s.li).1, s.lk, s.ll ++ [⟨50, s.ll.length, (placeL sameI (li.getD x.a.toNat ⟨0, 0, 0, 0⟩) s.li).2, if opnd x.op = 2 then s.bec x.b else 0⟩], updI s.bec i s.ll.length⟩ := by
      unfold dropStep; simp only [if_pos h50]
    rw [e]
    have hz : (li.getD x.a.toNat ⟨0, 0, 0, 0⟩).fits := by
      rw [List.getD_eq_getElem?_getD]
      cases hq : li[x.a.toNat]? with
      | none => exact ⟨i64_small (by decide) (by decide), i64_small (by decide) (by decide), i64_small (by decide) (by decide), i64_small (by decide) (by decide)⟩
      | some y => exact hi y (List.mem_of_getElem? hq)
    have hl := placeL_len (same := sameI) (x := li.getD x.a.toNat ⟨0, 0, 0, 0⟩) (l := s.li)
    have n1 := h.n1
    refine ⟨placeL_mem hz h.li, h.lk, ?_, by show (placeL _ _ _).1.length ≤ _; omega, by have := h.n2; show s.lk.length ≤ _; omega, by show (s.ll ++ _).length ≤ _; simp; omega, hbec⟩
    intro y hy
    rcases List.mem_append.1 hy with hy | hy
    · exact h.ll y hy
    · simp only [List.mem_cons, List.not_mem_nil, or_false] at hy
      subst hy
      exact ⟨i64_50, i64_small (by show (0 : Int) ≤ (s.ll.length : Int); omega) (by show (s.ll.length : Int) ≤ _; omega), i64_small (by show (0 : Int) ≤ ((placeL _ _ _).2 : Nat); omega) (by show (((placeL _ _ _).2 : Nat) : Int) ≤ _; omega), i64_small hb.1 (by have := hb.2; show (if _ then _ else _ : Int) ≤ _; omega)⟩
  by_cases h51 : x.op = 51
  · have e : dropStep li lk i x s = ⟨s.li, (placeL sameV (lk.getD x.a.toNat none0) s.lk).1, s.ll ++ [⟨51, s.ll.length, (placeL sameV (lk.getD x.a.toNat none0) s.lk).2, if opnd x.op = 2 then s.bec x.b else 0⟩], updI s.bec i s.ll.length⟩ := by
      unfold dropStep; simp only [if_neg h50, if_pos h51]
    rw [e]
    have hz : (lk.getD x.a.toNat none0).fits := by
      rw [List.getD_eq_getElem?_getD]
      cases hq : lk[x.a.toNat]? with
      | none => exact (by decide : (0 : Nat) < 18446744073709551616)
      | some y => exact hk y (List.mem_of_getElem? hq)
    have hl := placeL_len (same := sameV) (x := lk.getD x.a.toNat none0) (l := s.lk)
    have n2 := h.n2
    refine ⟨h.li, placeL_mem hz h.lk, ?_, by have := h.n1; show s.li.length ≤ _; omega, by show (placeL _ _ _).1.length ≤ _; omega, by show (s.ll ++ _).length ≤ _; simp; omega, hbec⟩
    intro y hy
    rcases List.mem_append.1 hy with hy | hy
    · exact h.ll y hy
    · simp only [List.mem_cons, List.not_mem_nil, or_false] at hy
      subst hy
      exact ⟨i64_51, i64_small (by show (0 : Int) ≤ (s.ll.length : Int); omega) (by show (s.ll.length : Int) ≤ _; omega), i64_small (by show (0 : Int) ≤ ((placeL _ _ _).2 : Nat); omega) (by show (((placeL _ _ _).2 : Nat) : Int) ≤ _; omega), i64_small hb.1 (by have := hb.2; show (if _ then _ else _ : Int) ≤ _; omega)⟩
  · have e : dropStep li lk i x s = ⟨s.li, s.lk, s.ll ++ [⟨x.op, s.ll.length, s.bec x.a, if opnd x.op = 2 then s.bec x.b else 0⟩], updI s.bec i s.ll.length⟩ := by
      unfold dropStep; simp only [if_neg h50, if_neg h51]
    rw [e]
    have ha := h.bec x.a
    refine ⟨h.li, h.lk, ?_, by have := h.n1; show s.li.length ≤ _; omega, by have := h.n2; show s.lk.length ≤ _; omega, by show (s.ll ++ _).length ≤ _; simp; omega, hbec⟩
    intro y hy
    rcases List.mem_append.1 hy with hy | hy
    · exact h.ll y hy
    · simp only [List.mem_cons, List.not_mem_nil, or_false] at hy
      subst hy
      exact ⟨hx.1, i64_small (by show (0 : Int) ≤ (s.ll.length : Int); omega) (by show (s.ll.length : Int) ≤ _; omega), i64_small (by show 0 ≤ s.bec x.a; omega) (by show s.bec x.a ≤ _; omega), i64_small hb.1 (by have := hb.2; show (if _ then _ else _ : Int) ≤ _; omega)⟩
theorem FitS.more {s : DropS} {n m : Nat} (h : FitS s n) (hm : n ≤ m) : FitS s m := ⟨h.li, h.lk, h.ll, by have := h.n1; omega, by have := h.n2; omega, by have := h.n3; omega, fun j => by have := h.bec j; omega⟩
theorem fit_drop {li : List InputV} {lk : List V} {need : Int → Bool} (hi : ∀ y ∈ li, y.fits) (hk : ∀ y ∈ lk, y.fits) : ∀ (l : List InsV) (i n : Nat) (s : DropS), FitS s n → n + l.length ≤ 1048575 → (∀ x ∈ l, x.fits) → FitS (dropL li lk need l i s) (n + l.length)
  | [], _, _, _, h, _, _ => h
  | x :: l, i, n, s, h, hn, hx => by
    simp only [List.length_cons] at hn ⊢
    unfold dropL
    have := fit_drop (need := need) hi hk l (i + 1) (n + 1) (if need i = true then dropStep li lk i x s else s) (by
      split
      · exact h.step (by omega) hi hk (hx x (by simp))
      · exact h.more (by omega)) (by omega) (fun y hy => hx y (by simp [hy]))
    rwa [show n + 1 + l.length = n + (l.length + 1) by omega] at this
theorem dropF_fits {c : CodeV} (hi : ∀ y ∈ c.li, y.fits) (hk : ∀ y ∈ c.lk, y.fits) (hx : ∀ x ∈ c.ll, x.fits) (hl : c.ll.length ≤ 1024) : FitS (dropF c) c.ll.length := by
  have := fit_drop (need := needB c.ll c.ll.length (updB (fun _ => false) c.nr)) hi hk c.ll 0 0 ⟨[], [], [], fun _ => 0⟩ ⟨by simp, by simp, by simp, Nat.le_refl _, Nat.le_refl _, Nat.le_refl _, fun j => by simp⟩ (by omega) hx
  rwa [Nat.zero_add] at this
theorem lastZ_fits {l : List InsV} (h : ∀ x ∈ l, x.fits) : ∀ x ∈ lastZ l, x.fits := by
  intro x hx
  unfold lastZ at hx
  obtain ⟨i, hi, rfl⟩ := List.mem_iff_getElem.1 hx
  rw [List.getElem_modify]
  have hi' : i < l.length := by simpa using hi
  have := h l[i] (List.getElem_mem hi')
  split
  · exact ⟨this.1, i64_0, this.2.2.1, this.2.2.2⟩
  · exact this
theorem lookV_fits : ∀ {li : List InputV} {ins : List V} {x : InputV}, (∀ v ∈ ins, v.fits) → (lookV li ins x).fits
  | [], _, _, _ => (by decide : (0 : Nat) < 18446744073709551616)
  | y :: l, [], _, _ => (by decide : (0 : Nat) < 18446744073709551616)
  | y :: l, v :: r, x, h => by
    unfold lookV
    split
    · exact h v (by simp)
    · exact lookV_fits fun q hq => h q (by simp [hq])
/-- What the machine tells of what is left. -/
theorem left_tells {c d : CodeV} {nr : Nat} (h : PlainV c nr) (ho : Once c.li) (hl : c.ll.length ≤ 1024) (ins : List V) (h1 : d.nr = (((dropF c).ll.length - 1 : Nat) : Int)) (h2 : d.ns = 0) (h3 : d.lk = (dropF c).lk) (h4 : d.ll = lastZ (dropF c).ll) :
    runV c ins = runV d (leftL c.li ins (dropF c).li) := by
  obtain ⟨hd1, hd2, hd3⟩ := drop_tells h ho hl ins
  rw [hd3]
  unfold runV
  rw [h1, h2, h3, h4]
  have e1 : lim (((dropF c).ll.length - 1 : Nat) : Int) 1024 = (dropF c).ll.length - 1 := by unfold lim; omega
  rw [e1]
  rfl
end Go.Proofs.Ytadblgfppnpamaa
