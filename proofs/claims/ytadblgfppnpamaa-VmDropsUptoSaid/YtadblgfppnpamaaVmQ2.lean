/- Layer 18: what is left of plain code tells the same; plain. No conditions. -/
import Derived.Test.YtadblgfppnpamaaVmQ
namespace Go.Proofs.Ytadblgfppnpamaa
open Go.RowKit
set_option linter.unusedVariables false
set_option linter.unusedSimpArgs false

theorem takeL_set_same {l : List V} {i : Nat} {v : V} (h : i < l.length) (hv : clean v = v) : takeL (setL l i v) i = v := by
  have hs : setL l i v = l.set i v := by unfold setL; rw [if_pos (by omega)]; simp
  rw [hs]
  unfold takeL
  rw [List.length_set, if_pos (by omega)]
  simp [h, hv]
theorem takeL_set_other {l : List V} {i j : Int} {v : V} (h : j ≠ i) : takeL (setL l i v) j = takeL l j := by
  unfold takeL setL
  by_cases hi : 0 ≤ i ∧ i < l.length
  · rw [if_pos hi, List.length_set]
    by_cases hj : 0 ≤ j ∧ j < l.length
    · rw [if_pos hj, if_pos hj, List.getD_eq_getElem?_getD, List.getD_eq_getElem?_getD, List.getElem?_set_ne (by omega)]
    · rw [if_neg hj, if_neg hj]
  · rw [if_neg hi]
/-- What an instruction of plain code makes. -/
def makeV (ins ks : List V) (x : InsV) (r : List V) : V :=
  if x.op = 50 then takeL ins x.a else if x.op = 51 then takeL ks x.a else if oneB x.op then applyV x.op [takeL r x.a] else applyV x.op [takeL r x.a, takeL r x.b]
theorem makeV_clean (ins ks : List V) (x : InsV) (r : List V) : clean (makeV ins ks x r) = makeV ins ks x r := by
  unfold makeV
  repeat' split
  · exact take_clean _ _
  · exact take_clean _ _
  · exact apply_clean _ _
  · exact apply_clean _ _
theorem step_make {ins ks : List V} {x : InsV} {r : List V} (h : opnd x.op = 0 → x.op = 50 ∨ x.op = 51 ∨ x.op = 52) (h52 : x.op ≠ 52) : stepM ins ks x (r, []) = (setL r x.dst (makeV ins ks x r), []) := by
  unfold stepM makeV
  by_cases h50 : x.op = 50
  · rw [if_pos h50, if_pos h50]
  by_cases h51 : x.op = 51
  · rw [if_neg h50, if_pos h51, if_neg h50, if_pos h51]
  have h53 : x.op ≠ 53 := fun e => by have := h (by rw [e, opnd53]); omega
  have h54 : x.op ≠ 54 := fun e => by have := h (by rw [e, opnd54]); omega
  rw [if_neg h50, if_neg h51, if_neg h53, if_neg h54, if_neg h50, if_neg h51]
  by_cases h1 : oneB x.op
  · rw [if_pos h1, if_pos h1]
  · by_cases h2 : 1 ≤ x.op ∧ x.op ≤ 14
    · rw [if_neg h1, if_pos h2, if_neg h1]
    · have := h (opnd_none h1 h2); omega
theorem dropStep_ll (li : List InputV) (lk : List V) (i : Nat) (x : InsV) (s : DropS) : ∃ y : InsV, (dropStep li lk i x s).ll = s.ll ++ [y] ∧ y.op = x.op ∧ y.dst = s.ll.length ∧ (dropStep li lk i x s).bec = updI s.bec i s.ll.length ∧ s.li <+: (dropStep li lk i x s).li ∧ s.lk <+: (dropStep li lk i x s).lk := by
  by_cases h50 : x.op = 50
  · have e : dropStep li lk i x s = ⟨(placeL sameI (li.getD x.a.toNat ⟨0, 0, 0, 0⟩) s.li).1, s.lk, s.ll ++ [⟨50, s.ll.length, (placeL sameI (li.getD x.a.toNat ⟨0, 0, 0, 0⟩) s.li).2, if opnd x.op = 2 then s.bec x.b else 0⟩], updI s.bec i s.ll.length⟩ := by
      unfold dropStep; simp only [if_pos h50]
    rw [e]
    exact ⟨_, rfl, h50.symm, rfl, rfl, placeL_pre, List.prefix_rfl⟩
  by_cases h51 : x.op = 51
  · have e : dropStep li lk i x s = ⟨s.li, (placeL sameV (lk.getD x.a.toNat none0) s.lk).1, s.ll ++ [⟨51, s.ll.length, (placeL sameV (lk.getD x.a.toNat none0) s.lk).2, if opnd x.op = 2 then s.bec x.b else 0⟩], updI s.bec i s.ll.length⟩ := by
      unfold dropStep; simp only [if_neg h50, if_pos h51]
    rw [e]
    exact ⟨_, rfl, h51.symm, rfl, rfl, List.prefix_rfl, placeL_pre⟩
  · have e : dropStep li lk i x s = ⟨s.li, s.lk, s.ll ++ [⟨x.op, s.ll.length, s.bec x.a, if opnd x.op = 2 then s.bec x.b else 0⟩], updI s.bec i s.ll.length⟩ := by
      unfold dropStep; simp only [if_neg h50, if_neg h51]
    rw [e]
    exact ⟨_, rfl, rfl, rfl, rfl, List.prefix_rfl, List.prefix_rfl⟩
theorem dropL_grow (li : List InputV) (lk : List V) (need : Int → Bool) : ∀ (l : List InsV) (i : Nat) (s : DropS), s.ll.length ≤ (dropL li lk need l i s).ll.length ∧ s.li <+: (dropL li lk need l i s).li ∧ s.lk <+: (dropL li lk need l i s).lk
  | [], _, s => ⟨Nat.le_refl _, List.prefix_rfl, List.prefix_rfl⟩
  | x :: l, i, s => by
    unfold dropL
    have h := dropL_grow li lk need l (i + 1) (if need i = true then dropStep li lk i x s else s)
    split at h <;> rename_i hn
    · rw [if_pos hn]
      obtain ⟨y, h1, _, _, _, h5, h6⟩ := dropStep_ll li lk i x s
      rw [h1] at h
      simp only [List.length_append, List.length_cons, List.length_nil] at h
      exact ⟨by omega, h5.trans h.2.1, h6.trans h.2.2⟩
    · rw [if_neg hn]; exact h
theorem dropL_more (li : List InputV) (lk : List V) (need : Int → Bool) {nr : Nat} (hn : need nr = true) : ∀ (l : List InsV) (i : Nat) (s : DropS), i ≤ nr → i + l.length = nr + 1 → s.ll.length + 1 ≤ (dropL li lk need l i s).ll.length
  | [], i, s, h1, h2 => by simp at h2; omega
  | x :: l, i, s, h1, h2 => by
    simp only [List.length_cons] at h2
    unfold dropL
    by_cases hni : need i = true
    · rw [if_pos hni]
      obtain ⟨y, h3, _⟩ := dropStep_ll li lk i x s
      have := (dropL_grow li lk need l (i + 1) (dropStep li lk i x s)).1
      rw [h3] at this
      simpa using this
    · rw [if_neg hni]
      have hne : i ≠ nr := fun e => hni (by rw [e]; exact hn)
      exact dropL_more li lk need hn l (i + 1) s (by omega) (by omega)
theorem pre_get {α : Type} {l l' : List α} (h : l <+: l') {i : Nat} {x : α} (hx : l[i]? = some x) : l'[i]? = some x := by
  obtain ⟨t, rfl⟩ := h
  rw [List.getElem?_append_left (List.getElem?_eq_some_iff.1 hx).1]; exact hx
theorem takeL_get {l l' : List V} {i j : Int} (hi : 0 ≤ i) (hj : 0 ≤ j) (h : (l[i.toNat]?).map clean = (l'[j.toNat]?).map clean) : takeL l i = takeL l' j := by
  unfold takeL
  by_cases h1 : i.toNat < l.length
  · have h2 : j.toNat < l'.length := by
      rw [List.getElem?_eq_getElem h1] at h
      by_cases h2 : j.toNat < l'.length
      · exact h2
      · rw [List.getElem?_eq_none (by omega)] at h; cases h
    rw [if_pos (by omega), if_pos (by omega), List.getD_eq_getElem?_getD, List.getD_eq_getElem?_getD]
    rw [List.getElem?_eq_getElem h1, List.getElem?_eq_getElem h2] at h ⊢
    simpa using h
  · have h2 : ¬ j.toNat < l'.length := fun h2 => by
      rw [List.getElem?_eq_none (l := l) (by omega), List.getElem?_eq_getElem h2] at h; cases h
    rw [if_neg (by omega), if_neg (by omega)]

/-- No input there twice. -/
def Once (li : List InputV) : Prop := ∀ (i k : Nat) (x : InputV), li[i]? = some x → li[k]? = some x → i = k
theorem lookV_at : ∀ {li : List InputV} {ins : List V}, Once li → ∀ {a : Nat} {x : InputV}, li[a]? = some x → lookV li ins x = (ins[a]?).getD none0
  | [], _, _, a, x, h => by simp at h
  | y :: l, [], _, a, x, h => by cases a <;> simp [lookV]
  | y :: l, v :: r, ho, a, x, h => by
    unfold lookV
    by_cases hs : sameI y x = true
    · rw [if_pos hs]
      have := ho 0 a x (by rw [List.getElem?_cons_zero, sameI_eq.1 hs]) h
      subst this
      rfl
    · rw [if_neg hs]
      cases a with
      | zero =>
        injection h with h
        exact absurd (sameI_eq.2 h) hs
      | succ a =>
        have ho' : Once l := fun i k z hi hk => by
          have := ho (i + 1) (k + 1) z (by simpa using hi) (by simpa using hk)
          omega
        simpa using lookV_at ho' (a := a) (x := x) (by simpa using h)
def leftL (li : List InputV) (ins : List V) (li' : List InputV) : List V := li'.map (lookV li ins)

/-- The registers that are needed tell the same. -/
def Sim (need : Int → Bool) (i : Nat) (s : DropS) (r r' : List V) : Prop := ∀ j : Nat, j < i → need j = true → 0 ≤ s.bec j ∧ s.bec j < s.ll.length ∧ takeL r j = takeL r' (s.bec j)

theorem make_drop {li : List InputV} {lk ins : List V} (ho : Once li) {n1 n2 nr i : Nat} {x y : InsV} {need : Int → Bool} {s : DropS} {r r' : List V} (hp : PlainP n1 n2 nr i x) (h1 : n1 = li.length) (h2 : n2 = lk.length) (h52 : x.op ≠ 52)
    (hcl : ∀ q ∈ readsL x, need q = true) (hs : Sim need i s r r') (hy : (dropStep li lk i x s).ll = s.ll ++ [y]) {liF : List InputV} {lkF : List V} (hF1 : (dropStep li lk i x s).li <+: liF) (hF2 : (dropStep li lk i x s).lk <+: lkF) :
    makeV (leftL li ins liF) lkF y r' = makeV ins lk x r := by
  have hreg : ∀ q ∈ readsL x, takeL r' (s.bec q) = takeL r q := fun q hq => by
    obtain ⟨q0, q1⟩ := plain_reads hp q hq
    have := hs q.toNat (by omega) (by rw [Int.toNat_of_nonneg q0]; exact hcl q hq)
    rw [Int.toNat_of_nonneg q0] at this
    exact this.2.2.symm
  unfold dropStep at hy hF1 hF2
  by_cases h50 : x.op = 50
  · simp only [if_pos h50] at hy hF1 hF2
    have hy := List.append_cancel_left hy
    injection hy with hy
    subst hy
    unfold makeV
    rw [if_pos h50]
    simp only [if_true]
    have ha := hp.ina h50
    have ha0 := hp.ap
    have hat : li[x.a.toNat]? = some (li.getD x.a.toNat ⟨0, 0, 0, 0⟩) := by
      rw [List.getD_eq_getElem?_getD, List.getElem?_eq_getElem (by omega)]; rfl
    have hq := pre_get hF1 (placeL_at (fun _ _ => sameI_eq) (x := li.getD x.a.toNat ⟨0, 0, 0, 0⟩) (l := s.li))
    generalize (placeL sameI (li.getD x.a.toNat ⟨0, 0, 0, 0⟩) s.li).2 = q at *
    have hlook := lookV_at ho (ins := ins) hat
    generalize li.getD x.a.toNat ⟨0, 0, 0, 0⟩ = z at *
    have hl : (leftL li ins liF)[q]? = some ((ins[x.a.toNat]?).getD none0) := by
      unfold leftL
      rw [List.getElem?_map, hq, Option.map_some, hlook]
    unfold takeL
    have hlt := (List.getElem?_eq_some_iff.1 hl).1
    rw [if_pos (by omega), Int.toNat_natCast, List.getD_eq_getElem?_getD, hl]
    by_cases hb : x.a.toNat < ins.length
    · rw [if_pos (by omega), List.getD_eq_getElem?_getD]; rfl
    · rw [if_neg (by omega), List.getElem?_eq_none (by omega)]
      exact clean_none0
  by_cases h51 : x.op = 51
  · simp only [if_neg h50, if_pos h51] at hy hF1 hF2
    have hy := List.append_cancel_left hy
    injection hy with hy
    subst hy
    unfold makeV
    rw [if_neg h50, if_pos h51]
    simp only [show ¬ (51 : Int) = 50 by omega, if_false, if_true]
    have ha := hp.ka h51
    have ha0 := hp.ap
    have hat : lk[x.a.toNat]? = some (lk.getD x.a.toNat none0) := by
      rw [List.getD_eq_getElem?_getD, List.getElem?_eq_getElem (by omega)]; rfl
    have hq := pre_get hF2 (placeL_at (fun _ _ => sameV_eq) (x := lk.getD x.a.toNat none0) (l := s.lk))
    exact takeL_get (by omega) ha0 (by rw [Int.toNat_natCast, hq, hat])
  simp only [if_neg h50, if_neg h51] at hy
  have hy := List.append_cancel_left hy
  injection hy with hy
  subst hy
  unfold makeV
  rw [if_neg h50, if_neg h51]
  simp only [h50, h51, if_false]
  by_cases hone : oneB x.op
  · have hrd : readsL x = [x.a] := by unfold readsL; rw [if_neg h52, opnd_one hone]; rfl
    rw [if_pos hone, if_pos hone, hreg x.a (by rw [hrd]; simp)]
  · have h2' : 1 ≤ x.op ∧ x.op ≤ 14 := by
      by_cases h : 1 ≤ x.op ∧ x.op ≤ 14
      · exact h
      · have := hp.known (opnd_none hone h); omega
    have hrd : readsL x = [x.a, x.b] := by unfold readsL; rw [if_neg h52, opnd_two hone h2']; rfl
    rw [if_neg hone, if_neg hone, if_pos (opnd_two hone h2'), hreg x.a (by rw [hrd]; simp), hreg x.b (by rw [hrd]; simp)]
theorem sim_run {li : List InputV} {lk ins : List V} (ho : Once li) {nr : Nat} {need : Int → Bool} (hnr : need nr = true) : ∀ (l : List InsV) (i : Nat) (s : DropS) (r r' : List V),
    (∀ (j : Nat) (x : InsV), l[j]? = some x → PlainP li.length lk.length nr (i + j) x) → (∀ (j : Nat) (x : InsV), l[j]? = some x → need ((i + j : Nat) : Int) = true → ∀ q ∈ readsL x, need q = true) →
    i + l.length = nr + 1 → r.length = nr → Sim need i s r r' → r'.length + 1 = (dropL li lk need l i s).ll.length →
    ∃ tail, (dropL li lk need l i s).ll = s.ll ++ tail ∧ runM ins lk l (r, []) = runM (leftL li ins (dropL li lk need l i s).li) (dropL li lk need l i s).lk tail (r', [])
  | [], i, s, r, r', _, _, _, _, _, _ => ⟨[], by simp [dropL], rfl⟩
  | x :: l, i, s, r, r', hp, hc, hlen, hr, hs, hr' => by
    have hx := hp 0 x rfl
    have hcx := hc 0 x rfl
    rw [Nat.add_zero] at hx hcx
    simp only [List.length_cons] at hlen
    have hp' : ∀ (j : Nat) (x : InsV), l[j]? = some x → PlainP li.length lk.length nr (i + 1 + j) x := fun j y hy => by
      have := hp (j + 1) y (by simpa using hy)
      rwa [show i + (j + 1) = i + 1 + j by omega] at this
    have hc' : ∀ (j : Nat) (x : InsV), l[j]? = some x → need ((i + 1 + j : Nat) : Int) = true → ∀ q ∈ readsL x, need q = true := fun j y hy => by
      have := hc (j + 1) y (by simpa using hy)
      rwa [show i + (j + 1) = i + 1 + j by omega] at this
    unfold dropL at hr' ⊢
    by_cases hn : need i = true
    · rw [if_pos hn] at hr' ⊢
      obtain ⟨y, hy, hyo, hyd, hyb, _, _⟩ := dropStep_ll li lk i x s
      obtain ⟨hg1, hg2, hg3⟩ := dropL_grow li lk need l (i + 1) (dropStep li lk i x s)
      by_cases h52 : x.op = 52
      · have he := hx.tell.1 h52
        obtain rfl : l = [] := List.eq_nil_of_length_eq_zero (by omega)
        refine ⟨[y], by unfold dropL; exact hy, ?_⟩
        unfold runM
        rw [if_pos h52, if_pos (hyo.trans h52)]
        show takeL r x.a = takeL r' y.a
        have hya : y.a = s.bec x.a := by
          unfold dropStep at hy
          simp only [if_neg (show x.op ≠ 50 by omega), if_neg (show x.op ≠ 51 by omega)] at hy
          have := List.append_cancel_left hy
          injection this with this
          rw [← this]
        rw [hya]
        have hap := hx.ap
        have := hs x.a.toNat (by have := hx.ta he; omega) (by rw [Int.toNat_of_nonneg hap]; exact hcx hn x.a (by unfold readsL; rw [if_pos h52]; simp))
        rw [Int.toNat_of_nonneg hap] at this
        exact this.2.2
      · have hne : i ≠ nr := fun e => h52 (hx.tell.2 e)
        have hmk := make_drop (ins := ins) ho hx rfl rfl h52 (hcx hn) hs hy hg2 hg3
        have hmore := dropL_more li lk need hnr l (i + 1) (dropStep li lk i x s) (by omega) (by omega)
        rw [hy] at hmore
        simp only [List.length_append, List.length_cons, List.length_nil] at hmore
        have hcl := makeV_clean ins lk x r
        have hsim : Sim need (i + 1) (dropStep li lk i x s) (setL r i (makeV ins lk x r)) (setL r' (s.ll.length : Nat) (makeV ins lk x r)) := by
          intro j hj hnj
          rw [hyb, hy]
          simp only [List.length_append, List.length_cons, List.length_nil]
          by_cases hji : j = i
          · subst hji
            rw [show updI s.bec j s.ll.length j = s.ll.length from if_pos rfl, takeL_set_same (by omega) hcl, takeL_set_same (by omega) hcl]
            exact ⟨by omega, by omega, rfl⟩
          · obtain ⟨b0, b1, b2⟩ := hs j (by omega) hnj
            rw [show updI s.bec i s.ll.length j = s.bec j from if_neg (by omega), takeL_set_other (by omega), takeL_set_other (by omega)]
            exact ⟨b0, by omega, b2⟩
        obtain ⟨tail, ht1, ht2⟩ := sim_run ho hnr l (i + 1) (dropStep li lk i x s) (setL r i (makeV ins lk x r)) (setL r' (s.ll.length : Nat) (makeV ins lk x r)) hp' hc' (by omega) (by rw [setL_len]; exact hr) hsim (by rw [setL_len]; exact hr')
        refine ⟨y :: tail, by rw [ht1, hy]; simp, ?_⟩
        rw [show runM ins lk (x :: l) (r, []) = runM ins lk l (stepM ins lk x (r, [])) from if_neg h52, step_make hx.known h52, hx.dst hne, ht2]
        have hkn : opnd y.op = 0 → y.op = 50 ∨ y.op = 51 ∨ y.op = 52 := by rw [hyo]; exact hx.known
        rw [show ∀ a b, runM a b (y :: tail) (r', []) = runM a b tail (stepM a b y (r', [])) from fun a b => if_neg (by rw [hyo]; exact h52), step_make hkn (by rw [hyo]; exact h52), hmk, hyd]
    · rw [if_neg hn] at hr' ⊢
      have hne : i ≠ nr := fun e => hn (by rw [e]; exact hnr)
      have h52 : x.op ≠ 52 := fun e => hne (hx.tell.1 e)
      have hsim : Sim need (i + 1) s (setL r i (makeV ins lk x r)) r' := by
        intro j hj hnj
        have hji : j ≠ i := fun e => hn (by rw [← e]; exact hnj)
        obtain ⟨b0, b1, b2⟩ := hs j (by omega) hnj
        rw [takeL_set_other (by omega)]
        exact ⟨b0, b1, b2⟩
      obtain ⟨tail, ht1, ht2⟩ := sim_run ho hnr l (i + 1) s (setL r i (makeV ins lk x r)) r' hp' hc' (by omega) (by rw [setL_len]; exact hr) hsim hr'
      refine ⟨tail, ht1, ?_⟩
      rw [show runM ins lk (x :: l) (r, []) = runM ins lk l (stepM ins lk x (r, [])) from if_neg h52, step_make hx.known h52, hx.dst hne, ht2]

/-- The last one writes nowhere. -/
def lastZ (l : List InsV) : List InsV := l.modify (l.length - 1) fun x => { x with dst := 0 }
theorem run_lastZ (ins ks : List V) : ∀ (l : List InsV) (p : List V × List V), (∀ x, l[l.length - 1]? = some x → x.op = 52) → runM ins ks (lastZ l) p = runM ins ks l p
  | [], _, _ => rfl
  | [x], p, h => by
    have := h x rfl
    show runM ins ks [{ x with dst := 0 }] p = runM ins ks [x] p
    unfold runM
    rw [if_pos this, if_pos this]
  | x :: y :: l, p, h => by
    have e : lastZ (x :: y :: l) = x :: lastZ (y :: l) := by
      unfold lastZ
      rw [show (x :: y :: l).length - 1 = ((y :: l).length - 1) + 1 by simp, List.modify_succ_cons]
    rw [e]
    unfold runM
    split
    · rfl
    · exact run_lastZ ins ks (y :: l) _ (fun z hz => h z (by simpa using hz))
def dropF (c : CodeV) : DropS := dropL c.li c.lk (needB c.ll (c.ll.length) (updB (fun _ => false) c.nr)) c.ll 0 ⟨[], [], [], fun _ => 0⟩
theorem dropL_last {li : List InputV} {lk : List V} {need : Int → Bool} {nr : Nat} (hn : need nr = true) : ∀ (l : List InsV) (i : Nat) (s : DropS), i ≤ nr → i + l.length = nr + 1 → (∀ x, l[l.length - 1]? = some x → x.op = 52) → ∀ x, (dropL li lk need l i s).ll[(dropL li lk need l i s).ll.length - 1]? = some x → x.op = 52
  | [], i, s, h1, h2, _ => by simp at h2; omega
  | [x], i, s, h1, h2, hl => by
    intro y hy
    simp only [List.length_cons, List.length_nil] at h2
    obtain rfl : i = nr := by omega
    unfold dropL at hy
    rw [if_pos hn] at hy
    unfold dropL at hy
    obtain ⟨z, h3, h4, _⟩ := dropStep_ll li lk i x s
    rw [h3] at hy
    simp at hy
    rw [← hy, h4]
    exact hl x rfl
  | x :: z :: l, i, s, h1, h2, hl => by
    simp only [List.length_cons] at h2
    unfold dropL
    exact dropL_last hn (z :: l) (i + 1) _ (by omega) (by simp; omega) (fun q hq => hl q (by simpa using hq))
theorem need_top {ll : List InsV} (hr : ∀ (i : Nat) (x : InsV), ll[i]? = some x → ∀ r ∈ readsL x, r < i) {nr : Nat} (hl : ll.length = nr + 1) : needB ll ll.length (updB (fun _ => false) (nr : Nat)) (nr : Nat) = true := by
  rw [hl]
  exact need_mono _ (by unfold updB; simp)
theorem drop_tells {c : CodeV} {nr : Nat} (h : PlainV c nr) (ho : Once c.li) (hl : c.ll.length ≤ 1024) (ins : List V) : 1 ≤ (dropF c).ll.length ∧ (dropF c).ll.length ≤ c.ll.length ∧
    runV c ins = runM (leftL c.li ins (dropF c).li) (dropF c).lk (lastZ (dropF c).ll) (List.replicate ((dropF c).ll.length - 1) none0, []) := by
  have hr : ∀ (i : Nat) (x : InsV), c.ll[i]? = some x → ∀ r ∈ readsL x, r < i := fun i x hx r hm => (plain_reads (h.hall i x hx) r hm).2
  have hn : needB c.ll c.ll.length (updB (fun _ => false) c.nr) (nr : Nat) = true := by rw [h.hnr]; exact need_top hr h.hlen
  have hcl := need_closed hr c.ll.length (updB (fun _ => false) c.nr)
  have hlen := h.hlen
  have hF : dropF c = dropL c.li c.lk (needB c.ll (c.ll.length) (updB (fun _ => false) c.nr)) c.ll 0 ⟨[], [], [], fun _ => 0⟩ := rfl
  generalize needB c.ll c.ll.length (updB (fun _ => false) c.nr) = need at *
  have hmore := dropL_more c.li c.lk need hn c.ll 0 ⟨[], [], [], fun _ => 0⟩ (by omega) (by omega)
  rw [← hF] at hmore
  simp only [List.length_nil, Nat.zero_add] at hmore
  have hup : ∀ (l : List InsV) (i : Nat) (s : DropS), (dropL c.li c.lk need l i s).ll.length ≤ s.ll.length + l.length := by
    intro l
    induction l with
    | nil => intro i s; simp [dropL]
    | cons x l ih =>
      intro i s
      unfold dropL
      refine Nat.le_trans (ih _ _) ?_
      split
      · obtain ⟨y, h3, _⟩ := dropStep_ll c.li c.lk i x s
        rw [h3]
        simp only [List.length_append, List.length_cons, List.length_nil]
        omega
      · simp only [List.length_cons]
        omega
  refine ⟨hmore, by rw [hF]; simpa using hup c.ll 0 ⟨[], [], [], fun _ => 0⟩, ?_⟩
  have hlast : ∀ x, c.ll[c.ll.length - 1]? = some x → x.op = 52 := fun x hx => by
    have := (h.hall _ x hx).tell.2 (by omega)
    exact this
  obtain ⟨tail, ht1, ht2⟩ := sim_run (ins := ins) ho hn c.ll 0 ⟨[], [], [], fun _ => 0⟩ (List.replicate nr none0) (List.replicate ((dropF c).ll.length - 1) none0) (fun j x hx => by rw [Nat.zero_add]; exact h.hall j x hx)
    (fun j x hx hnj q hq => by rw [Nat.zero_add] at hnj; exact hcl j (List.getElem?_eq_some_iff.1 hx).1 hnj x hx q hq) (by omega) (by simp) (fun j hj => by omega) (by rw [← hF]; simp; omega)
  rw [← hF] at ht1 ht2
  simp only [List.nil_append] at ht1
  have hlim : lim c.nr 1024 = nr := by unfold lim; rw [h.hnr]; omega
  have hlim0 : lim c.ns 256 = 0 := by unfold lim; rw [h.hns]; rfl
  unfold runV
  rw [hlim, hlim0, List.replicate_zero, ht2, run_lastZ _ _ _ _ (by rw [hF]; exact dropL_last hn c.ll 0 _ (by omega) (by omega) hlast), ht1]
end Go.Proofs.Ytadblgfppnpamaa
