/- Layer 18: plain code, and what is left of it without what nothing hangs on; plain. No conditions. -/
import Derived.Test.YtadblgfppnpamaaVmI
import Derived.Test.YtadblgfppnpamaaVmJ
namespace Go.Proofs.Ytadblgfppnpamaa
open Go.RowKit
set_option linter.unusedVariables false
set_option linter.unusedSimpArgs false

/-- What an instruction of plain code is like. -/
structure PlainP (n1 n2 nr i : Nat) (x : InsV) : Prop where
  tell : x.op = 52 ↔ i = nr
  dst : i ≠ nr → x.dst = i
  dst0 : i = nr → x.dst = 0
  b0 : opnd x.op < 2 → x.b = 0
  ap : 0 ≤ x.a
  bp : 0 ≤ x.b
  regs : 0 < opnd x.op → x.a < i ∧ x.b < i
  ta : i = nr → x.a < i
  ina : x.op = 50 → x.a < n1
  ka : x.op = 51 → x.a < n2
  known : opnd x.op = 0 → x.op = 50 ∨ x.op = 51 ∨ x.op = 52
structure PlainV (c : CodeV) (nr : Nat) : Prop where
  hnr : c.nr = nr
  hns : c.ns = 0
  hpos : 1 ≤ nr
  hlen : c.ll.length = nr + 1
  hall : ∀ (i : Nat) (x : InsV), c.ll[i]? = some x → PlainP c.li.length c.lk.length nr i x

theorem opnd50 : opnd 50 = 0 := by decide
theorem opnd51 : opnd 51 = 0 := by decide
theorem opnd52 : opnd 52 = 0 := by decide
theorem opnd53 : opnd 53 = 0 := by decide
theorem opnd54 : opnd 54 = 0 := by decide
theorem opnd_one {op : Int} (h : oneB op) : opnd op = 1 := if_pos h
theorem opnd_two {op : Int} (h : ¬ oneB op) (h2 : 1 ≤ op ∧ op ≤ 14) : opnd op = 2 := by unfold opnd; rw [if_neg h, if_pos h2]
theorem opnd_none {op : Int} (h : ¬ oneB op) (h2 : ¬ (1 ≤ op ∧ op ≤ 14)) : opnd op = 0 := by unfold opnd; rw [if_neg h, if_neg h2]

theorem plain_right {n1 n2 nr i : Nat} {x : InsV} {f g : Int → Bool} (h : PlainP n1 n2 nr i x) (hi : i ≤ nr) (hf : ∀ j : Int, 0 ≤ j → j < i → f j = true) : rightB nr 0 n1 n2 x f g = true := by
  unfold rightB
  by_cases h50 : x.op = 50
  · have hne : i ≠ nr := fun e => by have := h.tell.2 e; omega
    have hd := h.dst hne
    have hb := h.b0 (by rw [h50, opnd50]; omega)
    have ha := h.ina h50
    have hp := h.ap
    rw [if_pos h50]
    simp only [Bool.and_eq_true, decide_eq_true_eq, beq_iff_eq]
    omega
  by_cases h51 : x.op = 51
  · have hne : i ≠ nr := fun e => by have := h.tell.2 e; omega
    have hd := h.dst hne
    have hb := h.b0 (by rw [h51, opnd51]; omega)
    have ha := h.ka h51
    have hp := h.ap
    rw [if_neg h50, if_pos h51]
    simp only [Bool.and_eq_true, decide_eq_true_eq, beq_iff_eq]
    omega
  by_cases h53 : x.op = 53
  · have := h.known (by rw [h53, opnd53]); omega
  by_cases h54 : x.op = 54
  · have := h.known (by rw [h54, opnd54]); omega
  rw [if_neg h50, if_neg h51, if_neg h53, if_neg h54]
  by_cases h52 : x.op = 52
  · have he := h.tell.1 h52
    have hd := h.dst0 he
    have hb := h.b0 (by rw [h52, opnd52]; omega)
    rw [if_pos h52]
    simp only [Bool.and_eq_true, decide_eq_true_eq, beq_iff_eq]
    exact ⟨⟨hd, hb⟩, hf _ h.ap (h.ta he)⟩
  have hne : i ≠ nr := fun e => h52 (h.tell.2 e)
  have hd := h.dst hne
  rw [if_neg h52]
  by_cases h1 : oneB x.op
  · have hb := h.b0 (by rw [opnd_one h1]; omega)
    have ha := (h.regs (by rw [opnd_one h1]; omega)).1
    rw [if_pos h1]
    simp only [Bool.and_eq_true, decide_eq_true_eq, beq_iff_eq]
    exact ⟨⟨by omega, hb⟩, hf _ h.ap ha⟩
  · by_cases h2 : 1 ≤ x.op ∧ x.op ≤ 14
    · have hr := h.regs (by rw [opnd_two h1 h2]; omega)
      rw [if_neg h1]
      simp only [Bool.and_eq_true, decide_eq_true_eq, beq_iff_eq]
      exact ⟨⟨⟨⟨h2.1, h2.2⟩, by omega⟩, hf _ h.ap hr.1⟩, hf _ h.bp hr.2⟩
    · have := h.known (opnd_none h1 h2); omega
theorem plain_goodL {n1 n2 nr : Nat} : ∀ (l : List InsV) (i : Nat) (f g : Int → Bool), (∀ (j : Nat) (x : InsV), l[j]? = some x → PlainP n1 n2 nr (i + j) x) → i + l.length = nr + 1 → (∀ j : Int, 0 ≤ j → j < i → f j = true) → goodL nr 0 n1 n2 l f g = true
  | [], _, _, _, _, _, _ => rfl
  | x :: l, i, f, g, h, hl, hf => by
    have hx := h 0 x rfl
    rw [Nat.add_zero] at hx
    simp only [List.length_cons] at hl
    unfold goodL
    rw [plain_right hx (by omega) hf, Bool.true_and]
    by_cases h52 : x.op = 52
    · have he := hx.tell.1 h52
      obtain rfl : l = [] := List.eq_nil_of_length_eq_zero (by omega)
      simp [h52, goodL]
    · have hne : i ≠ nr := fun e => h52 (hx.tell.2 e)
      have hcons : l.isEmpty = false := by cases l with
        | nil => simp at hl; omega
        | cons _ _ => rfl
      have h53 : x.op ≠ 53 := fun e => by have := hx.known (by rw [e, opnd53]); omega
      rw [hcons, show ((x.op == 52) == false) = true from by simp [h52], Bool.true_and, if_neg (by omega), if_neg h53]
      refine plain_goodL l (i + 1) _ _ (fun j y hy => ?_) (by omega) (fun j h0 hj => ?_)
      · have := h (j + 1) y (by simpa using hy)
        rwa [show i + (j + 1) = i + 1 + j by omega] at this
      · unfold updB
        rw [hx.dst hne]
        split
        · rfl
        · exact hf j h0 (by omega)
theorem plain_good {c : CodeV} {nr : Nat} (h : PlainV c nr) (hl : c.ll.length ≤ 1024) : goodV c = (c.li.all inB && c.lk.all cleanB) := by
  have hbad : badC c.nr c.ns c.ll = false := by
    unfold badC
    rw [h.hnr, h.hns]
    have := h.hlen
    have := h.hpos
    simp only [Bool.or_eq_false_iff, decide_eq_false_iff_not]
    omega
  have hg : goodL c.nr c.ns c.li.length c.lk.length c.ll (fun _ => false) (fun _ => false) = true := by
    rw [h.hnr, h.hns]
    exact plain_goodL c.ll 0 _ _ (fun j x hx => by rw [Nat.zero_add]; exact h.hall j x hx) (by rw [h.hlen]; omega) (fun j h0 hj => by omega)
  unfold goodV
  rw [hbad, hg]
  simp

/- What is needed. -/
def addAll (f : Int → Bool) (l : List Int) : Int → Bool := l.foldl updB f
def needB (ll : List InsV) : Nat → (Int → Bool) → (Int → Bool)
  | 0, f => f
  | k + 1, f => needB ll k (if f k = true then (match ll[k]? with | some x => addAll f (readsL x) | none => f) else f)
theorem updB_mono {f : Int → Bool} {i j : Int} (h : f j = true) : updB f i j = true := by unfold updB; split <;> simp [*]
theorem addAll_mono {j : Int} : ∀ {l : List Int} {f : Int → Bool}, f j = true → addAll f l j = true
  | [], _, h => h
  | r :: l, f, h => addAll_mono (l := l) (updB_mono h)
theorem addAll_mem {j : Int} : ∀ {l : List Int} {f : Int → Bool}, j ∈ l → addAll f l j = true
  | r :: l, f, h => by
    rcases List.mem_cons.1 h with rfl | h
    · exact addAll_mono (l := l) (by unfold updB; simp)
    · exact addAll_mem (l := l) h
theorem addAll_other {j : Int} : ∀ {l : List Int} {f : Int → Bool}, j ∉ l → addAll f l j = f j
  | [], _, _ => rfl
  | r :: l, f, h => by
    have h1 : j ≠ r := fun e => h (by simp [e])
    have h2 : j ∉ l := fun e => h (by simp [e])
    show addAll (updB f r) l j = f j
    rw [addAll_other h2]
    exact if_neg h1
theorem need_mono {ll : List InsV} {j : Int} : ∀ (k : Nat) {f : Int → Bool}, f j = true → needB ll k f j = true
  | 0, _, h => h
  | k + 1, f, h => by
    unfold needB
    refine need_mono k ?_
    split
    · cases hx : ll[k]? with
      | some x => exact addAll_mono h
      | none => exact h
    · exact h
theorem need_high {ll : List InsV} (hr : ∀ (i : Nat) (x : InsV), ll[i]? = some x → ∀ r ∈ readsL x, r < i) {j : Int} : ∀ (k : Nat) {f : Int → Bool}, (k : Int) ≤ j + 1 → needB ll k f j = f j
  | 0, _, _ => rfl
  | k + 1, f, h => by
    unfold needB
    rw [need_high hr k (by omega)]
    split
    · cases hx : ll[k]? with
      | some x => exact addAll_other fun hm => by have := hr k x hx j hm; omega
      | none => rfl
    · rfl
theorem need_closed {ll : List InsV} (hr : ∀ (i : Nat) (x : InsV), ll[i]? = some x → ∀ r ∈ readsL x, r < i) : ∀ (k : Nat) (f : Int → Bool) (i : Nat), i < k → needB ll k f i = true → ∀ x, ll[i]? = some x → ∀ r ∈ readsL x, needB ll k f r = true
  | 0, _, _, h, _ => by omega
  | k + 1, f, i, h, hn => by
    intro x hx r hm
    by_cases hi : i = k
    · subst hi
      have hf : f i = true := by rw [← hn]; exact (need_high hr (i + 1) (by omega)).symm
      unfold needB
      rw [if_pos hf, hx]
      exact need_mono i (addAll_mem hm)
    · unfold needB at hn ⊢
      exact need_closed hr k _ i (by omega) hn x hx r hm
theorem plain_reads {n1 n2 nr i : Nat} {x : InsV} (h : PlainP n1 n2 nr i x) : ∀ r ∈ readsL x, 0 ≤ r ∧ r < i := by
  intro r hr
  unfold readsL at hr
  split at hr
  · rename_i h52
    simp only [List.mem_cons, List.not_mem_nil, or_false] at hr
    subst hr
    exact ⟨h.ap, h.ta (h.tell.1 h52)⟩
  · by_cases h0 : opnd x.op = 0
    · rw [h0] at hr; simp at hr
    · have hg := h.regs (by omega)
      have : r = x.a ∨ r = x.b := by
        have := List.mem_of_mem_take hr
        simpa using this
      rcases this with rfl | rfl
      · exact ⟨h.ap, hg.1⟩
      · exact ⟨h.bp, hg.2⟩

/- What is left. -/
def sameI (x y : InputV) : Bool := (((x.op == y.op) && (x.kind == y.kind)) && (x.pos == y.pos)) && (x.attr == y.attr)
theorem sameI_eq {x y : InputV} : sameI x y = true ↔ x = y := by
  unfold sameI
  simp only [Bool.and_eq_true, beq_iff_eq]
  constructor
  · rintro ⟨⟨⟨h1, h2⟩, h3⟩, h4⟩
    cases x; cases y; simp_all
  · rintro rfl; exact ⟨⟨⟨rfl, rfl⟩, rfl⟩, rfl⟩
def sameV (x y : V) : Bool := (x.k == y.k) && (x.b == y.b)
theorem sameV_eq {x y : V} : sameV x y = true ↔ x = y := by
  unfold sameV
  simp only [Bool.and_eq_true, beq_iff_eq]
  constructor
  · rintro ⟨h1, h2⟩
    cases x; cases y; simp_all
  · rintro rfl; exact ⟨rfl, rfl⟩
/-- A thing's place in a list, and the list with it. -/
def placeL {α : Type} (same : α → α → Bool) (x : α) : List α → List α × Nat
  | [] => ([x], 0)
  | y :: l => if same x y = true then (y :: l, 0) else (y :: (placeL same x l).1, (placeL same x l).2 + 1)
theorem placeL_pre {α : Type} {same : α → α → Bool} {x : α} : ∀ {l : List α}, l <+: (placeL same x l).1
  | [] => List.nil_prefix
  | y :: l => by
    unfold placeL
    split
    · exact List.prefix_rfl
    · exact (List.prefix_cons_inj y).2 placeL_pre
theorem placeL_at {α : Type} {same : α → α → Bool} (hs : ∀ x y, same x y = true ↔ x = y) {x : α} : ∀ {l : List α}, (placeL same x l).1[(placeL same x l).2]? = some x
  | [] => rfl
  | y :: l => by
    unfold placeL
    split
    · rename_i h
      rw [(hs x y).1 h]; rfl
    · simpa using placeL_at hs (l := l)
theorem placeL_len {α : Type} {same : α → α → Bool} {x : α} : ∀ {l : List α}, (placeL same x l).2 ≤ l.length ∧ (placeL same x l).1.length ≤ l.length + 1
  | [] => by simp [placeL]
  | y :: l => by
    have := placeL_len (same := same) (x := x) (l := l)
    unfold placeL
    split
    · simp
    · simp only [List.length_cons]; omega
theorem placeL_mem {α : Type} {same : α → α → Bool} {x : α} {P : α → Prop} (hx : P x) : ∀ {l : List α}, (∀ y ∈ l, P y) → ∀ y ∈ (placeL same x l).1, P y
  | [], _ => by intro y hy; simp only [placeL, List.mem_cons, List.not_mem_nil, or_false] at hy; subst hy; exact hx
  | z :: l, h => by
    intro y hy
    unfold placeL at hy
    split at hy
    · exact h y hy
    · rcases List.mem_cons.1 hy with rfl | hy
      · exact h _ (by simp)
      · exact placeL_mem hx (fun q hq => h q (by simp [hq])) y hy
structure DropS where
  li : List InputV
  lk : List V
  ll : List InsV
  bec : Int → Int
def updI (f : Int → Int) (i v : Int) : Int → Int := fun j => if j = i then v else f j
def dropStep (li : List InputV) (lk : List V) (i : Nat) (x : InsV) (s : DropS) : DropS :=
  let b := if opnd x.op = 2 then s.bec x.b else 0
  let n : Int := s.ll.length
  if x.op = 50 then
    let q := placeL sameI (li.getD x.a.toNat ⟨0, 0, 0, 0⟩) s.li
    ⟨q.1, s.lk, s.ll ++ [⟨50, n, q.2, b⟩], updI s.bec i n⟩
  else if x.op = 51 then
    let q := placeL sameV (lk.getD x.a.toNat none0) s.lk
    ⟨s.li, q.1, s.ll ++ [⟨51, n, q.2, b⟩], updI s.bec i n⟩
  else ⟨s.li, s.lk, s.ll ++ [⟨x.op, n, s.bec x.a, b⟩], updI s.bec i n⟩
def dropL (li : List InputV) (lk : List V) (need : Int → Bool) : List InsV → Nat → DropS → DropS
  | [], _, s => s
  | x :: l, i, s => dropL li lk need l (i + 1) (if need i = true then dropStep li lk i x s else s)
def lookV : List InputV → List V → InputV → V
  | y :: l, v :: r, x => if sameI y x = true then v else lookV l r x
  | _, _, _ => none0
end Go.Proofs.Ytadblgfppnpamaa
