/- Layer 18: what code tells, as plain functions: by rows of values (the program's way), by functions of places (the document's). No conditions. -/
import Derived.Test.YtadblgfppnpamaaVmA
namespace Go.Proofs.Ytadblgfppnpamaa
open Go.RowKit
set_option linter.unusedVariables false
set_option linter.unusedSimpArgs false

structure InsV where
  op : Int
  dst : Int
  a : Int
  b : Int
structure InputV where
  op : Int
  kind : Int
  pos : Int
  attr : Int
def InsV.cells (x : InsV) : List Value := [.int .i64 x.op, .int .i64 x.dst, .int .i64 x.a, .int .i64 x.b]
def InputV.cells (x : InputV) : List Value := [.int .i64 x.op, .int .i64 x.kind, .int .i64 x.pos, .int .i64 x.attr]
def InsV.fits (x : InsV) : Prop := I64 x.op ∧ I64 x.dst ∧ I64 x.a ∧ I64 x.b
def InputV.fits (x : InputV) : Prop := I64 x.op ∧ I64 x.kind ∧ I64 x.pos ∧ I64 x.attr
structure CodeV where
  nr : Int
  ns : Int
  Ai : Option Addr
  ci : Nat
  li : List InputV
  Ak : Option Addr
  ck : Nat
  lk : List V
  Al : Option Addr
  cl : Nat
  ll : List InsV
def CodeV.val (c : CodeV) : Value := .agg #[.int .i64 c.nr, .int .i64 c.ns, .slice c.Ai c.li.length c.ci, .slice c.Ak c.lk.length c.ck, .slice c.Al c.ll.length c.cl]
structure CodeV.ok (c : CodeV) (w : World) (B : Nat) : Prop where
  ri : Rd w B c.Ai (c.li.flatMap InputV.cells)
  rk : Rd w B c.Ak (c.lk.flatMap V.cells)
  rl : Rd w B c.Al (c.ll.flatMap InsV.cells)
  ni : c.li.length ≤ 1048576
  nk : c.lk.length ≤ 1048576
  nl : c.ll.length ≤ 1048576
  fi : ∀ x ∈ c.li, x.fits
  fk : ∀ x ∈ c.lk, x.fits
  fl : ∀ x ∈ c.ll, x.fits
  fr : I64 c.nr
  fs : I64 c.ns
theorem CodeV.ok.below {c : CodeV} {w w' : World} {B : Nat} (h : c.ok w B) (hb : Below B w w') : c.ok w' B :=
  ⟨h.ri.below hb, h.rk.below hb, h.rl.below hb, h.ni, h.nk, h.nl, h.fi, h.fk, h.fl, h.fr, h.fs⟩
theorem CodeV.ok.more {c : CodeV} {w : World} {B B' : Nat} (h : c.ok w B) (hb : B ≤ B') : c.ok w B' :=
  ⟨h.ri.more hb, h.rk.more hb, h.rl.more hb, h.ni, h.nk, h.nl, h.fi, h.fk, h.fl, h.fr, h.fs⟩
theorem CodeV.ok.old {c : CodeV} {w w' : World} (h : c.ok w w.heap.size) (hb : Below w.heap.size w w') : c.ok w' w'.heap.size := (h.below hb).more hb.size

def oneB (op : Int) : Prop := op = 6 ∨ (15 ≤ op ∧ op ≤ 17)
instance (op : Int) : Decidable (oneB op) := by unfold oneB; infer_instance
def opnd (op : Int) : Nat := if oneB op then 1 else if 1 ≤ op ∧ op ≤ 14 then 2 else 0
def stepM (ins ks : List V) (x : InsV) (p : List V × List V) : List V × List V :=
  if x.op = 50 then (setL p.1 x.dst (takeL ins x.a), p.2)
  else if x.op = 51 then (setL p.1 x.dst (takeL ks x.a), p.2)
  else if x.op = 53 then (p.1, setL p.2 x.a (takeL p.1 x.b))
  else if x.op = 54 then (setL p.1 x.dst (takeL p.2 x.a), p.2)
  else if oneB x.op then (setL p.1 x.dst (applyV x.op [takeL p.1 x.a]), p.2)
  else if 1 ≤ x.op ∧ x.op ≤ 14 then (setL p.1 x.dst (applyV x.op [takeL p.1 x.a, takeL p.1 x.b]), p.2)
  else p
def runM (ins ks : List V) : List InsV → List V × List V → V
  | [], _ => none0
  | x :: l, p => if x.op = 52 then takeL p.1 x.a else runM ins ks l (stepM ins ks x p)
def lim (n : Int) (m : Nat) : Nat := (max 0 (min n m)).toNat
def runV (c : CodeV) (ins : List V) : V := runM ins c.lk c.ll (List.replicate (lim c.nr 1024) none0, List.replicate (lim c.ns 256) none0)

def putF (f : Int → V) (i n : Int) (v : V) : Int → V := if 0 ≤ i ∧ i < n then (fun j => if j = i then v else f j) else f
def stepF (nr ns : Int) (ins ks : List V) (x : InsV) (p : (Int → V) × (Int → V)) : (Int → V) × (Int → V) :=
  if x.op = 50 then (putF p.1 x.dst nr (takeL ins x.a), p.2)
  else if x.op = 51 then (putF p.1 x.dst nr (takeL ks x.a), p.2)
  else if x.op = 53 then (p.1, putF p.2 x.a ns (p.1 x.b))
  else if x.op = 54 then (putF p.1 x.dst nr (p.2 x.a), p.2)
  else if oneB x.op then (putF p.1 x.dst nr (applyV x.op [p.1 x.a]), p.2)
  else if 1 ≤ x.op ∧ x.op ≤ 14 then (putF p.1 x.dst nr (applyV x.op [p.1 x.a, p.1 x.b]), p.2)
  else p
def runF (nr ns : Int) (ins ks : List V) : List InsV → (Int → V) × (Int → V) → V
  | [], _ => none0
  | x :: l, p => if x.op = 52 then p.1 x.a else runF nr ns ins ks l (stepF nr ns ins ks x p)
def runR (c : CodeV) (ins : List V) : V := runF (min c.nr 1024) (min c.ns 256) ins c.lk c.ll (fun _ => none0, fun _ => none0)

theorem take_clean (l : List V) (i : Int) : clean (takeL l i) = takeL l i := by
  unfold takeL
  split
  · exact clean_clean _
  · exact clean_none0
/-- A row, and a function of places, tell the same. -/
structure Alike (n : Int) (l : List V) (f : Int → V) : Prop where
  len : l.length = (max 0 n).toNat
  tell : ∀ i, f i = takeL l i
theorem Alike.put {n : Int} {l : List V} {f : Int → V} (h : Alike n l f) (i : Int) {v : V} (hv : clean v = v) : Alike n (setL l i v) (putF f i n v) := by
  refine ⟨by rw [setL_len]; exact h.len, fun j => ?_⟩
  unfold putF setL
  have e : (0 ≤ i ∧ i < n) ↔ (0 ≤ i ∧ i < (l.length : Int)) := by rw [h.len]; omega
  by_cases hi : 0 ≤ i ∧ i < n
  · rw [if_pos hi, if_pos (e.1 hi)]
    show (if j = i then v else f j) = _
    by_cases hj : j = i
    · subst hj
      rw [if_pos rfl]
      unfold takeL
      rw [List.length_set, if_pos (e.1 hi), List.getD_eq_getElem?_getD, List.getElem?_set_self (by omega)]
      exact hv.symm
    · rw [if_neg hj, h.tell j]
      unfold takeL
      rw [List.length_set]
      split
      · rename_i h2
        rw [List.getD_eq_getElem?_getD, List.getD_eq_getElem?_getD, List.getElem?_set_ne (by omega)]
      · rfl
  · rw [if_neg hi, if_neg (fun h2 => hi (e.2 h2))]
    exact h.tell j
theorem runM_runF {nr ns : Int} (ins ks : List V) (ll : List InsV) : ∀ (r s : List V) (f g : Int → V), Alike nr r f → Alike ns s g → runM ins ks ll (r, s) = runF nr ns ins ks ll (f, g) := by
  induction ll with
  | nil => intros; rfl
  | cons x l ih =>
    intro r s f g hr hs
    unfold runM runF
    by_cases h52 : x.op = 52
    · rw [if_pos h52, if_pos h52]; exact (hr.tell _).symm
    · rw [if_neg h52, if_neg h52]
      unfold stepM stepF
      simp only [← hr.tell, ← hs.tell]
      have cf : ∀ i, clean (f i) = f i := fun i => by rw [hr.tell]; exact take_clean _ _
      have cg : ∀ i, clean (g i) = g i := fun i => by rw [hs.tell]; exact take_clean _ _
      repeat' split
      · exact ih _ _ _ _ (hr.put _ (take_clean _ _)) hs
      · exact ih _ _ _ _ (hr.put _ (take_clean _ _)) hs
      · exact ih _ _ _ _ hr (hs.put _ (cf _))
      · exact ih _ _ _ _ (hr.put _ (cg _)) hs
      · exact ih _ _ _ _ (hr.put _ (apply_clean _ _)) hs
      · exact ih _ _ _ _ (hr.put _ (apply_clean _ _)) hs
      · exact ih _ _ _ _ hr hs
theorem alike_zero (n : Int) (m : Nat) : Alike (min n m) (List.replicate (lim n m) none0) (fun _ => none0) := by
  refine ⟨by simp [lim], fun i => ?_⟩
  unfold takeL
  split
  · rename_i h
    rw [List.length_replicate] at h
    rw [List.getD_eq_getElem?_getD, List.getElem?_replicate, if_pos (by omega)]
    exact clean_none0.symm
  · rfl
theorem runV_runR (c : CodeV) (ins : List V) : runV c ins = runR c ins := runM_runF ins c.lk c.ll _ _ _ _ (alike_zero _ _) (alike_zero _ _)
theorem runM_clean (ins ks : List V) (ll : List InsV) : ∀ p, clean (runM ins ks ll p) = runM ins ks ll p := by
  induction ll with
  | nil => intro p; exact clean_none0
  | cons x l ih =>
    intro p
    unfold runM
    split
    · exact take_clean _ _
    · exact ih _
def toldB (ll : List InsV) : Bool := ll.any fun x => decide (x.op = 52)
theorem runM_told (ins ks : List V) (ll more : List InsV) (h : toldB ll = true) : ∀ p, runM ins ks (ll ++ more) p = runM ins ks ll p := by
  induction ll with
  | nil => simp [toldB] at h
  | cons x l ih =>
    intro p
    rw [List.cons_append]
    unfold runM
    by_cases h52 : x.op = 52
    · rw [if_pos h52, if_pos h52]
    · rw [if_neg h52, if_neg h52]
      exact ih (by simpa [toldB, h52] using h) _
theorem runM_untold (ins ks : List V) (ll : List InsV) (h : toldB ll = false) : ∀ p, runM ins ks ll p = none0 := by
  induction ll with
  | nil => intro p; rfl
  | cons x l ih =>
    intro p
    unfold runM
    simp only [toldB, List.any_cons, Bool.or_eq_false_iff, decide_eq_false_iff_not] at h
    rw [if_neg h.1]
    exact ih (by unfold toldB; exact h.2) _
end Go.Proofs.Ytadblgfppnpamaa
