/- Maps keyed by ints that the call makes: what each key holds, as a function. Plain. -/
import Derived.Test.YtadblgfppnpamaaMem
import Derived.Maps.OwnSet
namespace Go.Proofs.Ytadblgfppnpamaa
open Go.RowKit
open Go.Maps (Keyed)

/-- How the elements of a map read: letters for values, each with a datum of its own. -/
structure Elem (α : Type) where
  val : α → Value
  dat : α → DataW Unit
  zero : α
  vinj : ∀ a b, val a = val b → a = b
  dinj : ∀ a b, dat a = dat b → a = b
open Classical in
noncomputable def Elem.R {α : Type} (E : Elem α) (v : Value) : Option (DataW Unit × List MemPlace) := if h : ∃ a, v = E.val a then some (E.dat h.choose, []) else none
theorem Elem.reads {α : Type} (E : Elem α) (a : α) : E.R (E.val a) = some (E.dat a, []) := by
  have h : ∃ b, E.val a = E.val b := ⟨a, rfl⟩
  unfold Elem.R
  rw [dif_pos h, ← E.vinj _ _ h.choose_spec]
theorem Elem.inv {α : Type} (E : Elem α) {v : Value} {z : DataW Unit × List MemPlace} (h : E.R v = some z) : ∃ a, v = E.val a ∧ z = (E.dat a, []) := by
  unfold Elem.R at h
  split at h
  · rename_i hx
    exact ⟨hx.choose, hx.choose_spec, (Option.some.inj h).symm⟩
  · cases h

/-- Block b is a map, of at most n entries, that holds 'f i' at each int i ('zero' where none was put). -/
def MapF {α : Type} (P : Program) (k : TypeId) (E : Elem α) (w : World) (b n : Nat) (f : Int → α) : Prop :=
  ∃ D, w.ownsMap P k E.R b n D ∧ ∀ i : Int, (Lit.int .i64 i).wf = true → D.atKey (.int .i64 i) (E.dat E.zero) = E.dat (f i)

section
variable {α : Type} {P : Program} {k e t : TypeId} {E : Elem α} {w w' : World} {b n : Nat} {f : Int → α}
theorem MapF.lt (h : MapF P k E w b n f) : b < w.heap.size := by obtain ⟨D, h, _⟩ := h; exact h.lt
theorem MapF.made (w : World) : MapF P k E (w.alloc (.map #[] 0)) w.heap.size 0 (fun _ => E.zero) := ⟨.map [], World.ownsMap_made w P k E.R, fun _ _ => rfl⟩
theorem MapF.madeAt (hb : b = w.heap.size) : MapF P k E (w.alloc (.map #[] 0)) b 0 (fun _ => E.zero) := by subst hb; exact MapF.made w
theorem MapF.alloc (h : MapF P k E w b n f) (o : Obj) : MapF P k E (w.alloc o) b n f := by obtain ⟨D, h, h'⟩ := h; exact ⟨D, h.alloc o, h'⟩
theorem MapF.drew (h : MapF P k E w b n f) : MapF P k E w.drew b n f := by obtain ⟨D, h, h'⟩ := h; exact ⟨D, h.drew, h'⟩
theorem MapF.mono (h : MapF P k E w b n f) {n' : Nat} (hn : n ≤ n') : MapF P k E w b n' f := by obtain ⟨D, h, h'⟩ := h; exact ⟨D, h.mono hn, h'⟩
theorem MapF.setCell (h : MapF P k E w b n f) {a : Addr} (ha : b ≠ a.block) (u : Value) : MapF P k E (w.setCell a u) b n f := by obtain ⟨D, h, h'⟩ := h; exact ⟨D, h.setCell ha u, h'⟩
theorem MapF.grown {row : Option Nat} (h : MapF P k E w b n f) (hg : w.grownBy w' row) (hne : some b ≠ row) : MapF P k E w' b n f := by obtain ⟨D, h, h'⟩ := h; exact ⟨D, h.kept hg hne, h'⟩
theorem MapF.below {B : Nat} (h : MapF P k E w b n f) (hb : Below B w w') (hlt : b < B) : MapF P k E w' b n f := by
  obtain ⟨D, ⟨es, clock, h0, h1⟩, h'⟩ := h
  exact ⟨D, ⟨es, clock, (hb.block b hlt).trans h0, h1⟩, h'⟩
theorem MapF.old (h : MapF P k E w b n f) (hb : Below w.heap.size w w') : MapF P k E w' b n f := h.below hb h.lt
theorem MapF.congr (h : MapF P k E w b n f) {g : Int → α} (hg : ∀ i : Int, (Lit.int .i64 i).wf = true → g i = f i) : MapF P k E w b n g := by
  obtain ⟨D, h, h'⟩ := h
  exact ⟨D, h, fun i hi => by rw [hg i hi]; exact h' i hi⟩

theorem MapF.look (h : MapF P k E w b n f) (hk : P.underlying k = some (.int .i64)) (ht : P.underlying t = some (.map k e)) (hz : (zeroValue e).run P w = .ok (E.val E.zero) w) (i : Int) (hi : (Lit.int .i64 i).wf = true) :
    (Instr.lookup t (.map (some b)) (.int .i64 i) false).run P w = .ok (E.val (f i)) w := by
  obtain ⟨D, h, h'⟩ := h
  obtain ⟨v, ps, hrun, hv⟩ := h.lookup (Maps.int_keyed hk) ht hz (E.reads E.zero) (Maps.keyOf_int_mk hk hi)
  rw [h' i hi] at hv
  obtain ⟨a, rfl, he⟩ := E.inv hv
  simp only [Prod.mk.injEq] at he
  rw [hrun, E.dinj _ _ he.1]
theorem MapF.put (h : MapF P k E w b n f) (hk : P.underlying k = some (.int .i64)) (ht : P.underlying t = some (.map k e)) (hn : n < maxLen) (i : Int) (hi : (Lit.int .i64 i).wf = true) (a : α) :
    ∃ w', (Instr.mapUpdate t (.map (some b)) (.int .i64 i) (E.val a)).run P w = .ok () w' ∧ MapF P k E w' b (n + 1) (fun j => if j = i then a else f j) ∧ w.grownBy w' (some b) := by
  obtain ⟨D, h, h'⟩ := h
  obtain ⟨w', hrun, r1, r2⟩ := h.update (Maps.int_keyed hk) ht hn (Maps.keyOf_int_mk hk hi) (E.reads a)
  refine ⟨w', hrun, ⟨_, r1, fun j hj => ?_⟩, r2⟩
  have hkey := (Maps.int_keyed hk).key (Maps.keyOf_int_mk hk hi)
  by_cases hji : j = i
  · subst hji
    show _ = E.dat (if j = j then a else f j)
    rw [if_pos rfl]
    exact Maps.atKey_put_same h.isMap hkey _ _
  · show (D.put (Lit.int .i64 i) (E.dat a)).atKey (Lit.int .i64 j) (E.dat E.zero) = E.dat (if j = i then a else f j)
    rw [if_neg hji]
    rw [Maps.atKey_put_other (by intro e; injection e with _ e; exact hji e)]
    exact h' j hj
end

section
variable {α : Type} {P : Program} {w : World} {ops : Array Oper} {rest : List Oper} {o : Oper} {a : Act} {Q : Exit → Act → World → Prop}
/-- 'm[k]' at the operation. -/
theorem wpList_lookF (E : Elem α) (hg : o.guard = none) (m x : Operand) (t : TypeId) (hop : o.op = Op.lookup t m x false) (k e : TypeId) (hk : P.underlying k = some (.int .i64)) (ht : P.underlying t = some (.map k e))
    (hz : (zeroValue e).run P w = .ok (E.val E.zero) w) (b n : Nat) (f : Int → α) (hm : a.eval m = .map (some b)) (h : MapF P k E w b n f) (i : Int) (hx : a.eval x = .int .i64 i) (hi : (Lit.int .i64 i).wf = true)
    (hK : wpList P ops Q rest (a.put o.dst (E.val (f i))) w) : wpList P ops Q (o :: rest) a w := by
  refine wpList_plain hg fun K' hK' => ?_
  unfold Oper.wp
  simp [execOp, hop, hm, hx, h.look hk ht hz i hi, Result.andThen]
  exact hK' _ _ hK
/-- 'm[k] = v' at the operation. -/
theorem wpList_putF (E : Elem α) (hg : o.guard = none) (m x v : Operand) (t : TypeId) (hop : o.op = Op.mapUpdate t m x v) (k e : TypeId) (hk : P.underlying k = some (.int .i64)) (ht : P.underlying t = some (.map k e))
    (b n : Nat) (f : Int → α) (hm : a.eval m = .map (some b)) (h : MapF P k E w b n f) (hn : n < maxLen) (i : Int) (hx : a.eval x = .int .i64 i) (hi : (Lit.int .i64 i).wf = true) (y : α) (hv : a.eval v = E.val y)
    (hK : ∀ w', MapF P k E w' b (n + 1) (fun j => if j = i then y else f j) → w.grownBy w' (some b) → wpList P ops Q rest (a.put o.dst undef) w') : wpList P ops Q (o :: rest) a w := by
  refine wpList_plain hg fun K' hK' => ?_
  obtain ⟨w', hrun, r1, r2⟩ := h.put hk ht hn i hi y
  unfold Oper.wp
  simp [execOp, hop, hm, hx, hv, hrun, Result.andThen]
  exact hK' _ _ (hK w' r1 r2)
end

/-- Elements that are bools, that are ints. -/
def boolE : Elem Bool := ⟨.bool, fun b => .lit (.bool b), false, fun _ _ h => by injection h, fun _ _ h => by injection h with h; injection h⟩
def intE : Elem Int := ⟨.int .i64, fun i => .lit (.int .i64 i), 0, fun _ _ h => by injection h, fun _ _ h => by injection h with h; injection h⟩
end Go.Proofs.Ytadblgfppnpamaa
