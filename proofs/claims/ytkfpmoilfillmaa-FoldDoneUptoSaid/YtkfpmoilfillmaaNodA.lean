/- Nodes in memory. Plain. -/
import Derived.Test.YtkfpmoilfillmaaValD
namespace Go.Proofs.Ytkfpmoilfillmaa
open Go.RowKit
set_option linter.unusedVariables false
set_option linter.unusedSimpArgs false

/-- A node in memory. -/
inductive NodeV
  | mk (op kind : Int) (A : Option Addr) (c : Nat) (args : List NodeV) (vk : Int) (vb : Nat) (pos attr : Int)
def NodeV.cells : NodeV → List Value
  | .mk op kind A c args vk vb pos a => [.int .i64 op, .int .i64 kind, .slice A args.length c, .int .i64 vk, .int .u64 vb, .int .i64 pos, .int .i64 a]
def NodeV.val (n : NodeV) : Value := .agg n.cells.toArray
theorem NodeV.len (n : NodeV) : n.cells.length = 7 := by cases n; rfl
/-- It lies in memory, no deeper than d. -/
def okN : Nat → NodeV → World → Nat → Prop
  | 0, _, _, _ => False
  | d + 1, .mk op kind A c args vk vb pos a, w, B => Rd w B A (args.flatMap NodeV.cells) ∧ args.length ≤ 1048576 ∧ vb < 18446744073709551616 ∧ ∀ x ∈ args, okN d x w B
theorem okN.below {w w' : World} {B : Nat} (hb : Below B w w') : ∀ {d : Nat} {n : NodeV}, okN d n w B → okN d n w' B
  | 0, _, h => h
  | d + 1, .mk .., h => ⟨h.1.below hb, h.2.1, h.2.2.1, fun x hx => okN.below hb (h.2.2.2 x hx)⟩
theorem okN.more {w : World} {B B' : Nat} (hB : B ≤ B') : ∀ {d : Nat} {n : NodeV}, okN d n w B → okN d n w B'
  | 0, _, h => h
  | d + 1, .mk .., h => ⟨h.1.more hB, h.2.1, h.2.2.1, fun x hx => okN.more hB (h.2.2.2 x hx)⟩
theorem okN.old {w w' : World} {d : Nat} {n : NodeV} (h : okN d n w w.heap.size) (hb : Below w.heap.size w w') : okN d n w' w'.heap.size := (h.below hb).more hb.size

theorem okN.up {w : World} {B : Nat} : ∀ {d : Nat} {n : NodeV}, okN d n w B → okN (d + 1) n w B
  | 0, _, h => h.elim
  | d + 1, .mk .., h => ⟨h.1, h.2.1, h.2.2.1, fun x hx => (h.2.2.2 x hx).up⟩
theorem bk_rd {w : World} {g : Nat} {t : TypeId} {cs : Array Value} (h : Bk w g t cs) : Rd w w.heap.size (some ⟨g, 0, none⟩) cs.toList :=
  .inr ⟨g, 0, rfl, h.lt, fun j u hu => by rw [Nat.zero_add, h.cell j]; simpa using hu⟩
theorem bel2 (w : World) (x1 x2 : Obj) : Below w.heap.size w ((w.alloc x1).alloc x2) := ((Below.refl _ _).alloc (Nat.le_refl _) _).alloc (by simp) _
theorem bel3 (w : World) (x1 x2 x3 : Obj) : Below w.heap.size w (((w.alloc x1).alloc x2).alloc x3) := (bel2 _ _ _).alloc (by simp; omega) _
theorem bel4 (w : World) (x1 x2 x3 x4 : Obj) : Below w.heap.size w ((((w.alloc x1).alloc x2).alloc x3).alloc x4) := (((bel2 _ _ _).alloc (by simp; omega) _)).alloc (by simp; omega) _
end Go.Proofs.Ytkfpmoilfillmaa
