/- do of two, of one, of no value. No conditions. -/
import Derived.Test.YtlejjchaooeabaaValRd
namespace Go.Proofs.Ytlejjchaooeabaa
open Go.RowKit
theorem do2 (op : Int) (x y : V) (hx : x.fits) (hy : y.fits) (w : World) :
    Calls Try.prog 23 #[.int .i64 op, .slice (some ⟨w.heap.size, 0, none⟩) 2 2] (w.alloc (.cells #[.int .i64 x.k, .int .u64 x.b, .int .i64 y.k, .int .u64 y.b] 24)) fun e w' =>
      e = .returned (.agg #[.int .i64 (applyV op [x, y]).k, .int .u64 (applyV op [x, y]).b]) ∧ Below w.heap.size w w' := by
  refine (do_any op [x, y] (some ⟨w.heap.size, 0, none⟩) 2 _ ((Rd.lit rfl #[.int .i64 x.k, .int .u64 x.b, .int .i64 y.k, .int .u64 y.b] _).more (by simp)) (by intro z hz; simp at hz; rcases hz with rfl | rfl <;> assumption) (by simp)).mono ?_
  rintro e w' ⟨rfl, hb⟩
  exact ⟨rfl, ((Below.refl _ _).alloc (Nat.le_refl _) _).trans (hb.mono (by simp))⟩
theorem do1 (op : Int) (x : V) (hx : x.fits) (w : World) :
    Calls Try.prog 23 #[.int .i64 op, .slice (some ⟨w.heap.size, 0, none⟩) 1 1] (w.alloc (.cells #[.int .i64 x.k, .int .u64 x.b] 24)) fun e w' =>
      e = .returned (.agg #[.int .i64 (applyV op [x]).k, .int .u64 (applyV op [x]).b]) ∧ Below w.heap.size w w' := by
  refine (do_any op [x] (some ⟨w.heap.size, 0, none⟩) 1 _ ((Rd.lit rfl #[.int .i64 x.k, .int .u64 x.b] _).more (by simp)) (by intro z hz; simp at hz; subst hz; assumption) (by simp)).mono ?_
  rintro e w' ⟨rfl, hb⟩
  exact ⟨rfl, ((Below.refl _ _).alloc (Nat.le_refl _) _).trans (hb.mono (by simp))⟩
theorem do0 (op : Int) (w : World) :
    Calls Try.prog 23 #[.int .i64 op, .slice none 0 0] w fun e w' => e = .returned (.agg #[.int .i64 (applyV op []).k, .int .u64 (applyV op []).b]) ∧ Below w.heap.size w w' :=
  do_any op [] none 0 w Rd.nil (by simp) (by simp)
theorem clean_none0 : clean none0 = none0 := clean_none _ (by simp [none0]) (by simp [none0])
theorem fits0 : none0.fits := by simp [none0, V.fits]
/-- What Apply answers lies within the values, and counts as itself. -/
theorem rest_none {op : Int} {l : List V} (h : resK op (l.map fun x => (clean x).k) = 0) : restV op l = none := if_pos h
end Go.Proofs.Ytlejjchaooeabaa
