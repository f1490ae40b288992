/- Layer 18: the machine's rows of values, read and written. No conditions. -/
import Derived.Test.YtadblgfppnpamaaValI
import Derived.Test.YtadblgfppnpamaaValM
import Derived.Test.YtadblgfppnpamaaMaps
namespace Go.Proofs.Ytadblgfppnpamaa
open Go.RowKit
set_option linter.unusedVariables false
set_option linter.unusedSimpArgs false

theorem bk_rd {w : World} {g : Nat} {t : TypeId} {cs : Array Value} (h : Bk w g t cs) : Rd w w.heap.size (some ⟨g, 0, none⟩) cs.toList := Rd.bk h h.lt
theorem gb_set {w w' : World} {g : Nat} (h : w.grownBy w' (some g)) (i : Nat) (u : Value) : w.grownBy (w'.setCell ⟨g, i, none⟩ u) (some g) :=
  ⟨h.os, h.tape, h.output, by rw [show (w'.setCell ⟨g, i, none⟩ u).heap.size = w'.heap.size by simp]; exact h.size, fun k hk hne => (Below.heap_setCell w' ⟨g, i, none⟩ u k (fun e => hne (by rw [e]))).trans (h.block k hk hne)⟩
theorem gb_alloc {w w' : World} {r : Option Nat} (h : w.grownBy w' r) (o : Obj) : w.grownBy (w'.alloc o) r := h.trans (World.grownBy_alloc _ _ _)
theorem gb_below {w w' w'' : World} {r : Option Nat} (h : w.grownBy w' r) (hb : Below w'.heap.size w' w'') : w.grownBy w'' r :=
  ⟨hb.os.trans h.os, hb.tape.trans h.tape, hb.output.trans h.output, Nat.le_trans h.size hb.size, fun k hk hne => (hb.block k (Nat.lt_of_lt_of_le hk h.size)).trans (h.block k hk hne)⟩
theorem gb_of {w w' : World} (r : Option Nat) (hb : Below w.heap.size w w') : w.grownBy w' r := gb_below (World.grownBy.refl w r) hb
theorem below_gb {B : Nat} {a w w' : World} {g : Nat} (hb : Below B a w) (h : w.grownBy w' (some g)) (hB : B ≤ w.heap.size) (hg : B ≤ g) : Below B a w' :=
  ⟨h.os.trans hb.os, h.tape.trans hb.tape, h.output.trans hb.output, Nat.le_trans hb.size h.size, fun k hk => (h.block k (by omega) (by intro e; injection e with e; omega)).trans (hb.block k hk)⟩

def takeL (l : List V) (i : Int) : V := if 0 ≤ i ∧ i < l.length then clean (l.getD i.toNat none0) else none0
def setL (l : List V) (i : Int) (v : V) : List V := if 0 ≤ i ∧ i < l.length then l.set i.toNat v else l
theorem setL_len (l : List V) (i : Int) (v : V) : (setL l i v).length = l.length := by unfold setL; split <;> simp

theorem get_any (A : Option Addr) (c : Nat) (l : List V) (i : Int) (w : World) (hr : Rd w w.heap.size A (l.flatMap V.cells)) (hf : ∀ x ∈ l, x.fits) (hl : l.length ≤ 1048576) :
    Calls Try.prog 20 #[.slice A l.length c, .int .i64 i] w fun e w' => e = .returned (takeL l i).v ∧ Below w.heap.size w w' := by
  by_cases h0 : i < 0
  · have hs : takeL l i = none0 := if_neg (by omega)
    rw [hs]
    go_enter Try.func20, Try.ntmps20
    go_wp2_with fail
    exact bodyPost_ret (v := .agg #[.int .i64 0, .int .u64 0]) (by simp [results, Try.results20, go_sem]) rfl ⟨rfl, by repeat (first | exact Below.refl _ _ | refine Below.setCell ?_ (by first | (simp; done) | (simp; omega)) _ | refine Below.alloc ?_ (by first | (simp; done) | (simp; omega)) _)⟩
  · by_cases h1 : (l.length : Int) ≤ i
    · have hs : takeL l i = none0 := if_neg (by omega)
      rw [hs]
      go_enter Try.func20, Try.ntmps20
      go_wp2_with fail
      exact bodyPost_ret (v := .agg #[.int .i64 0, .int .u64 0]) (by simp [results, Try.results20, go_sem]) rfl ⟨rfl, by repeat (first | exact Below.refl _ _ | refine Below.setCell ?_ (by first | (simp; done) | (simp; omega)) _ | refine Below.alloc ?_ (by first | (simp; done) | (simp; omega)) _)⟩
    · obtain ⟨k, rfl⟩ := Int.eq_ofNat_of_zero_le (show 0 ≤ i by omega)
      have hlt : k < l.length := by omega
      have hs : takeL l (k : Int) = clean l[k] := by unfold takeL; rw [if_pos (by omega)]; simp [hlt]
      rw [hs]
      obtain ⟨b, o, rfl, hb, hc⟩ := hr.elem (f := V.cells) (n := 2) (fun _ => rfl) (by omega) hlt
      have hfx : l[k].fits := hf _ (by simp)
      generalize l[k] = x at *
      have q0 : ∀ x1 : Obj, (w.alloc x1).cell? ⟨b, o + k * 2, none⟩ = some (.int .i64 x.k) := fun _ => (World.cell?_alloc_lt _ _ _ (by simpa using hb)).trans (hc 0 _ rfl)
      have q1 : ∀ x1 : Obj, (w.alloc x1).cell? ⟨b, o + k * 2 + 1, none⟩ = some (.int .u64 x.b) := fun _ => (World.cell?_alloc_lt _ _ _ (by simpa using hb)).trans (hc 1 _ rfl)
      clear hc hr hf
      have hcl : ∀ w' : World, Calls Try.prog 27 #[.agg #[.int .i64 x.k, .int .u64 x.b]] w' fun e w2 => e = .returned (.agg #[.int .i64 (clean x).k, .int .u64 (clean x).b]) ∧ Below w'.heap.size w' w2 := fun w' => pclean_any x hfx w'
      have HCL := Lib.hid hcl
      clear hcl hs
      unfold V.v
      generalize clean x = y at *
      go_enter Try.func20, Try.ntmps20
      go_wp2_with fail
      refine (HCL.out _).mono ?_
      rintro e w1 ⟨rfl, hb1⟩
      have kr := (Bk.new w 31 #[.int .i64 0, .int .u64 0]).old hb1
      have hbe : Below w.heap.size w w1 := ((Below.refl _ _).alloc (Nat.le_refl _) _).trans (hb1.mono (by simp))
      obtain ⟨c0, c1, f0, f1⟩ := vcells kr
      obtain ⟨d0, d1, _, _⟩ := vcells (vput kr (.int .i64 y.k) (.int .u64 y.b))
      clear kr hb1 q0 q1
      go_wp2_with fail
      exact bodyPost_ret (v := .agg #[.int .i64 y.k, .int .u64 y.b]) (by simp [results, Try.results20, go_sem, d0, d1]) rfl ⟨rfl, (hbe.setCell (Nat.le_refl _) _).setCell (Nat.le_refl _) _⟩

theorem flat_set (l : List V) (k : Nat) (v : V) : ((l.flatMap V.cells).set (k * 2) (.int .i64 v.k)).set (k * 2 + 1) (.int .u64 v.b) = (l.set k v).flatMap V.cells := by
  induction l generalizing k with
  | nil => simp
  | cons x l ih =>
    cases k with
    | zero => rfl
    | succ k =>
      have e : (k + 1) * 2 = k * 2 + 2 := by omega
      rw [e, List.set_cons_succ, List.flatMap_cons, List.flatMap_cons, ← ih k]
      rfl
/-- The block g holds just these values. -/
def Row (w : World) (g : Nat) (l : List V) : Prop := Bk w g 31 (l.flatMap V.cells).toArray
theorem Row.rd {w : World} {g : Nat} {l : List V} (h : Row w g l) : Rd w w.heap.size (some ⟨g, 0, none⟩) (l.flatMap V.cells) := by
  have := Rd.bk h h.lt
  simpa using this
theorem Row.put {w : World} {g : Nat} {l : List V} (h : Row w g l) (k : Nat) (v : V) : Row ((w.setCell ⟨g, k * 2, none⟩ (.int .i64 v.k)).setCell ⟨g, k * 2 + 1, none⟩ (.int .u64 v.b)) g (l.set k v) := by
  have := (Bk.put h (k * 2) (.int .i64 v.k)).put (k * 2 + 1) (.int .u64 v.b)
  simp only [List.setIfInBounds_toArray, flat_set] at this
  exact this

set_option maxHeartbeats 1000000 in
theorem set_any (g : Nat) (l : List V) (c : Nat) (hc : l.length ≤ c) (i : Int) (v : V) (w : World) (h : Row w g l) (hl : l.length ≤ 1048576) :
    Calls Try.prog 47 #[.slice (some ⟨g, 0, none⟩) l.length c, .int .i64 i, v.v] w fun e w' => e = .returned (.tuple #[]) ∧ Row w' g (setL l i v) ∧ w.grownBy w' (some g) := by
  unfold V.v
  by_cases h0 : i < 0
  · have hs : setL l i v = l := if_neg (by omega)
    rw [hs]
    go_enter Try.func47, Try.ntmps47
    go_wp2_with fail
    exact bodyPost_end (v := .tuple #[]) (by simp [results, Try.results47, go_sem]) rfl ⟨rfl, Bk.alloc h _, World.grownBy_alloc _ _ _⟩
  · by_cases h1 : (l.length : Int) ≤ i
    · have hs : setL l i v = l := if_neg (by omega)
      rw [hs]
      go_enter Try.func47, Try.ntmps47
      go_wp2_with fail
      exact bodyPost_end (v := .tuple #[]) (by simp [results, Try.results47, go_sem]) rfl ⟨rfl, Bk.alloc h _, World.grownBy_alloc _ _ _⟩
    · obtain ⟨k, rfl⟩ := Int.eq_ofNat_of_zero_le (show 0 ≤ i by omega)
      have hlt : k < l.length := by omega
      have hs : setL l (k : Int) v = l.set k v := by unfold setL; rw [if_pos (by omega)]; simp
      rw [hs]
      have hg := h.lt
      have hp := Bk.alloc (Row.put h k v) (.cells #[.int .i64 v.k, .int .u64 v.b] 31)
      have e0 : w.cell? ⟨g, k * 2, none⟩ = some (.int .i64 l[k].k) := by
        obtain ⟨b, o, hA, _, hc⟩ := (Row.rd h).elem (f := V.cells) (n := 2) (fun _ => rfl) (by omega) hlt
        injection hA with hA; injection hA with e1 e2; subst e1; subst e2
        simpa using hc 0 _ rfl
      have e1 : w.cell? ⟨g, k * 2 + 1, none⟩ = some (.int .u64 l[k].b) := by
        obtain ⟨b, o, hA, _, hc⟩ := (Row.rd h).elem (f := V.cells) (n := 2) (fun _ => rfl) (by omega) hlt
        injection hA with hA; injection hA with e1 e2; subst e1; subst e2
        simpa using hc 1 _ rfl
      have f0 := Bk.frozen h (k * 2)
      have f1 := Bk.frozen h (k * 2 + 1)
      have HP := Lib.hid hp
      clear hs hp h
      go_enter Try.func47, Try.ntmps47
      go_wp2_with fail
      exact bodyPost_end (v := .tuple #[]) (by simp [results, Try.results47, go_sem]) rfl ⟨rfl, HP.out, gb_alloc (gb_set (gb_set (World.grownBy.refl _ _) _ _) _ _) _⟩
end Go.Proofs.Ytadblgfppnpamaa
