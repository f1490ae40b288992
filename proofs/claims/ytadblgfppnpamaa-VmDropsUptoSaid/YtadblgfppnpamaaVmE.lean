/- Layer 18: the document's small functions. No conditions. -/
import Derived.Test.YtadblgfppnpamaaVmP
import Derived.Test.YtadblgfppnpamaaRegO
namespace Go.Proofs.Ytadblgfppnpamaa
open Go.RowKit
set_option linter.unusedVariables false
set_option linter.unusedSimpArgs false

/-- Elements that are values. -/
def valE : Elem V := ⟨V.v, fun x => .agg [.lit (.int .i64 x.k), .lit (.int .u64 (x.b : Nat))], none0,
  fun a b h => by
    obtain ⟨k, n⟩ := a; obtain ⟨k', n'⟩ := b
    injection h with h
    have h1 : (#[Value.int .i64 k, Value.int .u64 (n : Nat)] : Array Value)[0]? = (#[Value.int .i64 k', Value.int .u64 (n' : Nat)] : Array Value)[0]? := by rw [h]
    have h2 : (#[Value.int .i64 k, Value.int .u64 (n : Nat)] : Array Value)[1]? = (#[Value.int .i64 k', Value.int .u64 (n' : Nat)] : Array Value)[1]? := by rw [h]
    simp at h1 h2
    subst h1
    obtain rfl : n = n' := by omega
    rfl,
  fun a b h => by
    obtain ⟨k, n⟩ := a; obtain ⟨k', n'⟩ := b
    injection h with h
    simp at h
    obtain ⟨h1, h2⟩ := h
    subst h1
    obtain rfl : n = n' := by omega
    rfl⟩
/-- A map of the document's values. -/
def MapV (w : World) (b n : Nat) (f : Int → V) : Prop := MapF Try.prog 3 valE w b n f

theorem rtake_any (A : Option Addr) (c : Nat) (l : List V) (i : Int) (w : World) (hr : Rd w w.heap.size A (l.flatMap V.cells)) (hf : ∀ x ∈ l, x.fits) (hl : l.length ≤ 1048576) :
    Calls Try.prog 24 #[.slice A l.length c, .int .i64 i] w fun e w' => e = .returned (takeL l i).v ∧ Below w.heap.size w w' := by
  by_cases h0 : i < 0
  · have hs : takeL l i = none0 := if_neg (by omega)
    rw [hs]
    go_enter Try.func24, Try.ntmps24
    go_wp2_with fail
    exact bodyPost_ret (v := .agg #[.int .i64 0, .int .u64 0]) (by simp [results, Try.results24, go_sem]) rfl ⟨rfl, by repeat (first | exact Below.refl _ _ | refine Below.setCell ?_ (by first | (simp; done) | (simp; omega)) _ | refine Below.alloc ?_ (by first | (simp; done) | (simp; omega)) _)⟩
  · by_cases h1 : (l.length : Int) ≤ i
    · have hs : takeL l i = none0 := if_neg (by omega)
      rw [hs]
      go_enter Try.func24, Try.ntmps24
      go_wp2_with fail
      exact bodyPost_ret (v := .agg #[.int .i64 0, .int .u64 0]) (by simp [results, Try.results24, go_sem]) rfl ⟨rfl, by repeat (first | exact Below.refl _ _ | refine Below.setCell ?_ (by first | (simp; done) | (simp; omega)) _ | refine Below.alloc ?_ (by first | (simp; done) | (simp; omega)) _)⟩
    · obtain ⟨k, rfl⟩ := Int.eq_ofNat_of_zero_le (show 0 ≤ i by omega)
      have hlt : k < l.length := by omega
      have hs : takeL l (k : Int) = clean l[k] := by unfold takeL; rw [if_pos (by omega)]; simp [hlt]
      rw [hs]
      obtain ⟨b, o, rfl, hb, hc⟩ := hr.elem (f := V.cells) (n := 2) (fun _ => rfl) (by omega) hlt
      have hfx : l[k].fits := hf _ (by simp)
      generalize l[k] = x at *
      have q0 : ∀ x1 : Obj, (w.alloc x1).cell? ⟨b, o + k * 2, none⟩ = some (.int .i64 x.k) := fun _ => (World.cell?_alloc_lt _ _ _ (by simpa using hb)).trans (hc 0 _ rfl)
      have q1 : ∀ x1 : Obj, (w.alloc x1).cell? ⟨b, o + k * 2 + 1, none⟩ = some (.int .u64 x.b) := fun _ => (World.cell?_alloc_lt _ _ _ (by simpa using hb)).trans (hc 1 _ rfl)
      clear hc hr hf
      have hcl : ∀ w' : World, Calls Try.prog 17 #[.agg #[.int .i64 x.k, .int .u64 x.b]] w' fun e w2 => e = .returned (.agg #[.int .i64 (clean x).k, .int .u64 (clean x).b]) ∧ Below w'.heap.size w' w2 := fun w' => rclean_any x hfx w'
      have HCL := Lib.hid hcl
      clear hcl hs
      unfold V.v
      generalize clean x = y at *
      go_enter Try.func24, Try.ntmps24
      go_wp2_with fail
      refine (HCL.out _).mono ?_
      rintro e w1 ⟨rfl, hb1⟩
      have kr := (Bk.new w 33 #[.int .i64 0, .int .u64 0]).old hb1
      have hbe : Below w.heap.size w w1 := ((Below.refl _ _).alloc (Nat.le_refl _) _).trans (hb1.mono (by simp))
      obtain ⟨c0, c1, f0, f1⟩ := vcells kr
      obtain ⟨d0, d1, _, _⟩ := vcells (vput kr (.int .i64 y.k) (.int .u64 y.b))
      clear kr hb1 q0 q1
      go_wp2_with fail
      exact bodyPost_ret (v := .agg #[.int .i64 y.k, .int .u64 y.b]) (by simp [results, Try.results24, go_sem, d0, d1]) rfl ⟨rfl, (hbe.setCell (Nat.le_refl _) _).setCell (Nat.le_refl _) _⟩

theorem I64.wf {i : Int} (h : I64 i) : (Lit.int .i64 i).wf = true := by
  unfold I64 at h
  have e : IntKind.i64.min = -9223372036854775808 := rfl
  simp [Lit.wf, e]
  omega
set_option maxRecDepth 100000 in
theorem rput_any (b nn : Nat) (f : Int → V) (i n : Int) (hi : I64 i) (v : V) (w : World) (h : MapV w b nn f) (hn : nn < 1048576) :
    Calls Try.prog 23 #[.map (some b), .int .i64 i, .int .i64 n, v.v] w fun e w' => e = .returned (.tuple #[]) ∧ MapV w' b (nn + 1) (putF f i n v) ∧ w.grownBy w' (some b) := by
  unfold V.v
  by_cases h0 : i < 0
  · have hs : putF f i n v = f := if_neg (by omega)
    rw [hs]
    go_enter Try.func23, Try.ntmps23
    go_wp2_with fail
    exact bodyPost_end (v := .tuple #[]) (by simp [results, Try.results23, go_sem]) rfl ⟨rfl, (MapF.alloc h _).mono (by omega), World.grownBy_alloc _ _ _⟩
  · by_cases h1 : n ≤ i
    · have hs : putF f i n v = f := if_neg (by omega)
      rw [hs]
      go_enter Try.func23, Try.ntmps23
      go_wp2_with fail
      exact bodyPost_end (v := .tuple #[]) (by simp [results, Try.results23, go_sem]) rfl ⟨rfl, (MapF.alloc h _).mono (by omega), World.grownBy_alloc _ _ _⟩
    · have hs : putF f i n v = (fun j => if j = i then v else f j) := if_pos (by omega)
      rw [hs]
      clear hs
      go_enter Try.func23, Try.ntmps23
      go_wp2_with (at_mapUpdate; refine wpList_putF valE rfl _ _ _ 52 rfl 3 33 Try.underlying3 Try.underlying52 b nn f rfl (MapF.alloc h _) (by unfold maxLen; omega) i rfl hi.wf v rfl ?_; intro w' hm hg)
      exact bodyPost_end (v := .tuple #[]) (by simp [results, Try.results23, go_sem]) rfl ⟨rfl, hm, (World.grownBy_alloc _ _ _).trans hg⟩

theorem operands_any (op : Int) (w : World) : Calls Try.prog 22 #[.int .i64 op] w fun e w' => e = .returned (.int .i64 (opnd op : Nat)) ∧ w = w' := by
  by_cases h6 : op = 6
  · subst h6
    rw [show opnd 6 = 1 from rfl]
    go_enter Try.func22, Try.ntmps22
    go_wp2
    go_ret
    exact ⟨rfl, rfl⟩
  by_cases h15 : op = 15
  · subst h15
    rw [show opnd 15 = 1 from rfl]
    go_enter Try.func22, Try.ntmps22
    go_wp2
    go_ret
    exact ⟨rfl, rfl⟩
  by_cases h16 : op = 16
  · subst h16
    rw [show opnd 16 = 1 from rfl]
    go_enter Try.func22, Try.ntmps22
    go_wp2
    go_ret
    exact ⟨rfl, rfl⟩
  by_cases h17 : op = 17
  · subst h17
    rw [show opnd 17 = 1 from rfl]
    go_enter Try.func22, Try.ntmps22
    go_wp2
    go_ret
    exact ⟨rfl, rfl⟩
  have g6 : (op == 6) = false := by rw [beq_eq_false_iff_ne]; exact h6
  have g15 : (op == 15) = false := by rw [beq_eq_false_iff_ne]; exact h15
  have g16 : (op == 16) = false := by rw [beq_eq_false_iff_ne]; exact h16
  have g17 : (op == 17) = false := by rw [beq_eq_false_iff_ne]; exact h17
  have h1 : ¬ oneB op := by unfold oneB; omega
  by_cases hlt : op < 1
  · rw [show opnd op = 0 by unfold opnd; rw [if_neg h1, if_neg (by omega)]]
    clear h6 h15 h16 h17 h1
    go_enter Try.func22, Try.ntmps22
    go_wp2
    go_ret
    exact ⟨rfl, rfl⟩
  · by_cases hgt : 14 < op
    · rw [show opnd op = 0 by unfold opnd; rw [if_neg h1, if_neg (by omega)]]
      clear h6 h15 h16 h17 h1
      go_enter Try.func22, Try.ntmps22
      go_wp2
      go_ret
      exact ⟨rfl, rfl⟩
    · rw [show opnd op = 2 by unfold opnd; rw [if_neg h1, if_pos (by omega)]]
      clear h6 h15 h16 h17 h1
      go_enter Try.func22, Try.ntmps22
      go_wp2
      go_ret
      exact ⟨rfl, rfl⟩
end Go.Proofs.Ytadblgfppnpamaa
