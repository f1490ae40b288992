/- Layer 9: scripts, bindings; attributes of an event, the events of a position. No conditions. -/
import Derived.Test.YtomhheihhnmbcaaValD
namespace Go.Proofs.Ytomhheihhnmbcaa
open Go.RowKit
set_option linter.unusedVariables false
set_option linter.unusedSimpArgs false

/-- An event in memory. -/
structure EventV where
  type : Int
  time : Int
  A : Option Addr
  c : Nat
  attrs : List V
def EventV.cells (e : EventV) : List Value := [.int .i64 e.type, .int .i64 e.time, .slice e.A e.attrs.length e.c]
def EventV.ok (e : EventV) (w : World) (B : Nat) : Prop := Rd w B e.A (e.attrs.flatMap V.cells) ∧ e.attrs.length ≤ 1048576 ∧ ∀ x ∈ e.attrs, x.fits
/-- A list of ints in memory. -/
structure IntsV where
  A : Option Addr
  c : Nat
  l : List Int
def IntsV.cells (e : IntsV) : List Value := [.slice e.A e.l.length e.c]
def icells (l : List Int) : List Value := l.map fun n : Int => Value.int .i64 n
def IntsV.ok (e : IntsV) (w : World) (B : Nat) : Prop := Rd w B e.A (icells e.l) ∧ e.l.length ≤ 1048577
/-- A script and a binding in memory. -/
structure LookV where
  EA : Option Addr
  ec : Nat
  es : List EventV
  BA : Option Addr
  bc : Nat
  bs : List IntsV
  cur : Int
def LookV.val (k : LookV) : Value := .agg #[.slice k.EA k.es.length k.ec, .slice k.BA k.bs.length k.bc, .int .i64 k.cur]
structure LookV.ok (k : LookV) (w : World) (B : Nat) : Prop where
  erd : Rd w B k.EA (k.es.flatMap EventV.cells)
  elen : k.es.length ≤ 1048576
  each : ∀ e ∈ k.es, e.ok w B
  brd : Rd w B k.BA (k.bs.flatMap IntsV.cells)
  blen : k.bs.length ≤ 1048576
  beach : ∀ e ∈ k.bs, e.ok w B

section
variable {w w' : World} {B B' : Nat}
theorem EventV.ok.below {e : EventV} (h : e.ok w B) (hb : Below B w w') : e.ok w' B := ⟨h.1.below hb, h.2⟩
theorem IntsV.ok.below {e : IntsV} (h : e.ok w B) (hb : Below B w w') : e.ok w' B := ⟨h.1.below hb, h.2⟩
theorem LookV.ok.below {k : LookV} (h : k.ok w B) (hb : Below B w w') : k.ok w' B :=
  ⟨h.erd.below hb, h.elen, fun e he => (h.each e he).below hb, h.brd.below hb, h.blen, fun e he => (h.beach e he).below hb⟩
theorem EventV.ok.more {e : EventV} (h : e.ok w B) (hB : B ≤ B') : e.ok w B' := ⟨h.1.more hB, h.2⟩
theorem IntsV.ok.more {e : IntsV} (h : e.ok w B) (hB : B ≤ B') : e.ok w B' := ⟨h.1.more hB, h.2⟩
theorem LookV.ok.more {k : LookV} (h : k.ok w B) (hB : B ≤ B') : k.ok w B' :=
  ⟨h.erd.more hB, h.elen, fun e he => (h.each e he).more hB, h.brd.more hB, h.blen, fun e he => (h.beach e he).more hB⟩
theorem LookV.ok.old {k : LookV} (h : k.ok w w.heap.size) (hb : Below w.heap.size w w') : k.ok w' w'.heap.size := (h.below hb).more hb.size
end

/-- An attribute. -/
def attrL (es : List EventV) (at_ a : Int) : V :=
  if h : 0 ≤ at_ ∧ at_.toNat < es.length then
    let e := es[at_.toNat]
    if a = -1 then intV e.time else if h2 : 0 ≤ a ∧ a.toNat < e.attrs.length then clean e.attrs[a.toNat] else none0
  else none0
/-- The events of a position. -/
def hasL (bs : List IntsV) (pos : Int) : List Int :=
  if h : 0 ≤ pos ∧ pos.toNat < bs.length then bs[pos.toNat].l else []

theorem has_any (k : LookV) (pos : Int) (w : World) (B : Nat) (hB : B ≤ w.heap.size) (h : k.ok w B) :
    Calls Try.prog 27 #[k.val, .int .i64 pos] w fun e w' => ∃ A c, e = .returned (.slice A (hasL k.bs pos).length c) ∧ Rd w B A (icells (hasL k.bs pos)) ∧ (hasL k.bs pos).length ≤ 1048577 ∧ Below w.heap.size w w' := by
  have hl := h.blen
  by_cases h0 : 0 ≤ pos
  · obtain ⟨n, rfl⟩ : ∃ n : Nat, pos = n := ⟨pos.toNat, by omega⟩
    by_cases h1 : n < k.bs.length
    · obtain ⟨b, o, hA, hb0, hc⟩ := h.brd.elem (n := 1) (fun _ => rfl) (by omega) h1
      have hb := Nat.lt_of_lt_of_le hb0 hB
      clear hb0 hB
      have hc0 : w.cell? ⟨b, o + n * 1, none⟩ = some (.slice k.bs[n].A k.bs[n].l.length k.bs[n].c) := hc 0 _ rfl
      rw [Nat.mul_one] at hc0
      have e : hasL k.bs n = k.bs[n].l := by unfold hasL; rw [dif_pos ⟨h0, by simpa using h1⟩]; rfl
      have hk := h.beach k.bs[n] (by simp)
      rw [e]
      unfold LookV.val
      rw [hA]
      clear hc h e
      go_enter Try.func27, Try.ntmps27
      go_wp2
      go_ret
      exact ⟨_, _, rfl, hk.1, hk.2, (Below.refl _ _).alloc (Nat.le_refl _) _⟩
    · have e : hasL k.bs n = [] := by unfold hasL; rw [dif_neg (by simp; omega)]
      rw [e]
      unfold LookV.val
      clear h
      go_enter Try.func27, Try.ntmps27
      go_wp2
      go_ret
      exact ⟨_, _, rfl, Rd.nil, by simp, (Below.refl _ _).alloc (Nat.le_refl _) _⟩
  · have e : hasL k.bs pos = [] := by unfold hasL; rw [dif_neg (fun h => h0 h.1)]
    rw [e]
    unfold LookV.val
    clear h
    go_enter Try.func27, Try.ntmps27
    go_wp2
    go_ret
    exact ⟨none, ⟨0, rfl⟩, Rd.nil, (Below.refl _ _).alloc (Nat.le_refl _) _⟩

/-- The attribute of an event that is there. -/
def attrE (e : EventV) (a : Int) : V := if a = -1 then intV e.time else if h2 : 0 ≤ a ∧ a.toNat < e.attrs.length then clean e.attrs[a.toNat] else none0
theorem attrL_in {es : List EventV} {n : Nat} (h : n < es.length) (a : Int) : attrL es n a = attrE es[n] a := by
  unfold attrL; rw [dif_pos ⟨by omega, by simpa using h⟩]; rfl
theorem attrL_out {es : List EventV} {z : Int} (h : z < 0 ∨ (es.length : Int) ≤ z) (a : Int) : attrL es z a = none0 := by
  unfold attrL; rw [dif_neg (by omega)]
theorem attrE_out {e : EventV} {a : Int} (h : a < -1 ∨ (e.attrs.length : Int) ≤ a) : attrE e a = none0 := by
  unfold attrE; rw [if_neg (by omega), dif_neg (by omega)]
theorem attrE_in {e : EventV} {m : Nat} (h : m < e.attrs.length) : attrE e m = clean e.attrs[m] := by
  unfold attrE; rw [if_neg (by omega), dif_pos ⟨by omega, by simpa using h⟩]; rfl

theorem attr_in (es : List EventV) (ec : Nat) (E : EventV) (n : Nat) (h1 : n < es.length) (hl : es.length ≤ 1048576) (b o : Nat) (bs : List IntsV) (BA : Option Addr) (bc : Nat) (cur : Int) (a : Int) (w : World) (hb : b < w.heap.size)
    (hc : ∀ (j : Nat) (u : Value), E.cells[j]? = some u → w.cell? ⟨b, o + n * 3 + j, none⟩ = some u) (hE : E.ok w w.heap.size) :
    Calls Try.prog 26 #[.agg #[.slice (some ⟨b, o, none⟩) es.length ec, .slice BA bs.length bc, .int .i64 cur], .int .i64 n, .int .i64 a] w fun e w' => e = .returned (attrE E a).v ∧ Below w.heap.size w w' := by
  have hc0 : w.cell? ⟨b, o + n * 3, none⟩ = some (.int .i64 E.type) := hc 0 _ rfl
  have hc1 : w.cell? ⟨b, o + n * 3 + 1, none⟩ = some (.int .i64 E.time) := hc 1 _ rfl
  have hc2 : w.cell? ⟨b, o + n * 3 + 2, none⟩ = some (.slice E.A E.attrs.length E.c) := hc 2 _ rfl
  clear hc
  obtain ⟨hr, hlen, hfit⟩ := hE
  by_cases ha : a = -1
  · subst ha
    rw [show attrE E (-1) = intV E.time from if_pos rfl]
    go_enter Try.func26, Try.ntmps26
    go_wp2
    exact bodyPost_ret (v := .agg #[.int .i64 1, .int .u64 (IntKind.u64.wrap E.time)]) (by simp [results, Try.results26, go_sem]) rfl ⟨by simp only [intV, V.v, un_wrap], by repeat (first | exact Below.refl _ _ | refine Below.setCell ?_ (Nat.le_refl _) _ | refine Below.alloc ?_ (by first | (simp; done) | (simp; omega)) _)⟩
  · by_cases ha1 : a < 0
    · rw [attrE_out (.inl (by omega))]
      go_enter Try.func26, Try.ntmps26
      go_wp2
      exact bodyPost_ret (v := .agg #[.int .i64 0, .int .u64 0]) (by simp [results, Try.results26, go_sem]) rfl ⟨rfl, by repeat (first | exact Below.refl _ _ | refine Below.setCell ?_ (Nat.le_refl _) _ | refine Below.alloc ?_ (by first | (simp; done) | (simp; omega)) _)⟩
    · obtain ⟨m, rfl⟩ : ∃ m : Nat, a = m := ⟨a.toNat, by omega⟩
      by_cases hm : m < E.attrs.length
      · rw [attrE_in hm]
        obtain ⟨b2, o2, hA2, hb2, hd⟩ := hr.elem (n := 2) (fun _ => rfl) (by omega) hm
        have hd0 : w.cell? ⟨b2, o2 + m * 2, none⟩ = some (.int .i64 E.attrs[m].k) := hd 0 _ rfl
        have hd1 : w.cell? ⟨b2, o2 + m * 2 + 1, none⟩ = some (.int .u64 E.attrs[m].b) := hd 1 _ rfl
        have hf := hfit E.attrs[m] (by simp)
        rw [hA2] at hc2
        have bel3 : ∀ x1 x2 x3 : Obj, Below w.heap.size w (((w.alloc x1).alloc x2).alloc x3) := fun _ _ _ => (((Below.refl _ _).alloc (Nat.le_refl _) _).alloc (by simp) _).alloc (by simp; omega) _
        have hd0 : ∀ x1 x2 x3 : Obj, (((w.alloc x1).alloc x2).alloc x3).cell? ⟨b2, o2 + m * 2, none⟩ = some (.int .i64 E.attrs[m].k) := fun _ _ _ => ((bel3 _ _ _).cell (p := ⟨b2, o2 + m * 2, none⟩) hb2).trans hd0
        have hd1 : ∀ x1 x2 x3 : Obj, (((w.alloc x1).alloc x2).alloc x3).cell? ⟨b2, o2 + m * 2 + 1, none⟩ = some (.int .u64 E.attrs[m].b) := fun _ _ _ => ((bel3 _ _ _).cell (p := ⟨b2, o2 + m * 2 + 1, none⟩) hb2).trans hd1
        clear hd hr hfit
        generalize hX : E.attrs[m] = X at *
        go_enter Try.func26, Try.ntmps26
        go_wp2_with fail
        go_at_call 22
        refine (pclean_any X hf _).mono ?_
        rintro e w1 ⟨rfl, hb1⟩
        have kr := Bk.old (((Bk.newAt (w := w.alloc (.cells #[.slice (some ⟨b, o, none⟩) es.length ec, .slice BA bs.length bc, .int .i64 cur] 28)) (g := w.heap.size + 1) (by simp) 31 #[.int .i64 0, .int .u64 0]).alloc _)) hb1
        have hb1 : Below w.heap.size w w1 := (bel3 _ _ _).trans (hb1.mono (by simp; omega))
        unfold V.v
        obtain ⟨c0, c1, f0, f1⟩ := vcells kr
        obtain ⟨d0, d1, _, _⟩ := vcells (vput kr (.int .i64 (clean X).k) (.int .u64 (clean X).b))
        clear kr
        go_wp2
        exact bodyPost_ret (v := .agg #[.int .i64 (clean X).k, .int .u64 (clean X).b]) (by simp [results, Try.results26, go_sem, d0, d1]) rfl ⟨rfl, (hb1.setCell (by simp) _).setCell (by simp) _⟩
      · rw [attrE_out (.inr (by omega))]
        go_enter Try.func26, Try.ntmps26
        go_wp2
        exact bodyPost_ret (v := .agg #[.int .i64 0, .int .u64 0]) (by simp [results, Try.results26, go_sem]) rfl ⟨rfl, by repeat (first | exact Below.refl _ _ | refine Below.setCell ?_ (Nat.le_refl _) _ | refine Below.alloc ?_ (by first | (simp; done) | (simp; omega)) _)⟩
theorem attr_any (k : LookV) (at_ a : Int) (w : World) (h : k.ok w w.heap.size) :
    Calls Try.prog 26 #[k.val, .int .i64 at_, .int .i64 a] w fun e w' => e = .returned (attrL k.es at_ a).v ∧ Below w.heap.size w w' := by
  have hl := h.elen
  by_cases h0 : 0 ≤ at_ ∧ at_ < k.es.length
  · obtain ⟨n, rfl⟩ : ∃ n : Nat, at_ = n := ⟨at_.toNat, by omega⟩
    have h1 : n < k.es.length := by omega
    obtain ⟨b, o, hA, hb, hc⟩ := h.erd.elem (n := 3) (fun _ => rfl) (by omega) h1
    rw [attrL_in h1]
    unfold LookV.val
    rw [hA]
    exact attr_in _ _ _ _ h1 hl b o _ _ _ _ _ _ hb hc (h.each k.es[n] (by simp))
  · rw [attrL_out (by omega)]
    unfold LookV.val
    clear h
    by_cases h2 : at_ < 0
    · go_enter Try.func26, Try.ntmps26
      go_wp2
      exact bodyPost_ret (v := .agg #[.int .i64 0, .int .u64 0]) (by simp [results, Try.results26, go_sem]) rfl ⟨rfl, by repeat (first | exact Below.refl _ _ | refine Below.setCell ?_ (Nat.le_refl _) _ | refine Below.alloc ?_ (by first | (simp; done) | (simp; omega)) _)⟩
    · go_enter Try.func26, Try.ntmps26
      go_wp2
      exact bodyPost_ret (v := .agg #[.int .i64 0, .int .u64 0]) (by simp [results, Try.results26, go_sem]) rfl ⟨rfl, by repeat (first | exact Below.refl _ _ | refine Below.setCell ?_ (Nat.le_refl _) _ | refine Below.alloc ?_ (by first | (simp; done) | (simp; omega)) _)⟩

theorem attrL_fits {es : List EventV} {w : World} {B : Nat} (h : ∀ e ∈ es, e.ok w B) (at_ a : Int) : (attrL es at_ a).fits := by
  unfold attrL
  split
  · dsimp only
    split
    · exact un_lt _
    · split
      · rename_i h1 _ h2
        have := (h es[at_.toNat] (List.getElem_mem _)).2.2
        exact clean_fits _ (this _ (List.getElem_mem _))
      · exact (by decide : (0 : Nat) < 18446744073709551616)
  · exact (by decide : (0 : Nat) < 18446744073709551616)
theorem attrL_clean (es : List EventV) (at_ a : Int) : clean (attrL es at_ a) = attrL es at_ a := by
  unfold attrL
  split
  · dsimp only
    split
    · exact clean_same _ (.inl rfl)
    · split
      · exact clean_clean _
      · exact clean_none _ (by simp [none0]) (by simp [none0])
  · exact clean_none _ (by simp [none0]) (by simp [none0])
end Go.Proofs.Ytomhheihhnmbcaa
