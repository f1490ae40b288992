/- Layer 9: the document's attribute. No conditions. -/
import Derived.Test.YtomhheihhnmbcaaEvA
namespace Go.Proofs.Ytomhheihhnmbcaa
open Go.RowKit
set_option linter.unusedVariables false
set_option linter.unusedSimpArgs false

theorem rattr_in (es : List EventV) (ec : Nat) (E : EventV) (n : Nat) (h1 : n < es.length) (hl : es.length ≤ 1048576) (b o : Nat) (a : Int) (w : World) (hb : b < w.heap.size)
    (hc : ∀ (j : Nat) (u : Value), E.cells[j]? = some u → w.cell? ⟨b, o + n * 3 + j, none⟩ = some u) (hE : E.ok w w.heap.size) :
    Calls Try.prog 30 #[.slice (some ⟨b, o, none⟩) es.length ec, .int .i64 n, .int .i64 a] w fun e w' => e = .returned (attrE E a).v ∧ Below w.heap.size w w' := by
  have hc0 : w.cell? ⟨b, o + n * 3, none⟩ = some (.int .i64 E.type) := hc 0 _ rfl
  have hc1 : w.cell? ⟨b, o + n * 3 + 1, none⟩ = some (.int .i64 E.time) := hc 1 _ rfl
  have hc2 : w.cell? ⟨b, o + n * 3 + 2, none⟩ = some (.slice E.A E.attrs.length E.c) := hc 2 _ rfl
  clear hc
  obtain ⟨hr, hlen, hfit⟩ := hE
  by_cases ha : a = -1
  · subst ha
    rw [show attrE E (-1) = intV E.time from if_pos rfl]
    go_enter Try.func30, Try.ntmps30
    go_wp2
    exact bodyPost_ret (v := .agg #[.int .i64 1, .int .u64 (IntKind.u64.wrap E.time)]) (by simp [results, Try.results30, go_sem]) rfl ⟨by simp only [intV, V.v, un_wrap], by repeat (first | exact Below.refl _ _ | refine Below.setCell ?_ (Nat.le_refl _) _ | refine Below.alloc ?_ (by first | (simp; done) | (simp; omega)) _)⟩
  · by_cases ha1 : a < 0
    · rw [attrE_out (.inl (by omega))]
      have ha2 : a < -1 := by omega
      go_enter Try.func30, Try.ntmps30
      go_wp2
      exact bodyPost_ret (v := .agg #[.int .i64 0, .int .u64 0]) (by simp [results, Try.results30, go_sem]) rfl ⟨rfl, by repeat (first | exact Below.refl _ _ | refine Below.setCell ?_ (Nat.le_refl _) _ | refine Below.alloc ?_ (by first | (simp; done) | (simp; omega)) _)⟩
    · obtain ⟨m, rfl⟩ : ∃ m : Nat, a = m := ⟨a.toNat, by omega⟩
      by_cases hm : m < E.attrs.length
      · rw [attrE_in hm]
        obtain ⟨b2, o2, hA2, hb2, hd⟩ := hr.elem (n := 2) (fun _ => rfl) (by omega) hm
        have hd0 : w.cell? ⟨b2, o2 + m * 2, none⟩ = some (.int .i64 E.attrs[m].k) := hd 0 _ rfl
        have hd1 : w.cell? ⟨b2, o2 + m * 2 + 1, none⟩ = some (.int .u64 E.attrs[m].b) := hd 1 _ rfl
        have hf := hfit E.attrs[m] (by simp)
        rw [hA2] at hc2
        have bel1 : ∀ x1 : Obj, Below w.heap.size w (w.alloc x1) := fun _ => (Below.refl _ _).alloc (Nat.le_refl _) _
        have hd0 : ∀ x1 : Obj, (w.alloc x1).cell? ⟨b2, o2 + m * 2, none⟩ = some (.int .i64 E.attrs[m].k) := fun _ => ((bel1 _).cell (p := ⟨b2, o2 + m * 2, none⟩) hb2).trans hd0
        have hd1 : ∀ x1 : Obj, (w.alloc x1).cell? ⟨b2, o2 + m * 2 + 1, none⟩ = some (.int .u64 E.attrs[m].b) := fun _ => ((bel1 _).cell (p := ⟨b2, o2 + m * 2 + 1, none⟩) hb2).trans hd1
        clear hd hr hfit
        generalize hX : E.attrs[m] = X at *
        go_enter Try.func30, Try.ntmps30
        go_wp2_with fail
        go_at_call 29
        refine (rclean_any X hf _).mono ?_
        rintro e w1 ⟨rfl, hb1⟩
        have kr := Bk.old (Bk.new w 46 #[.int .i64 0, .int .u64 0]) hb1
        have hb1 : Below w.heap.size w w1 := (bel1 _).trans (hb1.mono (by simp))
        unfold V.v
        obtain ⟨c0, c1, f0, f1⟩ := vcells kr
        obtain ⟨d0, d1, _, _⟩ := vcells (vput kr (.int .i64 (clean X).k) (.int .u64 (clean X).b))
        clear kr
        go_wp2
        exact bodyPost_ret (v := .agg #[.int .i64 (clean X).k, .int .u64 (clean X).b]) (by simp [results, Try.results30, go_sem, d0, d1]) rfl ⟨rfl, (hb1.setCell (by simp) _).setCell (by simp) _⟩
      · rw [attrE_out (.inr (by omega))]
        go_enter Try.func30, Try.ntmps30
        go_wp2
        exact bodyPost_ret (v := .agg #[.int .i64 0, .int .u64 0]) (by simp [results, Try.results30, go_sem]) rfl ⟨rfl, by repeat (first | exact Below.refl _ _ | refine Below.setCell ?_ (Nat.le_refl _) _ | refine Below.alloc ?_ (by first | (simp; done) | (simp; omega)) _)⟩

theorem rattr_any (k : LookV) (at_ a : Int) (w : World) (h : k.ok w w.heap.size) :
    Calls Try.prog 30 #[.slice k.EA k.es.length k.ec, .int .i64 at_, .int .i64 a] w fun e w' => e = .returned (attrL k.es at_ a).v ∧ Below w.heap.size w w' := by
  have hl := h.elen
  by_cases h0 : 0 ≤ at_ ∧ at_ < k.es.length
  · obtain ⟨n, rfl⟩ : ∃ n : Nat, at_ = n := ⟨at_.toNat, by omega⟩
    have h1 : n < k.es.length := by omega
    obtain ⟨b, o, hA, hb, hc⟩ := h.erd.elem (n := 3) (fun _ => rfl) (by omega) h1
    rw [attrL_in h1, hA]
    exact rattr_in _ _ _ _ h1 hl b o _ _ hb hc (h.each k.es[n] (by simp))
  · rw [attrL_out (by omega)]
    clear h
    by_cases h2 : at_ < 0
    · go_enter Try.func30, Try.ntmps30
      go_wp2
      exact bodyPost_ret (v := .agg #[.int .i64 0, .int .u64 0]) (by simp [results, Try.results30, go_sem]) rfl ⟨rfl, by repeat (first | exact Below.refl _ _ | refine Below.setCell ?_ (Nat.le_refl _) _ | refine Below.alloc ?_ (by first | (simp; done) | (simp; omega)) _)⟩
    · go_enter Try.func30, Try.ntmps30
      go_wp2
      exact bodyPost_ret (v := .agg #[.int .i64 0, .int .u64 0]) (by simp [results, Try.results30, go_sem]) rfl ⟨rfl, by repeat (first | exact Below.refl _ _ | refine Below.setCell ?_ (Nat.le_refl _) _ | refine Below.alloc ?_ (by first | (simp; done) | (simp; omega)) _)⟩
end Go.Proofs.Ytomhheihhnmbcaa
