/- Layer 4: scripts cut off: what is told of a script that is wrong. Plain; no conditions. -/
import Derived.Test.YtpakcicbojbonaaDoorEvtT
namespace Go.Proofs.YtpakcicbojbonaaDoor
open Go.ChangeShapes Go.WideShapes Go.ChangeAt Go.RowKit
set_option maxRecDepth 10000
set_option linter.unusedVariables false
set_option linter.unusedSimpArgs false

section
variable {H : Type} {enc : TypeId × Value → H} {w : World}
theorem opens_events2 (N : Nat) : Opens enc Tryd.prog w (N + 4) 51 (fun cs => ∃ (A : Option Addr) (c : Nat) (l : List EventV), cs = [.slice A l.length c] ∧ (l.length ≤ c ∧ l.length ≤ 3518437208780) ∧ Rd w w.heap.size A (l.flatMap EventV.cells) ∧ ∀ x ∈ l, x.ok w w.heap.size) :=
  (opens_slice Tryd.underlying51 cEvent (by omega) bEvent (fun _ => rfl) (opens_event N)).imp fun cs ⟨A, c, l, h, hl, hc, hr, hq⟩ => ⟨A, c, l, h, ⟨hl, by omega⟩, hr, hq⟩
theorem open_events2 {r : Reach} {b0 : Nat} {v : Value} {d : DataW H} {p : List MemPlace} (hv : Value.okWide Tryd.prog w r b0 51 v) (h : DataW.Trod enc Tryd.prog w 0 (fun _ => true) true 51 v d p)
    (hw : (d.weights Tryd.prog 51).all (· ≤ reachBytes) = true) : ∃ (A : Option Addr) (c : Nat) (l : List EventV), v = .slice A l.length c ∧ (l.length ≤ c ∧ l.length ≤ 3518437208780) ∧ Rd w w.heap.size A (l.flatMap EventV.cells) ∧ ∀ x ∈ l, x.ok w w.heap.size := by
  obtain ⟨A0, n0, c0, rfl⟩ := okWide_slice Tryd.underlying51 hv
  obtain ⟨A, c, l, hx, hl, hr, hq⟩ := Opens.arg (fun N => fun fuel hf => opens_events2 N fuel (by omega)) h hw
  refine ⟨A, c, l, ?_, hl, hr, hq⟩
  simpa [Value.cells] using hx
end
/-- Rows of events that can be read. -/
def RowsAt (L : List (Int × Int × List V)) (v : Value) (w : World) : Prop := ∃ (A : Option Addr) (c : Nat) (l : List EventV), v = .slice A l.length c ∧ l.map EventV.sig = L ∧ l.length ≤ 3518437208780 ∧ Rd w w.heap.size A (l.flatMap EventV.cells) ∧ ∀ e ∈ l, e.ok w w.heap.size
theorem RowsAt.keep {L : List (Int × Int × List V)} (v : Value) (w w' : World) (hb : Below w.heap.size w w') (h : RowsAt L v w) : RowsAt L v w' := by
  obtain ⟨A, c, l, h1, h2, h3, h4, h5⟩ := h
  exact ⟨A, c, l, h1, h2, h3, (h4.below hb).more hb.size, fun e he => (h5 e he).old hb⟩
theorem all_at (l : List EventV) (A0 : Option Addr) (c0 : Nat) (w : World) (hr : Rd w w.heap.size A0 (l.flatMap EventV.cells)) (hl : l.length ≤ 3518437208780) (hok : ∀ e ∈ l, e.ok w w.heap.size) :
    Calls Tryd.prog 17 #[.slice A0 l.length c0] w fun r w' => ∃ v, r = .returned v ∧ RowsAt (l.map EventV.sig) v w' ∧ Below w.heap.size w w' := by
  refine (evAll_any l A0 c0 w hr hl hok).mono fun r w' h => ?_
  obtain ⟨A2, c2, l', h1, h2, h3, h4, h5⟩ := h
  obtain ⟨h6, h7, h8⟩ := rows_ok h2 rfl h3 h4 hok
  exact ⟨_, h1, ⟨A2, c2, l', by rw [h6], h2, by omega, h7, h8⟩, h5⟩
theorem rd_pre {w : World} {B : Nat} {A : Option Addr} {xs ys : List Value} (h : Rd w B A (xs ++ ys)) : Rd w B A xs := by
  rcases h with h | ⟨b, o, h1, h2, h3⟩
  · exact .inl (List.append_eq_nil_iff.1 h).1
  · refine .inr ⟨b, o, h1, h2, fun j u hu => h3 j u ?_⟩
    rw [List.getElem?_append_left (List.getElem?_eq_some_iff.1 hu).1]; exact hu
theorem rd_take {w : World} {B : Nat} {A : Option Addr} {l : List EventV} (h : Rd w B A (l.flatMap EventV.cells)) (m : Nat) : Rd w B A ((l.take m).flatMap EventV.cells) := by
  have e : l.flatMap EventV.cells = (l.take m).flatMap EventV.cells ++ (l.drop m).flatMap EventV.cells := by rw [← List.flatMap_append, List.take_append_drop]
  rw [e] at h
  exact rd_pre h
/-- Of a script that is wrong at a place: all ahead of it is right; it is wrong there. -/
theorem from_cuts (T : List TSig) (Y : List ByteArray) : ∀ (l : List (Int × Int × List V)) (k : Nat) (prev : Option Int) (a e : Int), scriptFrom T Y k prev l = (a, e) →
    (a = 0 ∧ e = 0) ∨ ∃ (m : Nat) (h : m < l.length), a = ((k + m : Nat) : Int) ∧ scriptFrom T Y k prev (l.take m) = (0, 0) ∧ scriptFrom T Y k prev (l.take (m + 1)) = (a, e) ∧ ((e = 20 ∧ validB T Y l[m] = false) ∨ (e = 21 ∧ validB T Y l[m] = true))
  | [], k, prev, a, e, h => by
    left
    simp only [scriptFrom, Prod.mk.injEq] at h
    exact ⟨h.1.symm, h.2.symm⟩
  | x :: l, k, prev, a, e, h => by
    have hs : ∀ l, scriptFrom T Y k prev (x :: l) = if validB T Y x then (if (match prev with | some t => decide (x.2.1 < t) | none => false) then ((k : Int), 21) else scriptFrom T Y (k + 1) (some x.2.1) l) else ((k : Int), 20) := fun _ => rfl
    rw [hs] at h
    cases hv : validB T Y x
    · rw [hv] at h
      rw [if_neg (by decide)] at h
      simp only [Prod.mk.injEq] at h
      obtain ⟨rfl, rfl⟩ := h
      right
      refine ⟨0, by simp, rfl, rfl, ?_, .inl ⟨rfl, hv⟩⟩
      show scriptFrom T Y k prev (x :: []) = _
      rw [hs, hv, if_neg (by decide)]
    · rw [hv, if_pos rfl] at h
      cases hp : (match prev with | some t => decide (x.2.1 < t) | none => false)
      · rw [hp, if_neg (by decide)] at h
        rcases from_cuts T Y l (k + 1) (some x.2.1) a e h with h0 | ⟨m, hm, h1, h2, h3, h4⟩
        · exact .inl h0
        · right
          refine ⟨m + 1, by simpa using hm, by rw [h1]; omega, ?_, ?_, by simpa using h4⟩
          · show scriptFrom T Y k prev (x :: l.take m) = _
            rw [hs, hv, if_pos rfl, hp, if_neg (by decide), h2]
          · show scriptFrom T Y k prev (x :: l.take (m + 1)) = _
            rw [hs, hv, if_pos rfl, hp, if_neg (by decide), h3]
      · rw [hp, if_pos rfl] at h
        simp only [Prod.mk.injEq] at h
        obtain ⟨rfl, rfl⟩ := h
        right
        refine ⟨0, by simp, rfl, rfl, ?_, .inr ⟨rfl, hv⟩⟩
        show scriptFrom T Y k prev (x :: []) = _
        rw [hs, hv, if_pos rfl, hp, if_pos rfl]
theorem script_cuts (T : List TSig) (Y : List ByteArray) (l : List (Int × Int × List V)) {a e : Int} (h : scriptB T Y l = (a, e)) :
    (a = 0 ∧ e = 0) ∨ ∃ (m : Nat) (hm : m < l.length), a = (m : Int) ∧ scriptB T Y (l.take m) = (0, 0) ∧ scriptB T Y (l.take (m + 1)) = (a, e) ∧ ((e = 20 ∧ validB T Y l[m] = false) ∨ (e = 21 ∧ validB T Y l[m] = true)) := by
  rcases from_cuts T Y l 0 none a e h with h0 | ⟨m, hm, h1, h2⟩
  · exact .inl h0
  · exact .inr ⟨m, hm, by rw [h1, Nat.zero_add], h2⟩
end Go.Proofs.YtpakcicbojbonaaDoor
