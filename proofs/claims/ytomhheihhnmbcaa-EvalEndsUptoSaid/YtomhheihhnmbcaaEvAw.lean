/- Layer 9: the law's do, ints, awake. No conditions. -/
import Derived.Test.YtomhheihhnmbcaaEvT
namespace Go.Proofs.Ytomhheihhnmbcaa
open Go.RowKit
set_option linter.unusedVariables false
set_option linter.unusedSimpArgs false

/-- An aggregate, or an attribute, of a look. -/
def doV (kk : LookV) (op pos a : Int) : V := evalN kk 1 (.mk op 0 none 0 [] 0 0 pos a)
theorem doV_eq (kk : LookV) (op pos a : Int) : doV kk op pos a = (if op = 40 then clean ⟨0, 0⟩ else if op = 41 then attrL kk.es kk.cur a else if op = 25 then intV (hasL kk.bs pos).length
    else if op = 42 ∨ (26 ≤ op ∧ op ≤ 31) then aggV op ((hasL kk.bs pos).map fun at_ => attrL kk.es at_ a) else applyV op []) := rfl
theorem ok_leaf (op pos a : Int) (w : World) (B : Nat) : okN 1 (.mk op 0 none 0 [] 0 0 pos a) w B := ⟨Rd.nil, by simp, by decide, by simp⟩
theorem doV_fits {kk : LookV} {w : World} {B : Nat} (hk : kk.ok w B) (op pos a : Int) : (doV kk op pos a).fits := evalN_fits hk (ok_leaf op pos a w B)

set_option maxRecDepth 100000 in
theorem do_any (kk : LookV) (op pos a : Int) (w : World) (hk : kk.ok w w.heap.size) :
    Calls Try.prog 9 #[.int .i64 op, .int .i64 pos, .int .i64 a, kk.val] w fun e w' => e = .returned (doV kk op pos a).v ∧ Below w.heap.size w w' := by
  have HC : Hid (Calls Try.prog 13 #[.agg #[.int .i64 op, .int .i64 0, .slice none 0 0, .int .i64 0, .int .u64 0, .int .i64 pos, .int .i64 a], .agg #[.slice kk.EA kk.es.length kk.ec, .slice kk.BA kk.bs.length kk.bc, .int .i64 kk.cur]] ((w.alloc (.cells #[.slice kk.EA kk.es.length kk.ec, .slice kk.BA kk.bs.length kk.bc, .int .i64 kk.cur] 28)).alloc (.cells #[.int .i64 0, .int .u64 0] 31)) fun e w' => e = .returned (doV kk op pos a).v ∧ Below ((w.alloc (.cells #[.slice kk.EA kk.es.length kk.ec, .slice kk.BA kk.bs.length kk.bc, .int .i64 kk.cur] 28)).alloc (.cells #[.int .i64 0, .int .u64 0] 31)).heap.size ((w.alloc (.cells #[.slice kk.EA kk.es.length kk.ec, .slice kk.BA kk.bs.length kk.bc, .int .i64 kk.cur] 28)).alloc (.cells #[.int .i64 0, .int .u64 0] 31)) w') :=
    Lib.hid (pnode_any kk 1 (.mk op 0 none 0 [] 0 0 pos a) _ (ok_leaf _ _ _ _ _) (hk.old (bel2 _ _ _)))
  clear hk
  generalize doV kk op pos a = R at *
  unfold LookV.val
  go_enter Try.func9, Try.ntmps9
  go_wp2_with fail
  refine HC.out.mono ?_
  rintro e w1 ⟨rfl, hb1⟩
  simp only [V.v]
  have kr := (Bk.newAt (w := w.alloc (.cells #[.slice kk.EA kk.es.length kk.ec, .slice kk.BA kk.bs.length kk.bc, .int .i64 kk.cur] 28)) (g := w.heap.size + 1) (by simp) 31 #[.int .i64 0, .int .u64 0]).old hb1
  have hbe : Below w.heap.size w w1 := (bel2 _ _ _).trans (hb1.mono (by simp; omega))
  clear hb1
  obtain ⟨c0, c1, f0, f1⟩ := vcells kr
  obtain ⟨d0, d1, _, _⟩ := vcells (vput kr (.int .i64 R.k) (.int .u64 R.b))
  clear kr
  go_wp2_with fail
  exact bodyPost_ret (v := .agg #[.int .i64 R.k, .int .u64 R.b]) (by simp [results, Try.results9, go_sem, d0, d1]) rfl ⟨rfl, (hbe.setCell (by first | (simp; done) | (simp; omega)) _).setCell (by first | (simp; done) | (simp; omega)) _⟩

/-- An event with one Int. -/
def evI (g : Nat) (n : Int) : EventV := ⟨0, 0, some ⟨g, 0, none⟩, 1, [intV n]⟩
/-- Events with one Int each. -/
def EvIs (l : List Int) (es : List EventV) (w : World) (B : Nat) : Prop :=
  es.map (fun e => e.attrs) = l.map (fun n => [intV n]) ∧ ∀ e ∈ es, ∃ g n, e = evI g n ∧ B ≤ g ∧ Bk w g 31 #[.int .i64 1, .int .u64 (un n)]
theorem EvIs.len {l : List Int} {es : List EventV} {w : World} {B : Nat} (h : EvIs l es w B) : es.length = l.length := by
  have := congrArg List.length h.1
  simpa using this
theorem EvIs.keep {l : List Int} {es : List EventV} {w w' : World} {B : Nat} (h : EvIs l es w B) (hk : ∀ g n, Bk w g 31 #[.int .i64 1, .int .u64 (un n)] → Bk w' g 31 #[.int .i64 1, .int .u64 (un n)]) : EvIs l es w' B :=
  ⟨h.1, fun e he => let ⟨g, n, h1, h2, h3⟩ := h.2 e he; ⟨g, n, h1, h2, hk _ _ h3⟩⟩
theorem EvIs.ok {l : List Int} {es : List EventV} {w : World} {B : Nat} (h : EvIs l es w B) : ∀ e ∈ es, e.ok w w.heap.size := by
  intro e he
  obtain ⟨g, n, rfl, _, hb⟩ := h.2 e he
  exact ⟨bk_rd hb, by simp [evI], by intro x hx; simp only [evI, List.mem_cons, List.not_mem_nil, or_false] at hx; subst hx; exact intV_fits _⟩
theorem EvIs.attr {l : List Int} {es : List EventV} {w : World} {B : Nat} (h : EvIs l es w B) {i : Nat} (hi : i < l.length) : attrL es i 0 = intV l[i] := by
  have he : i < es.length := by rw [h.len]; exact hi
  rw [attrL_in he]
  have ha : es[i].attrs = [intV l[i]] := by
    have h1 : (es.map (fun e => e.attrs))[i]? = (l.map (fun n => [intV n]))[i]? := by rw [h.1]
    rw [List.getElem?_map, List.getElem?_map, List.getElem?_eq_getElem he, List.getElem?_eq_getElem hi] at h1
    exact Option.some.inj h1
  have h0 : (0 : Nat) < es[i].attrs.length := by rw [ha]; simp
  have := attrE_in h0
  rw [show ((0 : Nat) : Int) = 0 from rfl] at this
  rw [this]
  have e0 : es[i].attrs[0] = intV l[i] := by
    have : es[i].attrs[0]? = some (intV l[i]) := by rw [ha]; rfl
    rw [List.getElem?_eq_getElem h0] at this
    exact Option.some.inj this
  rw [e0, clean_intV]
theorem infoE : (Try.prog.info? 63).map (fun i => (i.zero, i.size, i.bytes)) = some (some (.agg #[.int .i64 0, .int .i64 0, .slice none 0 0]), 3, 40) := by kernel_rfl

def i64cells (l : List Int) : List Value := l.map fun n : Int => Value.int .i64 n
set_option maxRecDepth 100000 in
set_option maxHeartbeats 1000000 in
theorem ints_any (l : List Int) (A : Option Addr) (c : Nat) (w : World) (hr : Rd w w.heap.size A (i64cells l)) (hl : l.length ≤ 1048577) :
    Calls Try.prog 11 #[.slice A l.length c] w fun e w' => ∃ A' c' es, e = .returned (.slice A' l.length c') ∧ EvIs l es w' w.heap.size ∧ w'.ownsRow w.heap.size 63 3 (.slice A' l.length c') l.length (es.flatMap EventV.cells) ∧ Below w.heap.size w w' := by
  obtain ⟨iE, hE, hE0, hE1, hE2⟩ := info_parts infoE
  have HRD := Lib.hid hr
  clear hr
  go_enter Try.func11, Try.ntmps11
  go_wp2_with fail
  go_loopw [3, 8] (fun vs i wr => ∃ (k : Nat) (Av : Option Addr) (cv : Nat) (es : List EventV), k ≤ l.length ∧ i = .int .i64 k ∧ vs = .slice Av k cv ∧ Below w.heap.size w wr ∧ EvIs (l.take k) es wr w.heap.size ∧
      wr.ownsRow w.heap.size 63 3 vs k (es.flatMap EventV.cells)) (fun _ i _ => l.length - (intOf i).toNat)
  case atStart => exact ⟨0, none, 0, [], Nat.zero_le _, rfl, rfl, Below.refl _ _, ⟨rfl, by simp⟩, World.ownsRow_nil _ _ _ _⟩
  case round =>
    obtain ⟨k, Av, cv, es, hk, rfl, rfl, hbel, hes, hown⟩ := hrel
    by_cases hlt : k < l.length
    · as_aux_lemma =>
      obtain ⟨b, o, rfl, hb, hc⟩ := (HRD.out.below hbel).elem1 (f := fun n : Int => Value.int .i64 n) hlt
      have hnx : (l.take (k + 1)) = l.take k ++ [l[k]] := List.take_succ_eq_append_getElem hlt
      have HES := Lib.hid hes
      have HNX := Lib.hid hnx
      clear hes hnx
      generalize l[k] = n at *
      have hz := hbel.size
      go_wp2_with (at_builtin; refine wpList_append_rd rfl _ _ 22 rfl w.heap.size 63 iE _ 3 40 Try.underlying22 hE hE0 hE1 hE2 rfl (by decide) (.slice Av k cv) k _ rfl ((hown.alloc _).alloc _) (wr.heap.size + 1 + 1) (some ⟨wr.heap.size + 1, 0, none⟩) 1 1 (evI wr.heap.size n).cells rfl (Rd.lit (by simp) _ _) rfl ?c2 ?c3 ?c4 ?c5 ?_)
      case c2 => intro u hu; simp [EventV.cells, evI] at hu; rcases hu with rfl | rfl | rfl <;> rfl
      case c3 => unfold maxLen; omega
      case c4 => omega
      case c5 => simp; omega
      intro A3 c3 w2 hown2 hg _
      have hbel2 : Below w.heap.size w w2 := below_own ((hbel.alloc hbel.size _).alloc (by simp; omega) _) ((hown.alloc _).alloc _) (Nat.le_refl _) hg (by simp; omega)
      have hkeep : ∀ g m, Bk wr g 31 #[.int .i64 1, .int .u64 (un m)] → Bk w2 g 31 #[.int .i64 1, .int .u64 (un m)] := fun g m h => ((h.alloc _).alloc _).grown hg (own_ne_bk hown h (by decide))
      have hnew : Bk w2 wr.heap.size 31 #[.int .i64 1, .int .u64 (un n)] := by
        refine Bk.grown ?_ hg (fun e => by have := (hown.lt _ e.symm).2; omega)
        rw [← un_wrap]
        exact (Bk.new wr _ _).alloc _
      have hes2 : EvIs (l.take (k + 1)) (es ++ [evI wr.heap.size n]) w2 w.heap.size := by
        have h0 := HES.out.keep hkeep
        rw [HNX.out]
        refine ⟨by rw [List.map_append, List.map_append, h0.1]; rfl, fun e he => ?_⟩
        rcases List.mem_append.1 he with he | he
        · exact h0.2 e he
        · simp only [List.mem_cons, List.not_mem_nil, or_false] at he
          subst he
          exact ⟨_, _, rfl, hz, hnew⟩
      have hown3 : w2.ownsRow w.heap.size 63 3 (.slice A3 (k + 1) c3) (k + 1) ((es ++ [evI wr.heap.size n]).flatMap EventV.cells) := by
        rw [List.flatMap_append]
        simpa using hown2
      clear hkeep hnew hg hown hown2 hbel HES HNX
      go_wp2
      go_roundw
      case rel => exact ⟨k + 1, A3, c3, _, by omega, by go_num, rfl, hbel2, hes2, hown3⟩
      case measure => simp [intOf]; omega
    · as_aux_lemma =>
      obtain rfl : k = l.length := by omega
      rw [List.take_length] at hes
      go_wp2
      go_ret
      exact ⟨_, _, es, rfl, hes, hown, hbel⟩
end Go.Proofs.Ytomhheihhnmbcaa
