/- ValueResults holds. No conditions. -/
import Derived.Test.YtlejjchaooeabaaValRd
import Derived.Deep.RegionHeld3
namespace Go.Proofs.Ytlejjchaooeabaa.valueResults
open Go.ChangeShapes Go.WideShapes Go.ChangeAt Go.RowKit
open Go.ChangeMaps (open_string shut_string)
set_option linter.unusedSimpArgs false
set_option linter.unusedVariables false

theorem infoI' : (Try.prog.info? 3).map (fun i => (i.zero, i.size, i.bytes)) = some (some (.int .i64 0), 1, 8) := by kernel_rfl
theorem wpList_append_rdw {P : Program} {w : World} {ops : Array Oper} {rest : List Oper} {o : Oper} {a : Act} {Q : Exit → Act → World → Prop} (hgd : Region.wanted o (yielded ops a.tmps) = true) (s x : Operand) (t : TypeId)
    (ho : o.op = .call { callee := .builtin .append, args := #[s, x], argTypes := #[t, t] })
    (base : Nat) (e : TypeId) (i : TypeInfo) (z : Value) (size bytes : Nat) (ht : P.underlying t = some (.slice e)) (hi : P.info? e = some i) (hz : i.zero = some z)
    (hsize : i.size = size) (hby : i.bytes = bytes) (hzs : z.cells.size = size) (hsz : 0 < size)
    (v : Value) (n : Nat) (xs : List Value) (hs : a.eval s = v) (hown : w.ownsRow base e size v n xs)
    (B : Nat) (A : Option Addr) (m c : Nat) (news : List Value) (hx : a.eval x = .slice A m c) (hr : Rd w B A news) (hl : news.length = m * size) (h1 : ∀ u ∈ news, u.oneCell' = true)
    (h63 : n + m ≤ maxLen) (hbytes : (n + m) * bytes ≤ 140737488355328) (hbase : base ≤ w.heap.size)
    (h : ∀ A' c' w', w'.ownsRow base e size (.slice A' (n + m) c') (n + m) (xs ++ news) → w.grownBy w' v.ownBlock → ((Value.slice A' (n + m) c').ownBlock = v.ownBlock ∨ (Value.slice A' (n + m) c').ownBlock = some w.heap.size) → wpList P ops Q rest (a.put o.dst (.slice A' (n + m) c')) w') : wpList P ops Q (o :: rest) a w :=
  wpList_step fun _ hK => by rw [if_pos hgd]; exact wp_append_rd s x t ho base e i z size bytes ht hi hz hsize hby hzs hsz v n xs hs hown B A m c news hx hr hl h1 h63 hbytes hbase fun A' c' w' h2 h3 h4 => hK _ _ (h A' c' w' h2 h3 h4)
theorem walk (op : Int) (l : List Int) (A : Option Addr) (c : Nat) (w : World) (hr : Rd w w.heap.size A (kcells l)) (hl : l.length * 8 ≤ 140737488351232) :
    Calls Try.prog 4 #[.int .i64 op, .slice A l.length c] w fun e w' => e = .returned (.bool true) ∧ Below w.heap.size w w' := by
  obtain ⟨iI, hI, hI0, hI1, hI2⟩ := info_parts infoI'
  go_enter Try.func4, Try.ntmps4
  go_wp2_with fail
  refine (awake_any _).mono ?_
  rintro e w1 ⟨rfl, hb1⟩
  have hz := hb1.size
  have hr1 := (hr.below hb1)
  have hown := World.ownsRow_lit (base := w1.heap.size) (e := 3) (size := 1) w1 #[] 0 (Nat.le_refl _) (by unfold maxLen; omega) (by simp)
  go_wp2_with (at_builtin; refine wpList_append_rdw (by rfl) _ _ 32 rfl w1.heap.size 3 iI _ 1 8 Try.underlying32 hI hI0 hI1 hI2 rfl (by decide) (.slice (some ⟨w1.heap.size, 0, none⟩) 0 0) 0 [] rfl hown w.heap.size A l.length c (kcells l) rfl (hr1.below ((Below.refl _ _).alloc hz _)) (by simp [kcells]) ?c2 ?c3 ?c4 ?c5 ?_)
  case c2 => intro u hu; simp [kcells] at hu; obtain ⟨x, _, rfl⟩ := hu; rfl
  case c3 => unfold maxLen; omega
  case c4 => omega
  case c5 => simp
  intro A2 c2 w2 hown2 hg _
  have hb2 : Below w1.heap.size w1 w2 := below_own ((Below.refl _ _).alloc (Nat.le_refl _) _) hown (Nat.le_refl _) hg (by simp)
  have hbel := hb1.trans (hb2.mono hz)
  have hr2 := (hr.below hbel)
  clear hg hown hb2 hr1 hb1
  go_wp2_with fail
  have e1 := result_any op l A2 c2 w2 (by omega) (own_rd hown2)
  refine e1.mono ?_
  rintro e w3 ⟨rfl, hb3⟩
  clear e1 hown2
  have hr3 := hr2.below (hb3.mono hbel.size)
  have hbel := hbel.trans (hb3.mono hbel.size)
  clear hb3
  go_wp2_with fail
  refine (rresult_any op l A c w3 (by omega) (hr3.more hbel.size)).mono ?_
  rintro e w4 ⟨rfl, hb4⟩
  have hbel := hbel.trans (hb4.mono hbel.size)
  clear hb4
  go_wp2
  go_ret
  exact ⟨by simp, hbel⟩

theorem own : ownKnob Try.prog.godebug = none := by kernel_rfl
theorem laidOut : laidOutB Try.prog = true := by kernel_rfl
theorem rec0 : (Try.f4.params.toList.all fun t => Try.prog.readableRec t && decide (t < Try.prog.types.size)) = true := by kernel_rfl
set_option maxRecDepth 100000 in
theorem lifted (os : Os) (started : os.Started) (H : Type) (enc : TypeId × Value → H) :
    ReturnsInHanded {} Try.checked os 4 .any (Rows.valueResultsSpec.pre6 enc Try.prog Try.f4 Rows.valueResultsRow.domain false) (Rows.valueResultsSpec.post enc Try.prog Try.f4 false true false false) := by
  refine law_step (C := Try.checked) (tb := 4) own started (by kernel_rfl) Try.func4
    (ChangeSpec.witness6 (enc := enc) (C := Try.checked) false ⟨#[], #[.int .i64 0, .slice none 0 0], []⟩ 8 (by kernel_rfl) (by kernel_rfl) (by kernel_rfl) (by kernel_rfl)) laidOut ?_ rfl Try.underlying4 rfl ?_ ?_
  · intro t ht
    have := List.all_eq_true.1 rec0 t ht
    simp only [Bool.and_eq_true, decide_eq_true_eq] at this
    exact this
  · intro ds hd
    match ds, hd with
    | [d0, d1], _ => exact ⟨rfl, rfl, rfl⟩
  intro W base args ds p hval hA hsz
  rw [Try.params4] at hA hval hsz
  obtain ⟨v0, vs0, d0, ds0, p0, q0, hargs, rfl, rfl, h0, r0⟩ := trodAll_cons hA
  obtain ⟨v1, vs1, d1, ds1, p1, q1, rfl, rfl, rfl, h1, r1⟩ := trodAll_cons r0
  obtain ⟨rfl, rfl, rfl⟩ := trodAll_nil r1
  obtain rfl : args = #[v0, v1] := by cases args; simp_all
  obtain ⟨n0, rfl, _, _, hn0⟩ := open_int Try.underlying3 (hval 0 3 v0 rfl rfl) h0
  obtain ⟨A1, c1, l1, rfl, hl1, hr1⟩ := open_ks (hval 1 32 v1 rfl rfl) h1 (weights_each (i := 1) hsz rfl rfl)
  exact walk n0 l1 A1 c1 W hr1 hl1

theorem valueResults_holds : Rows.ValueResultsSaid :=
  OpenClaim.holds_of_wide 4 Try.f4 rfl rfl rfl rfl rfl rfl rfl ⟨rfl, rfl, rfl, rfl, rfl⟩ rfl rfl rfl rfl rfl (by kernel_rfl) Try.func4 (by kernel_rfl)
    (of_decide_eq_true (by kernel_rfl)) (by unfold Func.isWrapper; first | (rw [if_pos (by decide +kernel)]; kernel_rfl) | (rw [if_neg (by decide +kernel)]; exact ⟨rfl, rfl⟩))
    (fun os started H enc _ => lifted os started H enc)
#print axioms valueResults_holds
end Go.Proofs.Ytlejjchaooeabaa.valueResults
