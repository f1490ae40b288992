/- EventScripts holds. No conditions. -/
import Derived.Test.YtpakcicbojbonaaDoorEvtT
namespace Go.Proofs.YtpakcicbojbonaaDoor.eventScripts
open Go.ChangeShapes Go.WideShapes Go.ChangeAt Go.RowKit
open Go.ChangeMaps (open_string shut_string)
set_option linter.unusedSimpArgs false
set_option linter.unusedVariables false

set_option maxRecDepth 100000 in
set_option maxHeartbeats 1000000 in
theorem walk (w : World) (ht : Tab w) (s : SchemaV) (hs : s.ok w w.heap.size) (LA : Option Addr) (lc : Nat) (l : List EventV) (hl : l.length ≤ 3518437208780) (hr : Rd w w.heap.size LA (l.flatMap EventV.cells)) (hok : ∀ e ∈ l, e.ok w w.heap.size) :
    Calls Tryd.prog 5 #[s.val, .slice LA l.length lc] w fun e w' => e = .returned (.bool true) ∧ Below w.heap.size w w' := by
  have hW : Below w.heap.size w (w.alloc (.cells #[.slice s.ta s.types.length s.tc, .slice s.sa s.syms.length s.sc] 29)) := (Below.refl _ _).alloc (Nat.le_refl _) _
  have kb := Bk.new w 29 #[.slice s.ta s.types.length s.tc, .slice s.sa s.syms.length s.sc]
  have hsW := hs.old hW
  have hrW := (hr.below hW).more hW.size
  have hokW : ∀ e ∈ l, e.ok (w.alloc (.cells #[.slice s.ta s.types.length s.tc, .slice s.sa s.syms.length s.sc] 29)) (w.alloc (.cells #[.slice s.ta s.types.length s.tc, .slice s.sa s.syms.length s.sc] 29)).heap.size := fun e he => (hok e he).old hW
  have htW := ht.old hW
  have HW := Lib.hid hW
  have H1 := Lib.hid (sTo_any s _ hsW)
  have HS := Lib.hid hsW
  have HR := Lib.hid hrW
  have HO := Lib.hid hokW
  have HT := Lib.hid htW
  clear hs hr hok ht hW hsW hrW hokW htW
  unfold SchemaV.val
  unfold SchemaV.val at H1
  go_enter Tryd.func5, Tryd.ntmps5
  go_wp2_with fail
  generalize w.alloc (.cells #[.slice s.ta s.types.length s.tc, .slice s.sa s.syms.length s.sc] 29) = W at *
  refine H1.out.mono ?_
  rintro r w1 ⟨v1, rfl, ⟨s', rfl, hs', hT', hY'⟩, hb1⟩
  have HE := Lib.hid (evAll_any l LA lc w1 ((HR.out.below hb1).more hb1.size) hl (fun e he => (HO.out e he).old hb1))
  have HS' := Lib.hid hs'
  have HTY := Lib.hid (And.intro hT' hY')
  clear hs' hT' hY' H1
  go_wp2_with fail
  refine HE.out.mono ?_
  rintro r w2 ⟨A2, c2, l', rfl, hsg, hown, heach, hb2⟩
  obtain ⟨hlen, hrd2, hok2⟩ := rows_ok hsg rfl hown heach (W := W) HO.out
  have hb12 := hb1.trans (hb2.mono hb1.size)
  have H3 := Lib.hid (pscript_any s' l' A2 c2 w2 (HS'.out.old hb2) hrd2 (by omega) hok2)
  rw [HTY.out.1, HTY.out.2, hsg, hlen] at H3
  clear HE hsg hown heach hrd2 hok2 HTY hlen hb1 hb2
  go_wp2_with fail
  refine H3.out.mono ?_
  rintro r w3 ⟨rfl, hb3⟩
  have hb123 := hb12.trans (hb3.mono hb12.size)
  have k0 := (kb.old hb123).cell 0
  have k1 := (kb.old hb123).cell 1
  have H4 := Lib.hid (rscript_any s l LA lc w3 (HS.out.old hb123) ((HR.out.below hb123).more hb123.size) hl (fun e he => (HO.out e he).old hb123))
  unfold SchemaV.val at H4
  clear H3 hb12 hb3 kb
  generalize scriptB (s.types.map sig) s.syms (l.map EventV.sig) = R at *
  obtain ⟨R1, R2⟩ := R
  go_wp2_with fail
  refine H4.out.mono ?_
  rintro r w4 ⟨rfl, hb4⟩
  have hb5 := hb123.trans (hb4.mono hb123.size)
  have H5 := Lib.hid (awake_any w4 (HT.out.old hb5))
  clear H4 hb123 hb4 k0 k1
  go_wp2_with fail
  refine H5.out.mono ?_
  rintro r w5 ⟨rfl, hb6⟩
  have hb7 := HW.out.trans ((hb5.trans (hb6.mono hb5.size)).mono HW.out.size)
  clear H5 hb5 hb6
  go_wp2
  go_ret
  exact ⟨rfl, hb7⟩

theorem laid_met (os : Os) : laidMet Tryd.prog Rows.eventScriptsRow.laid ((laidWorld os #[.agg #[.slice none 0 0, .slice none 0 0], .slice none 0 0]).forCall (fun _ _ => 0) ⟨#[], #[.agg #[.slice none 0 0, .slice none 0 0], .slice none 0 0], []⟩).memory := laidMet_of_run' 8 (by kernel_rfl) (by kernel_rfl)
theorem reads (os : Os) {H : Type} (enc : TypeId × Value → H) : ∃ places, DataW.whole enc Tryd.prog ((laidWorld os #[.agg #[.slice none 0 0, .slice none 0 0], .slice none 0 0]).forCall (fun _ _ => 0) ⟨#[], #[.agg #[.slice none 0 0, .slice none 0 0], .slice none 0 0], []⟩).memory Tryd.f5.params.toList Rows.eventScriptsSpec.vars false (#[.agg #[.slice none 0 0, .slice none 0 0], .slice none 0 0] : Array Value).toList 8 = some ([.agg [.nil, .nil], .nil], [], places) := ⟨[], by kernel_rfl⟩
theorem rec0 : (Tryd.f5.params.toList.all fun t => Tryd.prog.readableRec t && decide (t < Tryd.prog.types.size)) = true := by kernel_rfl
set_option maxRecDepth 100000 in
theorem lifted (os : Os) (started : os.Started) (H : Type) (enc : TypeId × Value → H) (F : Stop.Interp) :
    ReturnsInHanded {} Tryd.checked os 5 .any ((OpenSpec.ofChange Rows.eventScriptsSpec).preRow enc Tryd.prog Tryd.f5 Rows.eventScriptsRow.domain false Rows.eventScriptsRow.laid) (((OpenSpec.ofChange Rows.eventScriptsSpec).at F).post enc Tryd.prog Tryd.f5 false true false false) := by
  obtain ⟨places, hx⟩ := reads os enc
  refine law_stepC (C := Tryd.checked) (s := Rows.eventScriptsSpec) (tb := 4) own started (by kernel_rfl) Tryd.func5
    (witness_row_at (enc := enc) (C := Tryd.checked) false (laidWorld os #[.agg #[.slice none 0 0, .slice none 0 0], .slice none 0 0]) #[.agg #[.slice none 0 0, .slice none 0 0], .slice none 0 0] rfl (by kernel_rfl) (by kernel_rfl) (by kernel_rfl)
      (OpenSpec.preRow_of_cond 8 hx (by kernel_rfl) (fun k hk => by cases hk) (by kernel_rfl) (laid_met os))) laidOut ?_ rfl Tryd.underlying4 rfl ?_ ?_
  · intro t ht
    have := List.all_eq_true.1 rec0 t ht
    simp only [Bool.and_eq_true, decide_eq_true_eq] at this
    exact this
  · intro ds hd
    match ds, hd with
    | [d0, d1], _ => exact ⟨rfl, rfl, rfl⟩
  intro W base args ds p hval hA hsz hL hsh
  have htab := tab_of hL
  rw [Tryd.params5] at hA hval hsz
  obtain ⟨v0, vs0, d0, ds0, p0, q0, hargs, rfl, rfl, h0, r0⟩ := trodAll_cons hA
  obtain ⟨v1, vs1, d1, ds1, p1, q1, rfl, rfl, rfl, h1, r1⟩ := trodAll_cons r0
  obtain ⟨rfl, rfl, rfl⟩ := trodAll_nil r1
  obtain rfl : args = #[v0, v1] := by cases args; simp_all
  obtain ⟨s0, rfl, hs0⟩ := open_schema (hval 0 29 v0 rfl rfl) h0 (weights_each (i := 0) hsz rfl rfl)
  obtain ⟨A1, c1, l1, rfl, hl1, hr1, hq1⟩ := open_events (hval 1 51 v1 rfl rfl) h1 (weights_each (i := 1) hsz rfl rfl)
  exact walk W htab s0 hs0 A1 c1 l1 hl1 hr1 hq1

theorem said : Rows.EventScriptsSaid :=
  OpenClaim.holds_of_cond 5 Tryd.f5 rfl rfl rfl rfl rfl rfl rfl ⟨rfl, rfl, rfl, rfl, rfl⟩ rfl rfl rfl rfl rfl (by kernel_rfl) Tryd.func5 (by kernel_rfl)
    (of_decide_eq_true (by kernel_rfl)) (by unfold Func.isWrapper; first | (rw [if_pos (by decide +kernel)]; kernel_rfl) | (rw [if_neg (by decide +kernel)]; exact ⟨rfl, rfl⟩))
    (fun os started H enc _ F => by rw [OpenClaim.pre_eq_preRow]; exact lifted os started H enc F)
theorem noStand : (Tryd.f5.params.toList.all fun t => !(Tryd.prog.wantsStandIn t)) = true := by kernel_rfl
theorem plain (f : FuncId) (fn : Func) (hf : Tryd.pinned.checked.prog.funcNamed "auspice/auspicelaw04.EventScripts" = some f) (hfn : Tryd.pinned.checked.prog.funcs[f]? = some fn) :
    true = Tryd.pinned.checked.prog.looks [] ∧ ∀ (j : Nat) t, fn.params[j]? = some t → Tryd.pinned.checked.prog.wantsStandIn t = false := by
  obtain rfl : f = 5 := Option.some.inj ((show Tryd.prog.funcNamed "auspice/auspicelaw04.EventScripts" = some 5 by kernel_rfl).symm.trans hf) |>.symm
  obtain rfl : fn = Tryd.f5 := (Option.some.inj (Tryd.func5.symm.trans hfn)).symm
  refine ⟨by kernel_rfl, fun j t ht => ?_⟩
  have hm : t ∈ Tryd.f5.params.toList := by rw [Array.mem_toList_iff]; exact Array.mem_of_getElem? ht
  have := List.all_eq_true.1 noStand t hm
  exact (by simpa using this : Tryd.prog.wantsStandIn t = false)
theorem eventScripts_holds : Rows.EventScriptsCardSaid :=
  Claim7.holds_tied_plain_at .later [] _ _ _ _ said (fun _ h => by cases h) (by kernel_rfl) (fun _ h => by cases h) eventScripts_row_tie rfl ⟨rfl, rfl⟩ (by kernel_rfl) rfl plain (by kernel_rfl)
#print axioms eventScripts_holds
end Go.Proofs.YtpakcicbojbonaaDoor.eventScripts
