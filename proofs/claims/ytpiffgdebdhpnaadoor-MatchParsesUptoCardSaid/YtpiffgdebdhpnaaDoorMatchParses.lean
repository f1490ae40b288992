/- MatchParses holds of what is of bounded bulk. No conditions. -/
import Derived.Test.YtpiffgdebdhpnaaDoorMatL
import Derived.Test.YtpiffgdebdhpnaaDoorMatS
import Derived.Test.YtpiffgdebdhpnaaDoorMatR
namespace Go.Proofs.YtpiffgdebdhpnaaDoor.matchParses
open Go.ChangeShapes Go.WideShapes Go.ChangeAt Go.RowKit
open Go.ChangeMaps (open_string shut_string)
set_option linter.unusedSimpArgs false
set_option linter.unusedVariables false

set_option maxRecDepth 100000 in
set_option maxHeartbeats 4000000 in
theorem walk (w : World) (he : Env w) (s : ByteArray) (hs : s.size ≤ 1048576) :
    Calls Tryd.prog 5 #[.string s] w fun e w' => e = .returned (.bool true) ∧ Below w.heap.size w w' := by
  have hSM := small_of s (by omega)
  have HE := Lib.hid he
  have HPA : Hid (∀ W : World, Env W → Calls Tryd.prog 15 #[.string s] W (ReadOk (parseM s) W.heap.size W)) := Lib.hid fun W h1 => parse_any s W h1 hSM
  have HPR := Lib.hid (fun st br L => parse_tot s st br L)
  obtain ⟨o, ho⟩ : ∃ o, parseM s = o := ⟨_, rfl⟩
  rw [ho] at HPA HPR
  clear he hSM ho
  have hSZ := hs
  clear hs
  go_enter Tryd.func5, Tryd.ntmps5
  go_wp2_with fail
  refine (HPA.out w HE.out).mono ?_
  rintro r w5 ⟨x, ok, rfl, hx, hb5, hok, hkey⟩
  clear HPA
  have hbA : Below w5.heap.size w5 (w5.alloc (.cells #[.int .i64 x.step, .int .i64 x.branch, .slice x.A x.rows.length x.c] 24)) := (Below.refl _ _).alloc (Nat.le_refl _) _
  have y0 := Bk.new w5 24 #[.int .i64 x.step, .int .i64 x.branch, .slice x.A x.rows.length x.c]
  have HX := Lib.hid (hx.old hbA)
  have hbe := hb5.trans (hbA.mono hb5.size)
  clear hx hbA hb5
  unfold MatV.val
  go_wp2_with fail
  generalize w5.alloc (.cells #[.int .i64 x.step, .int .i64 x.branch, .slice x.A x.rows.length x.c] 24) = W at *
  refine (awake_any W (HE.out.old hbe)).mono ?_
  rintro r w6 ⟨rfl, hb6⟩
  have hbe6 := hbe.trans (hb6.mono hbe.size)
  have y6 := y0.old hb6
  have HX6 := Lib.hid (HX.out.old hb6)
  clear hb6 y0 HX hbe
  have t0 := y6.cell 0
  have t1 := y6.cell 1
  have t2 := y6.cell 2
  cases o with
  | none =>
    obtain rfl : ok = false := hok
    have hkx : x.key = zeroM.key := by
      have e1 : x.step = 0 := congrArg (fun p => p.1) hkey
      have e2 : x.branch = 0 := congrArg (fun p => p.2.1) hkey
      have e3 : x.L = [] := congrArg (fun p => p.2.2) hkey
      unfold MatV.key
      rw [e1, e2, e3]; rfl
    have HRO : Hid (Calls Tryd.prog 16 #[.agg #[.int .i64 x.step, .int .i64 x.branch, .slice x.A x.rows.length x.c], .agg #[.int .i64 0, .int .i64 0, .slice none 0 0]] w6 fun r w' => r = .returned (.int .i64 0) ∧ Below w6.heap.size w6 w') := Lib.hid (by
      have h4 := rord_any x zeroM w6 HX6.out (zero_ok _ _)
      rw [ord_self x zeroM hkx] at h4
      exact h4)
    clear hkx hkey HX6
    go_wp2_with fail
    refine HRO.out.mono ?_
    rintro r w7 ⟨rfl, hb7⟩
    have hfin := hbe6.trans (hb7.mono hbe6.size)
    clear hb7 t0 t1 t2 y6 HRO
    go_wp2
    go_ret
    exact ⟨rfl, hfin⟩
  | some p =>
    obtain ⟨st, br, L⟩ := p
    obtain rfl : ok = true := hok
    have e1 : x.step = st := congrArg (fun p => p.1) hkey
    have e2 : x.branch = br := congrArg (fun p => p.2.1) hkey
    have e3 : x.L = L := congrArg (fun p => p.2.2) hkey
    subst e1 e2 e3
    obtain ⟨htot, hline, hne, hlen⟩ := HPR.out _ _ _ rfl
    have hgd : goodB x.step x.branch 9223372036854775807 x.L = true := by
      cases hg : goodB x.step x.branch 9223372036854775807 x.L with
      | true => rfl
      | false =>
        have hl : lineT x.step x.branch x.L = [] := if_neg (by show ¬ goodB x.step x.branch 9223372036854775807 x.L = true; rw [hg]; decide)
        rw [hl] at hline
        exact absurd (by rw [← hline]; rfl) hne
    have HLN : Hid (∀ W : World, x.ok W W.heap.size → Env W → Calls Tryd.prog 13 #[x.val] W fun r w' => r = .returned (.string s) ∧ Below W.heap.size W w') := Lib.hid fun W h1 h2 => by
      have h := line_any x W h1 h2.tab (fun _ => hlen (by omega))
      rw [hline] at h
      exact h
    have HRL : Hid (∀ W : World, x.ok W W.heap.size → Calls Tryd.prog 14 #[x.val] W fun r w' => r = .returned (.string s) ∧ Below W.heap.size W w') := Lib.hid fun W h1 => by
      have h := rline_any x W ⟨h1, by omega⟩
      rw [hline] at h
      exact h
    have HGD : Hid (∀ W : World, x.ok W W.heap.size → Calls Tryd.prog 11 #[x.val, .int .i64 9223372036854775807] W fun r w' => r = .returned (.bool true) ∧ Below W.heap.size W w') := Lib.hid fun W h1 => by
      have h := good_any x 9223372036854775807 W h1
      rw [hgd] at h
      exact h
    clear hkey htot hline hne hlen hgd HPR
    unfold MatV.val at HLN HRL HGD
    go_wp2_with fail
    refine (HLN.out w6 HX6.out (HE.out.old hbe6)).mono ?_
    rintro r w7 ⟨rfl, hb7⟩
    have hbe7 := hbe6.trans (hb7.mono hbe6.size)
    have y7 := y6.old hb7
    have HX7 := Lib.hid (HX6.out.old hb7)
    clear hb7 t0 t1 t2 y6 HX6 hbe6 HLN
    have t0 := y7.cell 0
    have t1 := y7.cell 1
    have t2 := y7.cell 2
    have hss : (s.toList == s.toList) = true := beq_self_eq_true _
    go_wp2_with fail
    refine (HRL.out w7 HX7.out).mono ?_
    rintro r w8 ⟨rfl, hb8⟩
    have hbe8 := hbe7.trans (hb8.mono hbe7.size)
    have y8 := y7.old hb8
    have HX8 := Lib.hid (HX7.out.old hb8)
    clear hb8 t0 t1 t2 y7 HX7 hbe7 HRL
    have t0 := y8.cell 0
    have t1 := y8.cell 1
    have t2 := y8.cell 2
    go_wp2_with fail
    refine (HGD.out w8 HX8.out).mono ?_
    rintro r w9 ⟨rfl, hb9⟩
    have hfin := hbe8.trans (hb9.mono hbe8.size)
    clear hb9 t0 t1 t2 y8 HX8 hbe8 HGD
    go_wp2
    go_ret
    exact ⟨rfl, hfin⟩

theorem laid_met (os : Os) : laidMet Tryd.prog Rows.matchParsesUptoRow.laid ((laidWorld os #[.string ⟨#[]⟩]).forCall (fun _ _ => 0) ⟨#[], #[.string ⟨#[]⟩], []⟩).memory := laidMet_of_run' 8 (by kernel_rfl) (by kernel_rfl)
theorem reads (os : Os) {H : Type} (enc : TypeId × Value → H) : ∃ places, DataW.whole enc Tryd.prog ((laidWorld os #[.string ⟨#[]⟩]).forCall (fun _ _ => 0) ⟨#[], #[.string ⟨#[]⟩], []⟩).memory Tryd.f5.params.toList Rows.matchParsesSpec.vars false (#[.string ⟨#[]⟩] : Array Value).toList 8 = some ([.lit (.string [])], [], places) := ⟨[], by kernel_rfl⟩
theorem rec0 : (Tryd.f5.params.toList.all fun t => Tryd.prog.readableRec t && decide (t < Tryd.prog.types.size)) = true := by kernel_rfl
set_option maxRecDepth 100000 in
theorem lifted (os : Os) (started : os.Started) (H : Type) (enc : TypeId × Value → H) (F : Stop.Interp) :
    ReturnsInHanded {} Tryd.checked os 5 .any ((Rows.OpenSpec.upto Rows.matchParsesSpec).preRow enc Tryd.prog Tryd.f5 Rows.matchParsesUptoRow.domain false Rows.matchParsesUptoRow.laid) (((Rows.OpenSpec.upto Rows.matchParsesSpec).at F).post enc Tryd.prog Tryd.f5 false true false false) := by
  obtain ⟨places, hx⟩ := reads os enc
  refine law_stepCB (C := Tryd.checked) (s := Rows.matchParsesSpec) (tb := 4) own started (by kernel_rfl) Tryd.func5
    (witness_row_at (enc := enc) (C := Tryd.checked) false (laidWorld os #[.string ⟨#[]⟩]) #[.string ⟨#[]⟩] rfl (by kernel_rfl) (by kernel_rfl) (by kernel_rfl)
      (OpenSpec.preRow_of_cond 8 hx (by kernel_rfl) (fun k hk => by cases hk; kernel_rfl) (by kernel_rfl) (laid_met os))) laidOut ?_ rfl Tryd.underlying4 rfl ?_ ?_
  · intro t ht
    have := List.all_eq_true.1 rec0 t ht
    simp only [Bool.and_eq_true, decide_eq_true_eq] at this
    exact this
  · intro ds hd
    match ds, hd with
    | [d0], _ => exact ⟨rfl, rfl, rfl⟩
  intro W base args ds p hval hA hsz hbk hL hsh
  have htab := env_of hL hsh
  rw [Tryd.params5] at hA hval hsz
  obtain ⟨v0, vs0, d0, ds0, p0, q0, hargs, rfl, rfl, h0, r0⟩ := trodAll_cons hA
  obtain ⟨rfl, rfl, rfl⟩ := trodAll_nil r0
  obtain rfl : args = #[v0] := by cases args; simp_all
  obtain ⟨s0, rfl, hs0⟩ := open_strB (hval 0 9 v0 rfl rfl) h0 (weights_each (i := 0) hsz rfl rfl) (Nat.le_trans (bulk_part (by simp)) hbk)
  exact walk W htab s0 hs0

theorem said : Rows.MatchParsesUptoSaid :=
  OpenClaim.holds_of_cond 5 Tryd.f5 rfl rfl rfl rfl rfl rfl rfl ⟨rfl, rfl, rfl, rfl, rfl⟩ rfl rfl rfl rfl rfl (by kernel_rfl) Tryd.func5 (by kernel_rfl)
    (of_decide_eq_true (by kernel_rfl)) (by unfold Func.isWrapper; first | (rw [if_pos (by decide +kernel)]; kernel_rfl) | (rw [if_neg (by decide +kernel)]; exact ⟨rfl, rfl⟩))
    (fun os started H enc _ F => by rw [OpenClaim.pre_eq_preRow]; exact lifted os started H enc F)
theorem noStand : (Tryd.f5.params.toList.all fun t => !(Tryd.prog.wantsStandIn t)) = true := by kernel_rfl
theorem plain (f : FuncId) (fn : Func) (hf : Tryd.pinned.checked.prog.funcNamed "auspice/auspicelaw10.MatchParses" = some f) (hfn : Tryd.pinned.checked.prog.funcs[f]? = some fn) :
    true = Tryd.pinned.checked.prog.looks [] ∧ ∀ (j : Nat) t, fn.params[j]? = some t → Tryd.pinned.checked.prog.wantsStandIn t = false := by
  obtain rfl : f = 5 := Option.some.inj ((show Tryd.prog.funcNamed "auspice/auspicelaw10.MatchParses" = some 5 by kernel_rfl).symm.trans hf) |>.symm
  obtain rfl : fn = Tryd.f5 := (Option.some.inj (Tryd.func5.symm.trans hfn)).symm
  refine ⟨by kernel_rfl, fun j t ht => ?_⟩
  have hm : t ∈ Tryd.f5.params.toList := by rw [Array.mem_toList_iff]; exact Array.mem_of_getElem? ht
  have := List.all_eq_true.1 noStand t hm
  exact (by simpa using this : Tryd.prog.wantsStandIn t = false)
theorem matchParses_holds : Rows.MatchParsesUptoCardSaid :=
  Claim7.holds_tied_plain_at .later [] _ _ _ _ said (fun _ h => by cases h) (by kernel_rfl) (fun _ h => by cases h) matchParsesUpto_row_tie rfl ⟨rfl, rfl⟩ (by kernel_rfl) rfl plain (by kernel_rfl)
#print axioms matchParses_holds
end Go.Proofs.YtpiffgdebdhpnaaDoor.matchParses
