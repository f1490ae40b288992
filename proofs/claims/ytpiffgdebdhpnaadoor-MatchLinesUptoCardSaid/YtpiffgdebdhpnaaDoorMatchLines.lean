/- MatchLines holds of what is of bounded bulk. No conditions. -/
import Derived.Test.YtpiffgdebdhpnaaDoorMatL
import Derived.Test.YtpiffgdebdhpnaaDoorMatS
import Derived.Test.YtpiffgdebdhpnaaDoorMatR
namespace Go.Proofs.YtpiffgdebdhpnaaDoor.matchLines
open Go.ChangeShapes Go.WideShapes Go.ChangeAt Go.RowKit
open Go.ChangeMaps (open_string shut_string)
set_option linter.unusedSimpArgs false
set_option linter.unusedVariables false

set_option maxRecDepth 100000 in
set_option maxHeartbeats 4000000 in
theorem walk (w : World) (he : Env w) (m : MatV) (hm : m.okB w w.heap.size) :
    Calls Tryd.prog 4 #[m.val] w fun e w' => e = .returned (.bool true) ∧ Below w.heap.size w w' := by
  have hLL : goodB m.step m.branch maxI m.L = true → (lineL m.step m.branch m.L).length ≤ 42 + 21 * 1048576 := fun hg => by
    have h1 := line_len m.step m.branch m.L hm.ok.stepR hm.ok.branchR (good_range hg hm.ok.stepR.2)
    have h2 := hm.tot
    omega
  have hT : (bytes (lineT m.step m.branch m.L)).size < 4294967281 := by
    unfold lineT
    split
    · rename_i hg
      have := hLL hg
      rw [bytes_size]; omega
    · decide
  have hSM := small_of _ hT
  have hpl := parse_line m.step m.branch m.L hm.ok.stepR hm.ok.branchR
  have hle := line_empty m.step m.branch m.L
  have HE := Lib.hid he
  have HM := Lib.hid hm
  have HLN : Hid (∀ W : World, m.ok W W.heap.size → Env W → Calls Tryd.prog 13 #[m.val] W fun r w' => r = .returned (.string (bytes (lineT m.step m.branch m.L))) ∧ Below W.heap.size W w') := Lib.hid fun W h1 h2 => line_any m W h1 h2.tab (fun hg => by have := hLL hg; omega)
  have HRL : Hid (∀ W : World, m.okB W W.heap.size → Calls Tryd.prog 14 #[m.val] W fun r w' => r = .returned (.string (bytes (lineT m.step m.branch m.L))) ∧ Below W.heap.size W w') := Lib.hid fun W h1 => rline_any m W h1
  clear he hm hLL hT
  generalize bytes (lineT m.step m.branch m.L) = s at *
  have HPA : Hid (∀ W : World, Env W → Calls Tryd.prog 15 #[.string s] W (ReadOk (parseM s) W.heap.size W)) := Lib.hid fun W h1 => parse_any s W h1 hSM
  rw [hpl] at HPA
  have HRO : Hid (∀ (x : MatV) (W : World), x.ok W W.heap.size → m.ok W W.heap.size → x.key = m.key → Calls Tryd.prog 16 #[x.val, m.val] W fun r w' => r = .returned (.int .i64 0) ∧ Below W.heap.size W w') := Lib.hid fun x W h1 h2 h3 => by
    have h4 := rord_any x m W h1 h2
    rw [ord_self x m h3] at h4
    exact h4
  clear hSM hpl
  obtain ⟨g, hg⟩ : ∃ g, goodB m.step m.branch maxI m.L = g := ⟨_, rfl⟩
  rw [hg] at HPA hle
  have HLE := Lib.hid hle
  clear hle hg
  unfold MatV.val at *
  go_enter Tryd.func4, Tryd.ntmps4
  have x0 := Bk.new w 24 #[.int .i64 m.step, .int .i64 m.branch, .slice m.A m.rows.length m.c]
  have hbW : Below w.heap.size w (w.alloc (.cells #[.int .i64 m.step, .int .i64 m.branch, .slice m.A m.rows.length m.c] 24)) := (Below.refl _ _).alloc (Nat.le_refl _) _
  have s0 := x0.cell 0
  have s1 := x0.cell 1
  have s2 := x0.cell 2
  go_wp2_with fail
  generalize w.alloc (.cells #[.int .i64 m.step, .int .i64 m.branch, .slice m.A m.rows.length m.c] 24) = W at *
  refine (HLN.out W (HM.out.ok.old hbW) (HE.out.old hbW)).mono ?_
  rintro r w2 ⟨rfl, hb2⟩
  have hbe2 := hbW.trans (hb2.mono hbW.size)
  have x2 := x0.old hb2
  clear x0 hb2 hbW s0 s1 s2 HLN
  go_wp2_with fail
  refine (awake_any w2 (HE.out.old hbe2)).mono ?_
  rintro r w3 ⟨rfl, hb3⟩
  have hbe3 := hbe2.trans (hb3.mono hbe2.size)
  have x3 := x2.old hb3
  have s0 := x3.cell 0
  have s1 := x3.cell 1
  have s2 := x3.cell 2
  clear x2 hb3 hbe2
  go_wp2_with fail
  refine (HRL.out w3 ⟨HM.out.ok.old hbe3, HM.out.tot⟩).mono ?_
  rintro r w4 ⟨rfl, hb4⟩
  have hbe4 := hbe3.trans (hb4.mono hbe3.size)
  have x4 := x3.old hb4
  clear x3 hb4 hbe3 s0 s1 s2 HRL
  have hss : (s.toList == s.toList) = true := beq_self_eq_true _
  go_wp2_with fail
  clear hss
  refine (HPA.out w4 (HE.out.old hbe4)).mono ?_
  rintro r w5 ⟨x, ok, rfl, hx, hb5, hok, hkey⟩
  have hbe5 := hbe4.trans (hb5.mono hbe4.size)
  have x5 := x4.old hb5
  clear x4 hb5 hbe4 HPA
  cases g
  · rw [if_neg (by decide)] at hok hkey
    obtain rfl : ok = false := hok
    have hs : s = ⟨#[]⟩ := ByteArray.ext (Array.eq_empty_of_size_eq_zero (HLE.out.2 (by decide)))
    subst hs
    clear hkey hx HRO
    unfold MatV.val
    go_wp2
    go_ret
    exact ⟨rfl, hbe5.alloc hbe5.size _⟩
  · rw [if_pos rfl] at hok hkey
    obtain rfl : ok = true := hok
    have hkx : x.key = m.key := by
      have e1 : x.step = m.step := congrArg (fun p => p.1) hkey
      have e2 : x.branch = m.branch := congrArg (fun p => p.2.1) hkey
      have e3 : x.L = m.L := congrArg (fun p => p.2.2) hkey
      unfold MatV.key
      rw [e1, e2, e3]
    have hse : ¬ s.toList = [] := by
      intro e
      rw [ByteArray.toList_eq] at e
      have h1 : s.data.toList.length = 0 := by rw [e]; rfl
      have h2 : s.size = 0 := by rw [Array.length_toList] at h1; exact h1
      exact HLE.out.1 h2 rfl
    have hse2 : s.toList.isEmpty = false := by cases h : s.toList with | nil => exact absurd h hse | cons _ _ => rfl
    have HX := Lib.hid hx
    have HKX := Lib.hid hkx
    clear hkey hkx hx
    have hbA : Below w5.heap.size w5 (w5.alloc (.cells #[.int .i64 x.step, .int .i64 x.branch, .slice x.A x.rows.length x.c] 24)) := (Below.refl _ _).alloc (Nat.le_refl _) _
    have y0 := Bk.new w5 24 #[.int .i64 x.step, .int .i64 x.branch, .slice x.A x.rows.length x.c]
    have x6 := x5.old hbA
    have s0 := x6.cell 0
    have s1 := x6.cell 1
    have s2 := x6.cell 2
    have t0 := y0.cell 0
    have t1 := y0.cell 1
    have t2 := y0.cell 2
    unfold MatV.val
    go_wp2_with fail
    refine (HRO.out x _ (HX.out.old hbA) (HM.out.ok.old (hbe5.trans (hbA.mono hbe5.size))) HKX.out).mono ?_
    rintro r w6 ⟨rfl, hb6⟩
    have hfin := (hbe5.trans (hbA.mono hbe5.size)).trans (hb6.mono (hbe5.trans (hbA.mono hbe5.size)).size)
    clear s0 s1 s2 t0 t1 t2 x5 x6 y0 hb6 hbA hbe5
    go_wp2
    go_ret
    exact ⟨rfl, hfin⟩

theorem laid_met (os : Os) : laidMet Tryd.prog Rows.matchLinesUptoRow.laid ((laidWorld os #[.agg #[.int .i64 0, .int .i64 0, .slice none 0 0]]).forCall (fun _ _ => 0) ⟨#[], #[.agg #[.int .i64 0, .int .i64 0, .slice none 0 0]], []⟩).memory := laidMet_of_run' 8 (by kernel_rfl) (by kernel_rfl)
theorem reads (os : Os) {H : Type} (enc : TypeId × Value → H) : ∃ places, DataW.whole enc Tryd.prog ((laidWorld os #[.agg #[.int .i64 0, .int .i64 0, .slice none 0 0]]).forCall (fun _ _ => 0) ⟨#[], #[.agg #[.int .i64 0, .int .i64 0, .slice none 0 0]], []⟩).memory Tryd.f4.params.toList Rows.matchLinesSpec.vars false (#[.agg #[.int .i64 0, .int .i64 0, .slice none 0 0]] : Array Value).toList 8 = some ([.agg [.lit (.int .i64 0), .lit (.int .i64 0), .nil]], [], places) := ⟨[], by kernel_rfl⟩
theorem rec0 : (Tryd.f4.params.toList.all fun t => Tryd.prog.readableRec t && decide (t < Tryd.prog.types.size)) = true := by kernel_rfl
set_option maxRecDepth 100000 in
theorem lifted (os : Os) (started : os.Started) (H : Type) (enc : TypeId × Value → H) (F : Stop.Interp) :
    ReturnsInHanded {} Tryd.checked os 4 .any ((Rows.OpenSpec.upto Rows.matchLinesSpec).preRow enc Tryd.prog Tryd.f4 Rows.matchLinesUptoRow.domain false Rows.matchLinesUptoRow.laid) (((Rows.OpenSpec.upto Rows.matchLinesSpec).at F).post enc Tryd.prog Tryd.f4 false true false false) := by
  obtain ⟨places, hx⟩ := reads os enc
  refine law_stepCB (C := Tryd.checked) (s := Rows.matchLinesSpec) (tb := 4) own started (by kernel_rfl) Tryd.func4
    (witness_row_at (enc := enc) (C := Tryd.checked) false (laidWorld os #[.agg #[.int .i64 0, .int .i64 0, .slice none 0 0]]) #[.agg #[.int .i64 0, .int .i64 0, .slice none 0 0]] rfl (by kernel_rfl) (by kernel_rfl) (by kernel_rfl)
      (OpenSpec.preRow_of_cond 8 hx (by kernel_rfl) (fun k hk => by cases hk; kernel_rfl) (by kernel_rfl) (laid_met os))) laidOut ?_ rfl Tryd.underlying4 rfl ?_ ?_
  · intro t ht
    have := List.all_eq_true.1 rec0 t ht
    simp only [Bool.and_eq_true, decide_eq_true_eq] at this
    exact this
  · intro ds hd
    match ds, hd with
    | [d0], _ => exact ⟨rfl, rfl, rfl⟩
  intro W base args ds p hval hA hsz hbk hL hsh
  have htab := env_of hL hsh
  rw [Tryd.params4] at hA hval hsz
  obtain ⟨v0, vs0, d0, ds0, p0, q0, hargs, rfl, rfl, h0, r0⟩ := trodAll_cons hA
  obtain ⟨rfl, rfl, rfl⟩ := trodAll_nil r0
  obtain rfl : args = #[v0] := by cases args; simp_all
  obtain ⟨m0, rfl, hm0⟩ := open_matB (hval 0 24 v0 rfl rfl) h0 (weights_each (i := 0) hsz rfl rfl) (Nat.le_trans (bulk_part (by simp)) hbk)
  exact walk W htab m0 hm0

theorem said : Rows.MatchLinesUptoSaid :=
  OpenClaim.holds_of_cond 4 Tryd.f4 rfl rfl rfl rfl rfl rfl rfl ⟨rfl, rfl, rfl, rfl, rfl⟩ rfl rfl rfl rfl rfl (by kernel_rfl) Tryd.func4 (by kernel_rfl)
    (of_decide_eq_true (by kernel_rfl)) (by unfold Func.isWrapper; first | (rw [if_pos (by decide +kernel)]; kernel_rfl) | (rw [if_neg (by decide +kernel)]; exact ⟨rfl, rfl⟩))
    (fun os started H enc _ F => by rw [OpenClaim.pre_eq_preRow]; exact lifted os started H enc F)
theorem noStand : (Tryd.f4.params.toList.all fun t => !(Tryd.prog.wantsStandIn t)) = true := by kernel_rfl
theorem plain (f : FuncId) (fn : Func) (hf : Tryd.pinned.checked.prog.funcNamed "auspice/auspicelaw10.MatchLines" = some f) (hfn : Tryd.pinned.checked.prog.funcs[f]? = some fn) :
    true = Tryd.pinned.checked.prog.looks [] ∧ ∀ (j : Nat) t, fn.params[j]? = some t → Tryd.pinned.checked.prog.wantsStandIn t = false := by
  obtain rfl : f = 4 := Option.some.inj ((show Tryd.prog.funcNamed "auspice/auspicelaw10.MatchLines" = some 4 by kernel_rfl).symm.trans hf) |>.symm
  obtain rfl : fn = Tryd.f4 := (Option.some.inj (Tryd.func4.symm.trans hfn)).symm
  refine ⟨by kernel_rfl, fun j t ht => ?_⟩
  have hm : t ∈ Tryd.f4.params.toList := by rw [Array.mem_toList_iff]; exact Array.mem_of_getElem? ht
  have := List.all_eq_true.1 noStand t hm
  exact (by simpa using this : Tryd.prog.wantsStandIn t = false)
theorem matchLines_holds : Rows.MatchLinesUptoCardSaid :=
  Claim7.holds_tied_plain_at .later [] _ _ _ _ said (fun _ h => by cases h) (by kernel_rfl) (fun _ h => by cases h) matchLinesUpto_row_tie rfl ⟨rfl, rfl⟩ (by kernel_rfl) rfl plain (by kernel_rfl)
#print axioms matchLines_holds
end Go.Proofs.YtpiffgdebdhpnaaDoor.matchLines
