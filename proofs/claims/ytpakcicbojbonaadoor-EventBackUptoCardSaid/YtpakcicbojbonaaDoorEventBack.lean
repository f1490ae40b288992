/- EventBack holds of what is of bounded bulk. No conditions. -/
import Derived.Test.YtpakcicbojbonaaDoorEvtX
namespace Go.Proofs.YtpakcicbojbonaaDoor.eventBack
open Go.ChangeShapes Go.WideShapes Go.ChangeAt Go.RowKit
open Go.ChangeMaps (open_string shut_string)
set_option linter.unusedSimpArgs false
set_option linter.unusedVariables false

set_option maxRecDepth 100000 in
set_option maxHeartbeats 4000000 in
theorem walk (w : World) (he : Env w) (s : SchemaV) (hs : s.ok w w.heap.size) (t : ByteArray) (ht : t.size ≤ 1048576) :
    Calls Tryd.prog 8 #[s.val, .string t] w fun r w' => r = .returned (.bool true) ∧ Below w.heap.size w w' := by
  have hW : Below w.heap.size w (w.alloc (.cells #[.slice s.ta s.types.length s.tc, .slice s.sa s.syms.length s.sc] 29)) := (Below.refl _ _).alloc (Nat.le_refl _) _
  have HTO := Lib.hid (sTo_any s _ (hs.old hW))
  have HE := Lib.hid he
  clear hs he
  unfold SchemaV.val at HTO ⊢
  go_enter Tryd.func8, Tryd.ntmps8
  go_wp2_with fail
  generalize w.alloc (.cells #[.slice s.ta s.types.length s.tc, .slice s.sa s.syms.length s.sc] 29) = W at *
  refine HTO.out.mono ?_
  rintro r w1 ⟨v1, rfl, ⟨s', rfl, hs', hT', hY'⟩, hb1⟩
  have hbe1 := hW.trans (hb1.mono hW.size)
  clear HTO hb1 hW
  generalize s.types.map sig = T0 at *
  generalize s.syms = Y0 at *
  have HPA := Lib.hid (fun W h1 h2 => parse_any s' t W h1 h2 (by omega))
  have HVA := Lib.hid (fun (e : EventV) W h1 h2 => pvalid_any s' e W h1 h2)
  have HLI := Lib.hid (fun (e : EventV) W h1 h2 h3 => line_any s' e W h1 h2 h3)
  have hbA : Below w1.heap.size w1 (w1.alloc (.cells #[.slice s'.ta s'.types.length s'.tc, .slice s'.sa s'.syms.length s'.sc] 48)) := (Below.refl _ _).alloc (Nat.le_refl _) _
  have k5 := Bk.new w1 48 #[.slice s'.ta s'.types.length s'.tc, .slice s'.sa s'.syms.length s'.sc]
  have HS := Lib.hid (hs'.old hbA)
  have hbe2 := hbe1.trans (hbA.mono hbe1.size)
  clear hs' hT' hY' hbA hbe1
  unfold SchemaV.val at HPA HVA HLI ⊢
  go_wp2_with fail
  generalize w1.alloc (.cells #[.slice s'.ta s'.types.length s'.tc, .slice s'.sa s'.syms.length s'.sc] 48) = W1 at *
  refine (HPA.out W1 (HE.out.old hbe2) HS.out).mono ?_
  rintro r w2 ⟨e, rfl, hev, hb2, hsig⟩
  have hbe3 := hbe2.trans (hb2.mono hbe2.size)
  have k52 := k5.old hb2
  have HS2 := Lib.hid (HS.out.old hb2)
  clear hb2 k5 HS hbe2 HPA
  have hbB : Below w2.heap.size w2 (w2.alloc (.cells #[.int .i64 e.type, .int .i64 e.time, .slice e.A e.attrs.length e.c] 41)) := (Below.refl _ _).alloc (Nat.le_refl _) _
  have k6 := Bk.new w2 41 #[.int .i64 e.type, .int .i64 e.time, .slice e.A e.attrs.length e.c]
  have k53 := k52.old hbB
  have HS3 := Lib.hid (HS2.out.old hbB)
  have HEV := Lib.hid (hev.old hbB)
  have hbe4 := hbe3.trans (hbB.mono hbe3.size)
  clear hev HS2 k52 hbB hbe3
  obtain ⟨o, ho⟩ : ∃ o, parseP (s'.types.map sig) s'.syms t.toList = o := ⟨_, rfl⟩
  rw [ho] at hsig ⊢
  have HO := Lib.hid ho
  have HSG := Lib.hid hsig
  clear ho hsig
  unfold EventV.val
  cases o with
  | none =>
    have HZ : Hid (e.sig = (0, 0, [])) := Lib.hid HSG.out
    rw [Option.isSome_none]
    go_wp2_with fail
    generalize w2.alloc (.cells #[.int .i64 e.type, .int .i64 e.time, .slice e.A e.attrs.length e.c] 41) = W2 at *
    refine (awake_any W2 (HE.out.old hbe4).tab).mono ?_
    rintro r w3 ⟨rfl, hb3⟩
    have hbe5 := hbe4.trans (hb3.mono hbe4.size)
    have k63 := k6.old hb3
    have HOF := Lib.hid (eOf_any e w3 (HEV.out.old hb3))
    unfold EventV.val at HOF
    clear hb3 k6 k53 hbe4
    have d0 := k63.cell 0
    have d1 := k63.cell 1
    have d2 := k63.cell 2
    go_wp2_with fail
    refine HOF.out.mono ?_
    rintro r w4 ⟨v, rfl, ⟨e2, rfl, he2, hsg2⟩, hb4⟩
    have hbe6 := hbe5.trans (hb4.mono hbe5.size)
    have HSA : Hid (Calls Tryd.prog 23 #[e2.val, .agg #[.int .i64 0, .int .i64 0, .slice none 0 0]] w4 fun r w' => r = .returned (.bool true) ∧ Below w4.heap.size w4 w') := Lib.hid (same_any e2 zeroE w4 he2 (zeroE_ok _ _) (hsg2.trans HZ.out))
    clear HOF hb4 he2 hsg2 hbe5 k63 d0 d1 d2
    generalize e2.val = v2 at *
    go_wp2_with fail
    refine HSA.out.mono ?_
    rintro r w5 ⟨rfl, hb5⟩
    have hfin := hbe6.trans (hb5.mono hbe6.size)
    clear HSA hb5 hbe6
    go_wp2
    go_ret
    exact ⟨rfl, hfin⟩
  | some x =>
    obtain ⟨hvb, hln, _, _⟩ := parse_back HO.out
    have hsx : e.sig = x := HSG.out
    have hlb : bytes (lineB (s'.types.map sig) s'.syms e.sig) = t := by
      unfold lineB
      rw [hsx, if_pos hvb, hln]
      unfold bytes
      rw [ByteArray.toList_eq]
    have HVL : Hid (∀ W : World, s'.ok W W.heap.size → e.ok W W.heap.size → Calls Tryd.prog 19 #[.agg #[.slice s'.ta s'.types.length s'.tc, .slice s'.sa s'.syms.length s'.sc], e.val] W fun r w' => r = .returned (.bool true) ∧ Below W.heap.size W w') := Lib.hid fun W h1 h2 => by
      have h := HVA.out e W h1 h2
      rw [hsx, hvb] at h
      exact h
    have HLN : Hid (∀ W : World, s'.ok W W.heap.size → e.ok W W.heap.size → Tab W → Calls Tryd.prog 20 #[.agg #[.slice s'.ta s'.types.length s'.tc, .slice s'.sa s'.syms.length s'.sc], e.val] W fun r w' => r = .returned (.string t) ∧ Below W.heap.size W w') := Lib.hid fun W h1 h2 h3 => by
      have h := HLI.out e W h1 h2 h3
      rw [hlb] at h
      exact h
    unfold EventV.val at HVL HLN
    clear hvb hln hsx hlb HVA HLI HO HSG
    rw [Option.isSome_some]
    go_wp2_with fail
    generalize w2.alloc (.cells #[.int .i64 e.type, .int .i64 e.time, .slice e.A e.attrs.length e.c] 41) = W2 at *
    refine (awake_any W2 (HE.out.old hbe4).tab).mono ?_
    rintro r w3 ⟨rfl, hb3⟩
    have hbe5 := hbe4.trans (hb3.mono hbe4.size)
    have k63 := k6.old hb3
    have k54 := k53.old hb3
    have HS4 := Lib.hid (HS3.out.old hb3)
    have HEV4 := Lib.hid (HEV.out.old hb3)
    clear hb3 k6 k53 hbe4 HS3 HEV
    have d0 := k63.cell 0
    have d1 := k63.cell 1
    have d2 := k63.cell 2
    have s0 := k54.cell 0
    have s1 := k54.cell 1
    go_wp2_with fail
    refine (HVL.out w3 HS4.out HEV4.out).mono ?_
    rintro r w4 ⟨rfl, hb4⟩
    have hbe6 := hbe5.trans (hb4.mono hbe5.size)
    have k64 := k63.old hb4
    have k55 := k54.old hb4
    have HS5 := Lib.hid (HS4.out.old hb4)
    have HEV5 := Lib.hid (HEV4.out.old hb4)
    clear hb4 k63 k54 hbe5 HS4 HEV4 HVL d0 d1 d2 s0 s1
    have d0 := k64.cell 0
    have d1 := k64.cell 1
    have d2 := k64.cell 2
    have s0 := k55.cell 0
    have s1 := k55.cell 1
    go_wp2_with fail
    refine (HLN.out w4 HS5.out HEV5.out (HE.out.old hbe6).tab).mono ?_
    rintro r w5 ⟨rfl, hb5⟩
    have hfin := hbe6.trans (hb5.mono hbe6.size)
    have hss : (t.toList == t.toList) = true := beq_self_eq_true _
    clear hb5 hbe6 HLN d0 d1 d2 s0 s1 k64 k55 HS5 HEV5
    go_wp2
    go_ret
    exact ⟨rfl, hfin⟩

theorem laid_met (os : Os) : laidMet Tryd.prog Rows.eventBackUptoRow.laid ((laidWorld os #[.agg #[.slice none 0 0, .slice none 0 0], .string ⟨#[]⟩]).forCall (fun _ _ => 0) ⟨#[], #[.agg #[.slice none 0 0, .slice none 0 0], .string ⟨#[]⟩], []⟩).memory := laidMet_of_run' 8 (by kernel_rfl) (by kernel_rfl)
theorem reads (os : Os) {H : Type} (enc : TypeId × Value → H) : ∃ places, DataW.whole enc Tryd.prog ((laidWorld os #[.agg #[.slice none 0 0, .slice none 0 0], .string ⟨#[]⟩]).forCall (fun _ _ => 0) ⟨#[], #[.agg #[.slice none 0 0, .slice none 0 0], .string ⟨#[]⟩], []⟩).memory Tryd.f8.params.toList Rows.eventBackSpec.vars false (#[.agg #[.slice none 0 0, .slice none 0 0], .string ⟨#[]⟩] : Array Value).toList 8 = some ([.agg [.nil, .nil], .lit (.string [])], [], places) := ⟨[], by kernel_rfl⟩
theorem rec0 : (Tryd.f8.params.toList.all fun t => Tryd.prog.readableRec t && decide (t < Tryd.prog.types.size)) = true := by kernel_rfl
set_option maxRecDepth 100000 in
theorem lifted (os : Os) (started : os.Started) (H : Type) (enc : TypeId × Value → H) (F : Stop.Interp) :
    ReturnsInHanded {} Tryd.checked os 8 .any ((Rows.OpenSpec.upto Rows.eventBackSpec).preRow enc Tryd.prog Tryd.f8 Rows.eventBackUptoRow.domain false Rows.eventBackUptoRow.laid) (((Rows.OpenSpec.upto Rows.eventBackSpec).at F).post enc Tryd.prog Tryd.f8 false true false false) := by
  obtain ⟨places, hx⟩ := reads os enc
  refine law_stepCB (C := Tryd.checked) (s := Rows.eventBackSpec) (tb := 4) own started (by kernel_rfl) Tryd.func8
    (witness_row_at (enc := enc) (C := Tryd.checked) false (laidWorld os #[.agg #[.slice none 0 0, .slice none 0 0], .string ⟨#[]⟩]) #[.agg #[.slice none 0 0, .slice none 0 0], .string ⟨#[]⟩] rfl (by kernel_rfl) (by kernel_rfl) (by kernel_rfl)
      (OpenSpec.preRow_of_cond 8 hx (by kernel_rfl) (fun k hk => by cases hk; kernel_rfl) (by kernel_rfl) (laid_met os))) laidOut ?_ rfl Tryd.underlying4 rfl ?_ ?_
  · intro t ht
    have := List.all_eq_true.1 rec0 t ht
    simp only [Bool.and_eq_true, decide_eq_true_eq] at this
    exact this
  · intro ds hd
    match ds, hd with
    | [d0, d1], _ => exact ⟨rfl, rfl, rfl⟩
  intro W base args ds p hval hA hsz hbk hL hsh
  have htab := env_of hL hsh
  rw [Tryd.params8] at hA hval hsz
  obtain ⟨v0, vs0, d0, ds0, p0, q0, hargs, rfl, rfl, h0, r0⟩ := trodAll_cons hA
  obtain ⟨v1, vs1, d1, ds1, p1, q1, rfl, rfl, rfl, h1, r1⟩ := trodAll_cons r0
  obtain ⟨rfl, rfl, rfl⟩ := trodAll_nil r1
  obtain rfl : args = #[v0, v1] := by cases args; simp_all
  obtain ⟨s0, rfl, hs0⟩ := open_schema (hval 0 29 v0 rfl rfl) h0 (weights_each (i := 0) hsz rfl rfl)
  obtain ⟨u1, rfl, hu1⟩ := open_strB (hval 1 9 v1 rfl rfl) h1 (weights_each (i := 1) hsz rfl rfl) (Nat.le_trans (bulk_part (by simp)) hbk)
  exact walk W htab s0 hs0 u1 hu1

theorem said : Rows.EventBackUptoSaid :=
  OpenClaim.holds_of_cond 8 Tryd.f8 rfl rfl rfl rfl rfl rfl rfl ⟨rfl, rfl, rfl, rfl, rfl⟩ rfl rfl rfl rfl rfl (by kernel_rfl) Tryd.func8 (by kernel_rfl)
    (of_decide_eq_true (by kernel_rfl)) (by unfold Func.isWrapper; first | (rw [if_pos (by decide +kernel)]; kernel_rfl) | (rw [if_neg (by decide +kernel)]; exact ⟨rfl, rfl⟩))
    (fun os started H enc _ F => by rw [OpenClaim.pre_eq_preRow]; exact lifted os started H enc F)
theorem noStand : (Tryd.f8.params.toList.all fun t => !(Tryd.prog.wantsStandIn t)) = true := by kernel_rfl
theorem plain (f : FuncId) (fn : Func) (hf : Tryd.pinned.checked.prog.funcNamed "auspice/auspicelaw04.EventBack" = some f) (hfn : Tryd.pinned.checked.prog.funcs[f]? = some fn) :
    true = Tryd.pinned.checked.prog.looks [] ∧ ∀ (j : Nat) t, fn.params[j]? = some t → Tryd.pinned.checked.prog.wantsStandIn t = false := by
  obtain rfl : f = 8 := Option.some.inj ((show Tryd.prog.funcNamed "auspice/auspicelaw04.EventBack" = some 8 by kernel_rfl).symm.trans hf) |>.symm
  obtain rfl : fn = Tryd.f8 := (Option.some.inj (Tryd.func8.symm.trans hfn)).symm
  refine ⟨by kernel_rfl, fun j t ht => ?_⟩
  have hm : t ∈ Tryd.f8.params.toList := by rw [Array.mem_toList_iff]; exact Array.mem_of_getElem? ht
  have := List.all_eq_true.1 noStand t hm
  exact (by simpa using this : Tryd.prog.wantsStandIn t = false)
theorem eventBack_holds : Rows.EventBackUptoCardSaid :=
  Claim7.holds_tied_plain_at .later [] _ _ _ _ said (fun _ h => by cases h) (by kernel_rfl) (fun _ h => by cases h) eventBackUpto_row_tie rfl ⟨rfl, rfl⟩ (by kernel_rfl) rfl plain (by kernel_rfl)
#print axioms eventBack_holds
end Go.Proofs.YtpakcicbojbonaaDoor.eventBack
