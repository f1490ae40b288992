/- EventParses holds of what is of bounded bulk. No conditions. -/
import Derived.Test.YtpakcicbojbonaaGreatDoorEvtX
import Derived.Test.YtpakcicbojbonaaGreatDoorEvtY
namespace Go.Proofs.YtpakcicbojbonaaGreatDoor.eventParses
open Go.ChangeShapes Go.WideShapes Go.ChangeAt Go.RowKit
open Go.ChangeMaps (open_string shut_string)
set_option linter.unusedSimpArgs false
set_option linter.unusedVariables false

theorem parse_same' (T : List TSig) (Y : List ByteArray) (l : List UInt8) : parseD T Y l = parseP T Y l := by
  by_cases hc : checkSig T Y = 0
  · refine parse_same T Y l fun w0 w1 ws v hv => ?_
    unfold candD at hv
    simp only [List.mem_iff_getElem, List.length_zipWith, List.getElem_zipWith] at hv
    obtain ⟨i, hi, rfl⟩ := hv
    exact valD_fits Y (right_of hc).few _ _
  · unfold parseD parseP
    cases split1 32 l with
    | nil => rfl
    | cons w0 r =>
      cases r with
      | nil => rfl
      | cons w1 ws =>
        show (if checkSig T Y = 0 ∧ 0 ≤ typeSig T w0 then lineIs T Y l (candD T Y w0 w1 ws) else none) = (if checkSig T Y = 0 ∧ 0 ≤ typeSig T w0 ∧ ws.length = (kindsAt T (typeSig T w0)).length then bodyP T Y (typeSig T w0) w1 ws else none)
        rw [if_neg (fun h => hc h.1), if_neg (fun h => hc h.1)]
def parsR3 (e y : EventV) (ok : Bool) (w2 w4 : World) : List Spec := [.is (.bool true),
  .is (.bool true),
  .is (.bool ok),
  .is (.bool ok),
  .is (.bool true),
  .is (.bool true),
  .is (.bool true),
  .is (.agg #[.int .i64 e.type, .int .i64 e.time, .slice e.A e.attrs.length e.c]),
  .st (EvAt e.sig) (EvAt.keep),
  .is (.agg #[.int .i64 y.type, .int .i64 y.time, .slice y.A y.attrs.length y.c]),
  .is (.bool true),
  .is (.bool true),
  .is (.bool true)]
set_option maxRecDepth 100000 in
set_option maxHeartbeats 4000000 in
theorem walk (w : World) (he : Env w) (s : SchemaV) (hs : s.ok w w.heap.size) (t : ByteArray) (ht : t.size ≤ 1048576) :
    Calls Tryz.prog 3 #[s.val, .string t] w fun r w' => r = .returned (.bool true) ∧ Below w.heap.size w w' := by
  have hW : Below w.heap.size w (w.alloc (.cells #[.slice s.ta s.types.length s.tc, .slice s.sa s.syms.length s.sc] 25)) := (Below.refl _ _).alloc (Nat.le_refl _) _
  have k0 := Bk.new w 25 #[.slice s.ta s.types.length s.tc, .slice s.sa s.syms.length s.sc]
  have HTO := Lib.hid (sTo_any s _ (hs.old hW))
  have HE := Lib.hid he
  have HS0 := Lib.hid (hs.old hW)
  have hfew : checkSig (s.types.map sig) s.syms = 0 → s.syms.length ≤ 64 := fun h => (right_of h).few
  have hsame : parseD (s.types.map sig) s.syms t.toList = parseP (s.types.map sig) s.syms t.toList := parse_same' _ _ _
  obtain ⟨o, ho⟩ : ∃ o, parseP (s.types.map sig) s.syms t.toList = o := ⟨_, rfl⟩
  have HRP : Hid (∀ W : World, s.ok W W.heap.size → Calls Tryz.prog 6 #[.agg #[.slice s.ta s.types.length s.tc, .slice s.sa s.syms.length s.sc], .string t] W fun r w' => ∃ y : EventV, r = .returned (.tuple #[y.val, .bool o.isSome]) ∧ y.ok w' w'.heap.size ∧ Below W.heap.size W w' ∧ y.sig = o.getD (0, 0, [])) := Lib.hid fun W h1 => by
    have h := rparse_any s t W h1 (by omega)
    unfold RParseIs at h
    rw [hsame, ho] at h
    exact h
  clear hs he hfew hsame
  have HO := Lib.hid ho
  clear ho
  unfold SchemaV.val at HTO ⊢
  go_enter Tryz.func3, Tryz.ntmps3
  have s0 := k0.cell 0
  have s1 := k0.cell 1
  go_wp2_with fail
  generalize w.alloc (.cells #[.slice s.ta s.types.length s.tc, .slice s.sa s.syms.length s.sc] 25) = W at *
  refine HTO.out.mono ?_
  rintro r w1 ⟨v1, rfl, ⟨s', rfl, hs', hT', hY'⟩, hb1⟩
  have hbe1 := hW.trans (hb1.mono hW.size)
  have k01 := k0.old hb1
  have HS1 := Lib.hid (HS0.out.old hb1)
  have HPA : Hid (Calls Tryz.prog 4 #[.agg #[.slice s'.ta s'.types.length s'.tc, .slice s'.sa s'.syms.length s'.sc], .string t] w1 fun r w' => ∃ y : EventV, r = .returned (.tuple #[y.val, .bool o.isSome]) ∧ y.ok w' w'.heap.size ∧ Below w1.heap.size w1 w' ∧ y.sig = o.getD (0, 0, [])) := Lib.hid (by
    have h := parse_any s' t w1 (HE.out.old hbe1) hs' (by omega)
    unfold ParseIs at h
    rw [hT', hY', HO.out] at h
    exact h)
  clear HTO hb1 hW k0 HS0 s0 s1 hs' hT' hY' HO
  unfold SchemaV.val
  generalize o.isSome = ok at *
  go_wp2_with fail
  refine HPA.out.mono ?_
  rintro r w2 ⟨e, rfl, hev, hb2, hes⟩
  have hbe2 := hbe1.trans (hb2.mono hbe1.size)
  have k02 := k01.old hb2
  have HS2 := Lib.hid (HS1.out.old hb2)
  have HES := Lib.hid hes
  clear hb2 hbe1 k01 HS1 HPA hes
  have hbA : Below w2.heap.size w2 (w2.alloc (.cells #[.int .i64 e.type, .int .i64 e.time, .slice e.A e.attrs.length e.c] 28)) := (Below.refl _ _).alloc (Nat.le_refl _) _
  have ke := Bk.new w2 28 #[.int .i64 e.type, .int .i64 e.time, .slice e.A e.attrs.length e.c]
  have HEV0 := Lib.hid (hev.old hbA)
  have k03 := k02.old hbA
  have HS3 := Lib.hid (HS2.out.old hbA)
  have hbe3 := hbe2.trans (hbA.mono hbe2.size)
  clear hev hbA hbe2 k02 HS2
  have s0 := k03.cell 0
  have s1 := k03.cell 1
  unfold EventV.val
  go_wp2_with fail
  generalize w2.alloc (.cells #[.int .i64 e.type, .int .i64 e.time, .slice e.A e.attrs.length e.c] 28) = W3 at *
  refine (HRP.out W3 HS3.out).mono ?_
  rintro r w4 ⟨y, rfl, hy, hb4, hys⟩
  have hbe4 := hbe3.trans (hb4.mono hbe3.size)
  have ke4 := ke.old hb4
  have HEV4 := Lib.hid (HEV0.out.old hb4)
  have HYS : Hid (e.sig = y.sig) := Lib.hid (HES.out.trans hys.symm)
  clear hb4 hbe3 k03 HS3 s0 s1 ke HEV0 HRP hys HES
  have hbB : Below w4.heap.size w4 (w4.alloc (.cells #[.int .i64 y.type, .int .i64 y.time, .slice y.A y.attrs.length y.c] 37)) := (Below.refl _ _).alloc (Nat.le_refl _) _
  have ky := Bk.new w4 37 #[.int .i64 y.type, .int .i64 y.time, .slice y.A y.attrs.length y.c]
  have HY := Lib.hid (hy.old hbB)
  have ke5 := ke4.old hbB
  have HEV := Lib.hid (HEV4.out.old hbB)
  have hbe5 := hbe4.trans (hbB.mono hbe4.size)
  have HT := Lib.hid (HE.out.old hbe5).tab
  clear hy hbB ke4 HEV4 hbe4
  unfold EventV.val
  go_upto_region 3 with fail
  generalize w4.alloc (.cells #[.int .i64 y.type, .int .i64 y.time, .slice y.A y.attrs.length y.c] 37) = W5 at *
  have e0 := ke5.cell 0
  have e1 := ke5.cell 1
  have e2 := ke5.cell 2
  have y0 := ky.cell 0
  have y1 := ky.cell 1
  have y2 := ky.cell 2
  refine wp_region_b (by kernel_rfl) (fun qk => (parsR3 e y ok w2 w4).getD qk .any) (by kernel_rfl) ?_ ?_
  · refine BOk.cons rfl [] [] rfl rfl (by kernel_rfl) (by kernel_rfl) (fun qK qa wr hB qO qF hK => ?_) ?_
    · clear qO qF
      go_simp
      go_at_call 7
      refine (awake_any _ (HT.out.old hB)).mono ?_
      rintro e9 w9 ⟨rfl, hb9⟩
      exact hK _ _ hb9 rfl
    refine BOk.cons rfl [0] [] rfl rfl (by kernel_rfl) (by kernel_rfl) (fun qK qa wr hB qO qF hK => ?_) ?_
    · have e22 : qa.tmps[22]? = some (.bool true) := fis qF.1 rfl rfl
      clear qO qF
      go_simp
      exact hK _ _ (Below.refl _ _) (by first | rfl | (show (_ : Value) = _; simp_all; done))
    refine BOk.yes rfl [] [6] rfl 1 true rfl rfl rfl (by kernel_rfl) (by kernel_rfl) (by kernel_rfl) (fun qK qa wr hB qO qF hK => ?_) ?_
    · have e6 : qa.tmps[6]? = some (.bool ok) := qO.1.trans rfl
      clear qO qF
      go_simp
      exact hK _ _ (Below.refl _ _) (by first | rfl | (show (_ : Value) = _; simp_all; done))
    refine BOk.yes rfl [] [8] rfl 1 true rfl rfl rfl (by kernel_rfl) (by kernel_rfl) (by kernel_rfl) (fun qK qa wr hB qO qF hK => ?_) ?_
    · have e8 : qa.tmps[8]? = some (.bool ok) := qO.1.trans rfl
      clear qO qF
      go_simp
      exact hK _ _ (Below.refl _ _) (by first | rfl | (show (_ : Value) = _; simp_all; done))
    refine BOk.yes rfl [2, 3] [] rfl 1 true rfl rfl rfl (by kernel_rfl) (by kernel_rfl) (by kernel_rfl) (fun qK qa wr hB qO qF hK => ?_) ?_
    · have e24 : qa.tmps[24]? = some (.bool ok) := fis qF.1 rfl rfl
      have e25 : qa.tmps[25]? = some (.bool ok) := fis qF.2.1 rfl rfl
      clear qO qF
      go_simp
      refine hK _ _ (Below.refl _ _) ?_
      show (_ : Value) = _
      first | rfl | (simp; done) | (simp; omega)
    refine BOk.cons rfl [1, 4] [] rfl rfl (by kernel_rfl) (by kernel_rfl) (fun qK qa wr hB qO qF hK => ?_) ?_
    · have e23 : qa.tmps[23]? = some (.bool true) := fis qF.1 rfl rfl
      have e26 : qa.tmps[26]? = some (.bool true) := fis qF.2.1 rfl rfl
      clear qO qF
      go_simp
      refine hK _ _ (Below.refl _ _) ?_
      show (_ : Value) = _
      first | rfl | (simp; done) | (simp; omega)
    refine BOk.cons rfl [5] [] rfl rfl (by kernel_rfl) (by kernel_rfl) (fun qK qa wr hB qO qF hK => ?_) ?_
    · have e27 : qa.tmps[27]? = some (.bool true) := fis qF.1 rfl rfl
      clear qO qF
      go_simp
      exact hK _ _ (Below.refl _ _) (by first | rfl | (show (_ : Value) = _; simp_all; done))
    refine BOk.yes rfl [] [5] rfl 6 true rfl rfl rfl (by kernel_rfl) (by kernel_rfl) (by kernel_rfl) (fun qK qa wr hB qO qF hK => ?_) ?_
    · have e5 : qa.tmps[5]? = some (.pointer (some ⟨w2.heap.size, 0, none⟩)) := qO.1.trans rfl
      clear qO qF
      have he0 := (bcell hB _ _ (World.block_lt_of_cell? _ _ e0)).trans e0
      have he1 := (bcell hB _ _ (World.block_lt_of_cell? _ _ e1)).trans e1
      have he2 := (bcell hB _ _ (World.block_lt_of_cell? _ _ e2)).trans e2
      go_simp
      exact hK _ _ (Below.refl _ _) rfl
    refine BOk.yes rfl [7] [] rfl 6 true rfl rfl rfl (by kernel_rfl) (by kernel_rfl) (by kernel_rfl) (fun qK qa wr hB qO qF hK => ?_) ?_
    · have e29 : qa.tmps[29]? = some (.agg #[.int .i64 e.type, .int .i64 e.time, .slice e.A e.attrs.length e.c]) := fis qF.1 rfl rfl
      clear qO qF
      go_simp
      go_at_call 9
      refine (eOf_any e _ (HEV.out.old hB)).mono ?_
      rintro e9 w9 ⟨v9, rfl, hat, hb9⟩
      exact hK _ _ hb9 hat
    refine BOk.yes rfl [] [7] rfl 6 true rfl rfl rfl (by kernel_rfl) (by kernel_rfl) (by kernel_rfl) (fun qK qa wr hB qO qF hK => ?_) ?_
    · have e7 : qa.tmps[7]? = some (.pointer (some ⟨w4.heap.size, 0, none⟩)) := qO.1.trans rfl
      clear qO qF
      have hy0 := (bcell hB _ _ (World.block_lt_of_cell? _ _ y0)).trans y0
      have hy1 := (bcell hB _ _ (World.block_lt_of_cell? _ _ y1)).trans y1
      have hy2 := (bcell hB _ _ (World.block_lt_of_cell? _ _ y2)).trans y2
      go_simp
      exact hK _ _ (Below.refl _ _) rfl
    refine BOk.yes rfl [8, 9] [] rfl 6 true rfl rfl rfl (by kernel_rfl) (by kernel_rfl) (by kernel_rfl) (fun qK qa wr hB qO qF hK => ?_) ?_
    · obtain ⟨u30, e30, r8⟩ := qF.1
      obtain ⟨q30, h30, he30, hx30⟩ := (show EvAt _ u30 wr from r8)
      subst h30
      have e30 : qa.tmps[30]? = some q30.val := e30
      have e31 : qa.tmps[31]? = some (.agg #[.int .i64 y.type, .int .i64 y.time, .slice y.A y.attrs.length y.c]) := fis qF.2.1 rfl rfl
      clear qO qF
      go_simp
      go_at_call 8
      refine (same_any q30 y _ he30 (HY.out.old hB) (hx30.trans HYS.out)).mono ?_
      rintro e9 w9 ⟨rfl, hb9⟩
      exact hK _ _ hb9 rfl
    refine BOk.cons rfl [6, 10] [] rfl rfl (by kernel_rfl) (by kernel_rfl) (fun qK qa wr hB qO qF hK => ?_) ?_
    · have e28 : qa.tmps[28]? = some (.bool true) := fis qF.1 rfl rfl
      have e32 : qa.tmps[32]? = some (.bool true) := fis qF.2.1 rfl rfl
      clear qO qF
      go_simp
      refine hK _ _ (Below.refl _ _) ?_
      show (_ : Value) = _
      first | rfl | (simp; done) | (simp; omega)
    refine BOk.cons rfl [11] [] rfl rfl (by kernel_rfl) (by kernel_rfl) (fun qK qa wr hB qO qF hK => ?_) ?_
    · have e33 : qa.tmps[33]? = some (.bool true) := fis qF.1 rfl rfl
      clear qO qF
      go_simp
      exact hK _ _ (Below.refl _ _) (by first | rfl | (show (_ : Value) = _; simp_all; done))
    exact BOk.nil
  intro vals wr hl hB hR
  match vals, hl with
  | [z22, z23, z24, z25, z26, z27, z28, z29, z30, z31, z32, z33, z4], _ =>
  have r12 : z4 = .bool true := hR 12 _ rfl
  subst r12
  clear hR
  simp only [List.cons_append, List.nil_append, putAll, Act.put, List.setIfInBounds_toArray, List.set_cons_zero, List.set_cons_succ]
  have hfin := hbe5.trans (hB.mono hbe5.size)
  clear hB hbe5 e0 e1 e2 y0 y1 y2 ke5 ky HY HEV HT
  go_wp2
  go_ret
  exact ⟨rfl, hfin⟩

theorem laid_met (os : Os) : laidMet Tryz.prog Rows.eventParsesUptoRow.laid ((laidWorld os #[.agg #[.slice none 0 0, .slice none 0 0], .string ⟨#[]⟩]).forCall (fun _ _ => 0) ⟨#[], #[.agg #[.slice none 0 0, .slice none 0 0], .string ⟨#[]⟩], []⟩).memory := laidMet_of_run' 8 (by kernel_rfl) (by kernel_rfl)
theorem reads (os : Os) {H : Type} (enc : TypeId × Value → H) : ∃ places, DataW.whole enc Tryz.prog ((laidWorld os #[.agg #[.slice none 0 0, .slice none 0 0], .string ⟨#[]⟩]).forCall (fun _ _ => 0) ⟨#[], #[.agg #[.slice none 0 0, .slice none 0 0], .string ⟨#[]⟩], []⟩).memory Tryz.f3.params.toList Rows.eventParsesSpec.vars false (#[.agg #[.slice none 0 0, .slice none 0 0], .string ⟨#[]⟩] : Array Value).toList 8 = some ([.agg [.nil, .nil], .lit (.string [])], [], places) := ⟨[], by kernel_rfl⟩
theorem rec0 : (Tryz.f3.params.toList.all fun t => Tryz.prog.readableRec t && decide (t < Tryz.prog.types.size)) = true := by kernel_rfl
set_option maxRecDepth 100000 in
theorem lifted (os : Os) (started : os.Started) (H : Type) (enc : TypeId × Value → H) (F : Stop.Interp) :
    ReturnsInHanded {} Tryz.checked os 3 .any ((Rows.OpenSpec.upto Rows.eventParsesSpec).preRow enc Tryz.prog Tryz.f3 Rows.eventParsesUptoRow.domain false Rows.eventParsesUptoRow.laid) (((Rows.OpenSpec.upto Rows.eventParsesSpec).at F).post enc Tryz.prog Tryz.f3 false true false false) := by
  obtain ⟨places, hx⟩ := reads os enc
  refine law_stepCB (C := Tryz.checked) (s := Rows.eventParsesSpec) (tb := 4) own started (by kernel_rfl) Tryz.func3
    (witness_row_at (enc := enc) (C := Tryz.checked) false (laidWorld os #[.agg #[.slice none 0 0, .slice none 0 0], .string ⟨#[]⟩]) #[.agg #[.slice none 0 0, .slice none 0 0], .string ⟨#[]⟩] rfl (by kernel_rfl) (by kernel_rfl) (by kernel_rfl)
      (OpenSpec.preRow_of_cond 8 hx (by kernel_rfl) (fun k hk => by cases hk; kernel_rfl) (by kernel_rfl) (laid_met os))) laidOut ?_ rfl Tryz.underlying4 rfl ?_ ?_
  · intro t ht
    have := List.all_eq_true.1 rec0 t ht
    simp only [Bool.and_eq_true, decide_eq_true_eq] at this
    exact this
  · intro ds hd
    match ds, hd with
    | [d0, d1], _ => exact ⟨rfl, rfl, rfl⟩
  intro W base args ds p hval hA hsz hbk hL hsh
  have htab := env_of hL hsh
  rw [Tryz.params3] at hA hval hsz
  obtain ⟨v0, vs0, d0, ds0, p0, q0, hargs, rfl, rfl, h0, r0⟩ := trodAll_cons hA
  obtain ⟨v1, vs1, d1, ds1, p1, q1, rfl, rfl, rfl, h1, r1⟩ := trodAll_cons r0
  obtain ⟨rfl, rfl, rfl⟩ := trodAll_nil r1
  obtain rfl : args = #[v0, v1] := by cases args; simp_all
  obtain ⟨s0, rfl, hs0⟩ := open_schema (hval 0 25 v0 rfl rfl) h0 (weights_each (i := 0) hsz rfl rfl)
  obtain ⟨u1, rfl, hu1⟩ := open_strB (hval 1 9 v1 rfl rfl) h1 (weights_each (i := 1) hsz rfl rfl) (Nat.le_trans (bulk_part (by simp)) hbk)
  exact walk W htab s0 hs0 u1 hu1

theorem said : Rows.EventParsesUptoSaid :=
  OpenClaim.holds_of_cond 3 Tryz.f3 rfl rfl rfl rfl rfl rfl rfl ⟨rfl, rfl, rfl, rfl, rfl⟩ rfl rfl rfl rfl rfl (by kernel_rfl) Tryz.func3 (by kernel_rfl)
    (of_decide_eq_true (by kernel_rfl)) (by unfold Func.isWrapper; first | (rw [if_pos (by decide +kernel)]; kernel_rfl) | (rw [if_neg (by decide +kernel)]; exact ⟨rfl, rfl⟩))
    (fun os started H enc _ F => by rw [OpenClaim.pre_eq_preRow]; exact lifted os started H enc F)
theorem noStand : (Tryz.f3.params.toList.all fun t => !(Tryz.prog.wantsStandIn t)) = true := by kernel_rfl
theorem plain (f : FuncId) (fn : Func) (hf : Tryz.pinned.checked.prog.funcNamed "auspice/auspicelaw04.EventParses" = some f) (hfn : Tryz.pinned.checked.prog.funcs[f]? = some fn) :
    true = Tryz.pinned.checked.prog.looks [] ∧ ∀ (j : Nat) t, fn.params[j]? = some t → Tryz.pinned.checked.prog.wantsStandIn t = false := by
  obtain rfl : f = 3 := Option.some.inj ((show Tryz.prog.funcNamed "auspice/auspicelaw04.EventParses" = some 3 by kernel_rfl).symm.trans hf) |>.symm
  obtain rfl : fn = Tryz.f3 := (Option.some.inj (Tryz.func3.symm.trans hfn)).symm
  refine ⟨by kernel_rfl, fun j t ht => ?_⟩
  have hm : t ∈ Tryz.f3.params.toList := by rw [Array.mem_toList_iff]; exact Array.mem_of_getElem? ht
  have := List.all_eq_true.1 noStand t hm
  exact (by simpa using this : Tryz.prog.wantsStandIn t = false)
theorem eventParses_holds : Rows.EventParsesUptoCardSaid :=
  Claim7.holds_tied_plain_at .later [] _ _ _ _ said (fun _ h => by cases h) (by kernel_rfl) (fun _ h => by cases h) eventParsesUpto_row_tie rfl ⟨rfl, rfl⟩ (by kernel_rfl) rfl plain (by kernel_rfl)
#print axioms eventParses_holds
end Go.Proofs.YtpakcicbojbonaaGreatDoor.eventParses
