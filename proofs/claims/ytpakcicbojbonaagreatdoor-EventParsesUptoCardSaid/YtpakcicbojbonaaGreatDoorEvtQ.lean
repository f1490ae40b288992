/- Layer 4: a line that is read, by the program. No conditions. -/
import Derived.Test.YtpakcicbojbonaaGreatDoorEvtN
import Derived.Deep.RegionHeld3
namespace Go.Proofs.YtpakcicbojbonaaGreatDoor
open Go.RowKit
set_option maxRecDepth 10000
set_option linter.unusedVariables false
set_option linter.unusedSimpArgs false

theorem infoVq : (Tryz.prog.info? 57).map (fun i => (i.zero, i.size, i.bytes)) = some (some (.agg #[.int .i64 0, .int .u64 0]), 2, 16) := by kernel_rfl
theorem split_words (t : ByteArray) : splitL t ⟨#[32]⟩ = (split1 32 t.toList).map bytes := by
  conv => lhs; rw [of_bytes t]
  rw [splitL_bytes, ByteArray.toList_eq]
/-- The rest of the words, read; what was read ahead. -/
def fin (Y : List ByteArray) (ok : Bool) (vs : List V) (ks : List Int) (ws : List (List UInt8)) : Option (List V) := if ok = true then (readAll Y ks ws).map (vs ++ ·) else none
theorem fin_step {Y : List ByteArray} {ok : Bool} {vs : List V} {k : Int} {x : List UInt8} {ks : List Int} {ws : List (List UInt8)} (hk : 1 ≤ k ∧ k ≤ 4) (hY : Y.length ≤ 64) :
    fin Y ok vs (k :: ks) (x :: ws) = fin Y (ok && (valP Y k x).isSome) (vs ++ [valT Y k x]) ks ws := by
  unfold fin
  cases ok with
  | false => rfl
  | true =>
    rw [if_pos rfl, Bool.true_and]
    show ((match valP Y k x with | some v => (readAll Y ks ws).map (v :: ·) | none => none)).map (vs ++ ·) = _
    cases hv : valP Y k x with
    | none => rfl
    | some v =>
      rw [val_T hk hY hv]
      show ((readAll Y ks ws).map (v :: ·)).map (vs ++ ·) = (readAll Y ks ws).map ((vs ++ [v]) ++ ·)
      rw [Option.map_map]
      congr 1
      funext z
      simp
theorem fin_end (Y : List ByteArray) (ok : Bool) (vs : List V) : fin Y ok vs [] [] = if ok = true then some vs else none := by
  unfold fin
  cases ok
  · rfl
  · simp [readAll]
def ParseIs (T : List TSig) (Y : List ByteArray) (l : List UInt8) (w : World) (r : Ending) (w' : World) : Prop :=
  ∃ e : EventV, r = .returned (.tuple #[e.val, .bool (parseP T Y l).isSome]) ∧ e.ok w' w'.heap.size ∧ Below w.heap.size w w' ∧ e.sig = (parseP T Y l).getD (0, 0, [])
def zeroE : EventV := ⟨0, 0, none, 0, []⟩
theorem zeroE_ok (w : World) (B : Nat) : zeroE.ok w B := ⟨Rd.nil, by simp [zeroE], by simp [zeroE], by simp [zeroE]⟩
theorem parse_no {T : List TSig} {Y : List ByteArray} {l : List UInt8} {w w' : World} (h : parseP T Y l = none) (hb : Below w.heap.size w w') : ParseIs T Y l w (.returned (.tuple #[.agg #[.int .i64 0, .int .i64 0, .slice none 0 0], .bool false])) w' := ⟨zeroE, by rw [h]; rfl, zeroE_ok _ _, hb, by rw [h]; rfl⟩
theorem parse_yes {T : List TSig} {Y : List ByteArray} {l : List UInt8} {w w' : World} (e : EventV) (h : parseP T Y l = some e.sig) (he : e.ok w' w'.heap.size) (hb : Below w.heap.size w w') : ParseIs T Y l w (.returned (.tuple #[e.val, .bool true])) w' := ⟨e, by rw [h]; rfl, he, hb, by rw [h]; rfl⟩
theorem Env.step {W w' : World} {R : Prop} (h : Env W) (hb : Below W.heap.size W w' ∧ R) : Env w' := h.old hb.1
def parR2 (s : SchemaV) (wb wo N : Nat) (ty : Int) (w0 : List UInt8) (w : World) : List Spec := [.is (.agg #[.slice s.ta s.types.length s.tc, .slice s.sa s.syms.length s.sc]),
  .is (.slice (some ⟨wb, wo, none⟩) N N),
  .is (.pointer (some ⟨wb, wo, none⟩)),
  .is (.string (bytes w0)),
  .is (.int .i64 ty),
  .is (.int .i64 ty)]
set_option maxRecDepth 100000 in
set_option maxHeartbeats 1500000 in
theorem parse_any (s : SchemaV) (t : ByteArray) (w : World) (hE : Env w) (hs : s.ok w w.heap.size) (ht : t.size < 4294967281) :
    Calls Tryz.prog 4 #[s.val, .string t] w (ParseIs (s.types.map sig) s.syms t.toList w) := by
  obtain ⟨iV, hV, hV0, hV1, hV2⟩ := info_parts infoVq
  have hW : Below w.heap.size w ((w.alloc (.cells #[.slice s.ta s.types.length s.tc, .slice s.sa s.syms.length s.sc] 33)).alloc (.cells #[.int .i64 0, .int .i64 0, .slice none 0 0] 28)) := ((Below.refl _ _).alloc (Nat.le_refl _) _).alloc (by simp) _
  have k0 := (Bk.new w 33 #[.slice s.ta s.types.length s.tc, .slice s.sa s.syms.length s.sc]).alloc (.cells #[.int .i64 0, .int .i64 0, .slice none 0 0] 28)
  have k1 := Bk.newAt (w := w.alloc (.cells #[.slice s.ta s.types.length s.tc, .slice s.sa s.syms.length s.sc] 33)) (g := w.heap.size + 1) (by simp) 28 #[.int .i64 0, .int .i64 0, .slice none 0 0]
  have hspl := split_words t
  obtain ⟨WL, hWL⟩ : ∃ WL, split1 32 t.toList = WL := ⟨_, rfl⟩
  have hsz : ∀ x ∈ WL, x.length ≤ 281474976710656 := fun x hx => by
    rw [← hWL] at hx
    have h1 := split1_mem _ _ x hx
    rw [len_list] at h1; omega
  have hwl : WL.length ≤ 4294967282 := by
    have h1 := wid_len (split1 32 t.toList)
    rw [split1_wid, len_list, hWL] at h1; omega
  have hPP : parseP (s.types.map sig) s.syms t.toList = wordsP (s.types.map sig) s.syms WL := by unfold parseP; rw [hWL]
  rw [hWL] at hspl
  obtain ⟨w0, wr0, rfl⟩ : ∃ w0 r, WL = w0 :: r := by
    cases WL with
    | nil => exact absurd hWL (split1_ne 32 _)
    | cons a b => exact ⟨a, b, rfl⟩
  clear hWL
  have HSP := Lib.hid (fun W h1 => split_any t ⟨#[32]⟩ W h1 ht (by decide))
  rw [hspl] at HSP
  have HSZ := Lib.hid hsz
  have HPP := Lib.hid hPP
  have HE := Lib.hid hE
  have HS := Lib.hid hs
  obtain ⟨ty, hty⟩ : ∃ ty, typeSig (s.types.map sig) w0 = ty := ⟨_, rfl⟩
  have HTY : Hid (∀ W : World, s.ok W W.heap.size → Calls Tryz.prog 11 #[.agg #[.slice s.ta s.types.length s.tc, .slice s.sa s.syms.length s.sc], .string (bytes w0)] W fun e w' => e = .returned (.int .i64 ty) ∧ Below W.heap.size W w') := Lib.hid fun W h => by
    have h2 := ptype_any s (bytes w0) W h
    rw [typeAt_sig, bytes_list, hty] at h2
    exact h2
  have hrg := at_ge w0 ((s.types.map sig).map (·.1.toList)) 0
  rw [show atFrom w0 0 ((s.types.map sig).map (·.1.toList)) = ty from hty] at hrg
  have hty1 := hrg.1
  have hty2 : ty < (s.types.length : Int) := by simpa using hrg.2.1
  have HTYE := Lib.hid hty
  obtain ⟨N, hN⟩ : ∃ N, ((w0 :: wr0).map bytes).length = N := ⟨_, rfl⟩
  rw [hN] at HSP
  have HN1 : Hid (N = wr0.length + 1) := Lib.hid (by rw [← hN]; simp)
  have hNl : N ≤ 4294967282 := by rw [HN1.out]; simpa using hwl
  have hN0 : (0 : Int) < (N : Int) := by have := HN1.out; omega
  have hN0n : 0 < N := by omega
  clear hspl hsz hPP hE hs hty hrg hN hwl
  obtain ⟨ck, hck⟩ : ∃ ck, checkSig (s.types.map sig) s.syms = ck := ⟨_, rfl⟩
  have HCK : Hid (∀ W : World, s.ok W W.heap.size → Calls Tryz.prog 12 #[.agg #[.slice s.ta s.types.length s.tc, .slice s.sa s.syms.length s.sc]] W fun e w' => e = .returned (.int .i64 ck) ∧ Below W.heap.size W w') := Lib.hid fun W h => by
    have h2 := pcheck_any s W h
    rw [hck] at h2
    exact h2
  have HCKE := Lib.hid hck
  clear hck
  have hsl := HS.out.len
  unfold SchemaV.val
  go_enter Tryz.func4, Tryz.ntmps4
  go_wp2_with fail
  generalize (w.alloc (.cells #[.slice s.ta s.types.length s.tc, .slice s.sa s.syms.length s.sc] 33)).alloc (.cells #[.int .i64 0, .int .i64 0, .slice none 0 0] 28) = W at *
  refine (HSP.out W (HE.out.old hW)).mono ?_
  rintro r w2 ⟨A, rfl, hrd, hb2⟩
  have hbe2 := hW.trans (hb2.mono hW.size)
  have k02 := k0.old hb2
  have k12 := k1.old hb2
  have HWD := Lib.hid hrd
  clear hb2 hW k0 k1 hrd HSP
  obtain ⟨wb, wo, hA, hwb, hwc⟩ := (HWD.out).elem1 (k := 0) (by simp)
  have q0 : w2.cell? ⟨wb, wo, none⟩ = some (.string (bytes w0)) := by simpa using hwc
  subst hA
  clear hwc
  have s0 := k02.cell 0
  have s1 := k02.cell 1
  have HS2 := Lib.hid (HS.out.old hbe2)
  go_upto_region 2 with fail
  refine wp_region_b (by kernel_rfl) (fun qk => (parR2 s wb wo N ty w0 w).getD qk .any) (by kernel_rfl) ?_ ?_
  · refine BOk.cons rfl [] [2] rfl rfl (by kernel_rfl) (by kernel_rfl) (fun qK qa wr hB qO qF hK => ?_) ?_
    · have e2 : qa.tmps[2]? = some (.pointer (some ⟨w.heap.size, 0, none⟩)) := qO.1.trans rfl
      clear qO qF
      have hs0 := (bcell hB _ _ (World.block_lt_of_cell? _ _ s0)).trans s0
      have hs1 := (bcell hB _ _ (World.block_lt_of_cell? _ _ s1)).trans s1
      go_simp
      exact hK _ _ (Below.refl _ _) rfl
    refine BOk.cons rfl [] [6] rfl rfl (by kernel_rfl) (by kernel_rfl) (fun qK qa wr hB qO qF hK => ?_) ?_
    · have e6 : qa.tmps[6]? = some (.slice (some ⟨wb, wo, none⟩) N N) := qO.1.trans rfl
      clear qO qF
      go_simp
      exact hK _ _ (Below.refl _ _) rfl
    refine BOk.cons rfl [1] [] rfl rfl (by kernel_rfl) (by kernel_rfl) (fun qK qa wr hB qO qF hK => ?_) ?_
    · have e18 : qa.tmps[18]? = some (.slice (some ⟨wb, wo, none⟩) N N) := fis qF.1 rfl rfl
      clear qO qF
      go_simp
      exact hK _ _ (Below.refl _ _) rfl
    refine BOk.cons rfl [2] [] rfl rfl (by kernel_rfl) (by kernel_rfl) (fun qK qa wr hB qO qF hK => ?_) ?_
    · have e19 : qa.tmps[19]? = some (.pointer (some ⟨wb, wo, none⟩)) := fis qF.1 rfl rfl
      clear qO qF
      have hq0 := (bcell hB _ _ (World.block_lt_of_cell? _ _ q0)).trans q0
      go_simp
      exact hK _ _ (Below.refl _ _) rfl
    refine BOk.cons rfl [0, 3] [] rfl rfl (by kernel_rfl) (by kernel_rfl) (fun qK qa wr hB qO qF hK => ?_) ?_
    · have e17 : qa.tmps[17]? = some (.agg #[.slice s.ta s.types.length s.tc, .slice s.sa s.syms.length s.sc]) := fis qF.1 rfl rfl
      have e20 : qa.tmps[20]? = some (.string (bytes w0)) := fis qF.2.1 rfl rfl
      clear qO qF
      go_simp
      go_at_call 11
      refine (HTY.out _ (HS2.out.old hB)).mono ?_
      rintro e9 w9 ⟨rfl, hb9⟩
      exact hK _ _ hb9 rfl
    refine BOk.cons rfl [4] [] rfl rfl (by kernel_rfl) (by kernel_rfl) (fun qK qa wr hB qO qF hK => ?_) ?_
    · have e21 : qa.tmps[21]? = some (.int .i64 ty) := fis qF.1 rfl rfl
      clear qO qF
      go_simp
      exact hK _ _ (Below.refl _ _) rfl
    exact BOk.nil
  intro vals wr hl hB hR
  match vals, hl with
  | [y17, y18, y19, y20, y21, y7], _ =>
  have r5 : y7 = .int .i64 ty := hR 5 _ rfl
  subst r5
  clear hR
  simp only [List.cons_append, List.nil_append, putAll, Act.put, List.setIfInBounds_toArray, List.set_cons_zero, List.set_cons_succ]
  have hbe3 := hbe2.trans (hB.mono hbe2.size)
  have k03 := k02.old hB
  have k13 := k12.old hB
  have HWD3 := Lib.hid ((HWD.out.below hB).more hB.size)
  clear hB hbe2 k02 k12 HWD s0 s1 q0 HS2 HTY
  have s0 := k03.cell 0
  have s1 := k03.cell 1
  go_wp2_with fail
  refine (HCK.out _ (HS.out.old hbe3)).mono ?_
  rintro r w4 ⟨rfl, hb4⟩
  have hbe4 := hbe3.trans (hb4.mono hbe3.size)
  have k04 := k03.old hb4
  have k14 := k13.old hb4
  have HWD4 := Lib.hid ((HWD3.out.below hb4).more hb4.size)
  clear hb4 hbe3 k03 k13 HWD3 s0 s1 HCK hN0
  by_cases hc0 : ck = 0
  case neg =>
    have hckI : (ck != 0) = true := by simpa using hc0
    have HN : Hid (parseP (s.types.map sig) s.syms t.toList = none) := Lib.hid (by
      rw [HPP.out]
      cases wr0 with
      | nil => rfl
      | cons w1 ws => exact if_neg (fun h => hc0 (HCKE.out.symm.trans h.1)))
    have d0 := k14.cell 0
    have d1 := k14.cell 1
    have d2 := k14.cell 2
    have f0 := k14.frozen 0
    have f1 := k14.frozen 1
    have f2 := k14.frozen 2
    clear hc0
    go_wp2
    refine bodyPost_ret (v := .tuple #[.agg #[.int .i64 0, .int .i64 0, .slice none 0 0], .bool false]) (by simp [results, Tryz.results4, go_sem, d0, d1, d2]) rfl ?_
    exact parse_no HN.out (by repeat (first | exact hbe4 | refine Below.setCell ?_ (by simp) _))
  subst hc0
  by_cases hty0 : 0 ≤ ty
  case neg =>
    have htyI : ty < 0 := by omega
    have HN : Hid (parseP (s.types.map sig) s.syms t.toList = none) := Lib.hid (by
      rw [HPP.out]
      cases wr0 with
      | nil => rfl
      | cons w1 ws => exact if_neg (fun h => by have := h.2.1; rw [HTYE.out] at this; omega))
    have d0 := k14.cell 0
    have d1 := k14.cell 1
    have d2 := k14.cell 2
    have f0 := k14.frozen 0
    have f1 := k14.frozen 1
    have f2 := k14.frozen 2
    clear hty0
    go_wp2
    refine bodyPost_ret (v := .tuple #[.agg #[.int .i64 0, .int .i64 0, .slice none 0 0], .bool false]) (by simp [results, Tryz.results4, go_sem, d0, d1, d2]) rfl ?_
    exact parse_no HN.out (by repeat (first | exact hbe4 | refine Below.setCell ?_ (by simp) _))
  obtain ⟨tn, rfl⟩ : ∃ tn : Nat, ty = tn := ⟨ty.toNat, by omega⟩
  have htn : tn < s.types.length := by omega
  have htI : ¬ (tn : Int) < 0 := by omega
  obtain ⟨tb, tO, hta, htb, htc⟩ := (HS.out.rd.below hbe4).elem (n := 2) (fun _ => rfl) (by omega) htn
  have tc1 : w4.cell? ⟨tb, tO + tn * 2 + 1, none⟩ = some (.slice s.types[tn].fa s.types[tn].fields.length s.types[tn].fc) := htc 1 _ rfl
  have HT := Lib.hid (HS.out.each s.types[tn] (List.getElem_mem _))
  have hKA : kindsAt (s.types.map sig) (tn : Int) = s.types[tn].fields.map (·.kind) := by
    unfold kindsAt kindsOf
    rw [Int.toNat_natCast, List.getD_eq_getElem?_getD, List.getElem?_map, List.getElem?_map, List.getElem?_eq_getElem htn]; rfl
  have HKA := Lib.hid hKA
  clear htc hKA hty0 hty1
  generalize s.types[tn] = TT at *
  have htl := HT.out.len
  have s0 := k04.cell 0
  have s1 := k04.cell 1
  rw [hta] at s0
  by_cases hln : N = 2 + TT.fields.length
  case neg =>
    have hlnI : ((N : Int) != 2 + (TT.fields.length : Int)) = true := by simp; omega
    have HN : Hid (parseP (s.types.map sig) s.syms t.toList = none) := Lib.hid (by
      rw [HPP.out]
      cases wr0 with
      | nil => rfl
      | cons w1 ws =>
        refine if_neg (fun h => hln ?_)
        have h3 := h.2.2
        rw [HTYE.out, HKA.out, List.length_map] at h3
        rw [HN1.out, List.length_cons, h3]; omega)
    have d0 := k14.cell 0
    have d1 := k14.cell 1
    have d2 := k14.cell 2
    have f0 := k14.frozen 0
    have f1 := k14.frozen 1
    have f2 := k14.frozen 2
    clear hln
    go_wp2
    refine bodyPost_ret (v := .tuple #[.agg #[.int .i64 0, .int .i64 0, .slice none 0 0], .bool false]) (by simp [results, Tryz.results4, go_sem, d0, d1, d2]) rfl ?_
    exact parse_no HN.out (by repeat (first | exact hbe4 | refine Below.setCell ?_ (by simp) _))
  have hlnI : ((N : Int) != 2 + (TT.fields.length : Int)) = false := by simp; omega
  obtain ⟨w1, ws, rfl⟩ : ∃ w1 ws, wr0 = w1 :: ws := by
    cases wr0 with
    | nil => have := HN1.out; simp at this; omega
    | cons a b => exact ⟨a, b, rfl⟩
  have hwsl : ws.length = TT.fields.length := by have := HN1.out; simp at this; omega
  have HBP : Hid (parseP (s.types.map sig) s.syms t.toList = bodyP (s.types.map sig) s.syms tn w1 ws) := Lib.hid (by
    rw [HPP.out]
    show (if checkSig (s.types.map sig) s.syms = 0 ∧ 0 ≤ typeSig (s.types.map sig) w0 ∧ ws.length = (kindsAt (s.types.map sig) (typeSig (s.types.map sig) w0)).length then bodyP (s.types.map sig) s.syms (typeSig (s.types.map sig) w0) w1 ws else none) = _
    rw [HTYE.out, HKA.out, if_pos ⟨HCKE.out, by omega, by rw [List.length_map]; exact hwsl⟩])
  have HRS := Lib.hid (right_of HCKE.out)
  obtain ⟨wb', wo', hA', _, hwc⟩ := (HWD4.out).elem1 (k := 1) (by simp)
  injection hA' with hA'
  injection hA' with e1 e2
  subst e1; subst e2
  have q1 : w4.cell? ⟨wb, wo + 1, none⟩ = some (.string (bytes w1)) := by simpa using hwc
  have hN1I : (1 : Int) < (N : Int) := by omega
  have HNM : Hid (∀ W : World, Env W → Calls Tryz.prog 13 #[.string (bytes w1)] W (NumIs w1 W)) := Lib.hid fun W h => by
    have h2 := number_any (bytes w1) W h (by rw [bytes_size]; exact HSZ.out w1 (by simp))
    rw [bytes_list] at h2
    exact h2
  have HLN := Lib.hid hln
  clear hwc hln HPP
  go_wp2_with fail
  refine (HNM.out w4 (HE.out.old hbe4)).mono ?_
  rintro r w5 ⟨rfl, hb5⟩
  have hbe5 := hbe4.trans (hb5.mono hbe4.size)
  have k05 := k04.old hb5
  have k15 := k14.old hb5
  have HWD5 := Lib.hid ((HWD4.out.below hb5).more hb5.size)
  have tc5 := (bcell hb5 _ _ (World.block_lt_of_cell? _ _ tc1)).trans tc1
  clear hb5 hbe4 k04 k14 HWD4 s0 s1 q1 tc1 HNM hlnI
  obtain ⟨RV, hRV⟩ : ∃ RV, fin s.syms (numP w1).isSome [] (TT.fields.map (·.kind)) ws = RV := ⟨_, rfl⟩
  have hrng := numT_range w1
  have HEND : Hid (∀ o, RV = o → parseP (s.types.map sig) s.syms t.toList = match o with | none => none | some vs => packP (s.types.map sig) s.syms tn (numT w1) vs) := Lib.hid fun o ho => by
    rw [HBP.out]
    rw [← hRV] at ho
    unfold bodyP
    rw [HKA.out]
    unfold fin at ho
    cases hn : numP w1 with
    | none => rw [hn] at ho; rw [← ho]; rfl
    | some tm =>
      rw [hn, Option.isSome_some, if_pos rfl] at ho
      rw [numP_T hn]
      simp only
      cases hr : readAll s.syms (TT.fields.map (·.kind)) ws with
      | none => rw [hr] at ho; rw [← ho]; rfl
      | some vs => rw [hr] at ho; rw [← ho]; simp
  have HRV := Lib.hid hRV
  clear hRV HBP
  generalize numT w1 = tm at *
  generalize (numP w1).isSome = ok0 at *
  have s0 := k05.cell 0
  rw [hta] at s0
  have hbA : Below w5.heap.size w5 (w5.alloc (.cells #[.int .i64 (tn : Nat), .int .i64 tm, .slice none 0 0] 28)) := (Below.refl _ _).alloc (Nat.le_refl _) _
  have e0 := Bk.new w5 28 #[.int .i64 (tn : Nat), .int .i64 tm, .slice none 0 0]
  have s0' := (k05.old hbA).cell 0
  rw [hta] at s0'
  have HTA := Lib.hid hta
  clear hta
  have tc5' := (bcell hbA _ _ (World.block_lt_of_cell? _ _ tc5)).trans tc5
  go_wp2
  generalize w5.alloc (.cells #[.int .i64 (tn : Nat), .int .i64 tm, .slice none 0 0] 28) = W6 at *
  clear s0 s0' tc5 tc5'
  go_loopw [9, 60] (fun okk i wr => ∃ (k : Nat) (ok : Bool) (A : Option Addr) (c : Nat) (vs : List V), k ≤ TT.fields.length ∧ okk = .bool ok ∧ i = .int .i64 k ∧ Below w5.heap.size w5 wr ∧
      Bk wr w5.heap.size 28 #[.int .i64 (tn : Nat), .int .i64 tm, .slice A k c] ∧ wr.ownsRow w5.heap.size 57 2 (.slice A k c) k (vs.flatMap V.cells) ∧ Hid (∀ x ∈ vs, x.fits) ∧ Hid (vs.length = k) ∧
      Hid (fin s.syms ok vs ((TT.fields.map (·.kind)).drop k) (ws.drop k) = RV)) (fun _ i _ => TT.fields.length - (intOf i).toNat)
  case atStart => exact ⟨0, ok0, none, 0, [], Nat.zero_le _, rfl, rfl, hbA, e0, World.ownsRow_nil _ _ _ _, Lib.hid (by simp), rfl, HRV⟩
  case round =>
    clear hbA e0 HRV
    obtain ⟨k, ok, A, c, vs, hk, rfl, rfl, hbi, ek, hown, hfit, hvl, hrec⟩ := hrel
    obtain ⟨wl, rfl⟩ : ∃ wl : World, wl = wr := ⟨_, rfl⟩
    have hbel := hbe5.trans (hbi.mono hbe5.size)
    have hzl := ek.lt
    have hzb := hbe5.size
    by_cases hlt : k < TT.fields.length
    · as_aux_lemma =>
      obtain ⟨fb, fo, hfa, hfb, hfc⟩ := ((HT.out.rd).below hbel).elem (n := 2) (fun _ => rfl) (by omega) hlt
      have r0 : wl.cell? ⟨fb, fo + k * 2, none⟩ = some (.string TT.fields[k].name) := hfc 0 _ rfl
      have r1 : wl.cell? ⟨fb, fo + k * 2 + 1, none⟩ = some (.int .i64 TT.fields[k].kind) := hfc 1 _ rfl
      have hkw : k < ws.length := by omega
      have hkk : k < (TT.fields.map (·.kind)).length := by simpa using hlt
      have hkd : 1 ≤ TT.fields[k].kind ∧ TT.fields[k].kind ≤ 4 := HRS.out.kinds (tn : Int) _ (by rw [HKA.out]; exact List.mem_map_of_mem (List.getElem_mem _))
      have hst : fin s.syms (ok && (valP s.syms TT.fields[k].kind ws[k]).isSome) (vs ++ [valT s.syms TT.fields[k].kind ws[k]]) ((TT.fields.map (·.kind)).drop (k + 1)) (ws.drop (k + 1)) = RV := by
        rw [← hrec.out, List.drop_eq_getElem_cons hkk, List.drop_eq_getElem_cons hkw, List.getElem_map]
        exact (fin_step hkd HRS.out.few).symm
      have HST := Lib.hid hst
      obtain ⟨wb', wo', hA', hwb', hwc⟩ := ((HWD5.out).below hbi).elem1 (k := 2 + k) (by simp only [List.length_map, List.length_cons]; omega)
      injection hA' with hA'
      injection hA' with e1 e2
      subst e1; subst e2
      have q1 : wl.cell? ⟨wb, wo + (2 + k), none⟩ = some (.string (bytes ws[k])) := by
        have e : (((w0 :: w1 :: ws).map bytes)[2 + k]'(by simp only [List.length_map, List.length_cons]; omega)) = bytes ws[k] := by
          rw [List.getElem_map]
          congr 1
          simp [Nat.add_comm 2 k]
        rw [e] at hwc
        exact hwc
      have HRD : Hid (∀ W : World, Env W → s.ok W W.heap.size → Calls Tryz.prog 14 #[.agg #[.slice s.ta s.types.length s.tc, .slice s.sa s.syms.length s.sc], .int .i64 TT.fields[k].kind, .string (bytes ws[k])] W (ReadIs s.syms TT.fields[k].kind ws[k] W)) := Lib.hid fun W h1 h2 => by
        have h3 := read_any s TT.fields[k].kind hkd (bytes ws[k]) W h1 h2 (by rw [bytes_size]; exact HSZ.out _ (by simp [List.getElem_mem]))
        rw [bytes_list] at h3
        exact h3
      have hvf := valT_fits s.syms TT.fields[k].kind ws[k]
      have HVF := Lib.hid hvf
      unfold ReadIs at HRD
      clear hst hwc hrec hfc hvf hkd
      generalize valT s.syms TT.fields[k].kind ws[k] = X at *
      generalize (valP s.syms TT.fields[k].kind ws[k]).isSome = xo at *
      generalize ws[k] = wk at *
      generalize TT.fields[k] = FD at *
      rw [hfa]
      clear hfa
      have k0l := (k05.old hbi)
      have hbF : Below wl.heap.size wl (wl.alloc (.cells #[.string FD.name, .int .i64 FD.kind] 54)) := (Below.refl _ _).alloc (Nat.le_refl _) _
      have p0 := Bk.new wl 54 #[.string FD.name, .int .i64 FD.kind]
      have k0f := k0l.old hbF
      have q1f := (bcell hbF _ _ (World.block_lt_of_cell? _ _ q1)).trans q1
      have hN2I : 2 + (k : Int) < (N : Int) := by have := HLN.out; omega
      have hwrp : IntKind.i64.wrap (2 + (k : Int)) = 2 + (k : Int) := by rw [IntKind.wrap_i64]; omega
      go_upto_region 10 with fail
      have hbeF := hbel.trans (hbF.mono (Nat.le_trans hzb hbi.size))
      have HSF := Lib.hid (HS.out.old hbeF)
      have HEF := Lib.hid (HE.out.old hbeF)
      have ekF := ek.old hbF
      have ownF := own_old hown hbF
      have hbiF := hbi.trans (hbF.mono hbi.size)
      generalize wl.alloc (.cells #[.string FD.name, .int .i64 FD.kind] 54) = WF at *
      clear r0 r1 q1 k0l hbF ek hown hbel
      have s0 := k0f.cell 0
      have s1 := k0f.cell 1
      have p1 := p0.cell 1
      have q1g : WF.cell? ⟨wb, wo + (2 + (k : Int)).toNat, none⟩ = some (.string (bytes wk)) := by rw [show (2 + (k : Int)).toNat = 2 + k by omega]; exact q1f
      have HK : Hid (∀ w', Below WF.heap.size WF w' → Below WF.heap.size WF w' ∧ w'.cell? ⟨w.heap.size, 0, none⟩ = some (.slice s.ta s.types.length s.tc) ∧ w'.cell? ⟨w.heap.size, 1, none⟩ = some (.slice s.sa s.syms.length s.sc) ∧ w'.cell? ⟨wl.heap.size, 1, none⟩ = some (.int .i64 FD.kind) ∧ w'.cell? ⟨wb, wo + (2 + (k : Int)).toNat, none⟩ = some (.string (bytes wk))) := Lib.hid fun w' hb => ⟨hb, (k0f.old hb).cell 0, (k0f.old hb).cell 1, (p0.old hb).cell 1, (bcell hb _ _ (World.block_lt_of_cell? _ _ q1g)).trans q1g⟩
      unfold V.v at HRD
      clear s0 s1 p1 q1f q1g
      have hN3I : (0 : Int) ≤ 2 + (k : Int) := by omega
      go_region_held3 (fun w' => Below WF.heap.size WF w' ∧ w'.cell? ⟨w.heap.size, 0, none⟩ = some (.slice s.ta s.types.length s.tc) ∧ w'.cell? ⟨w.heap.size, 1, none⟩ = some (.slice s.sa s.syms.length s.sc) ∧ w'.cell? ⟨wl.heap.size, 1, none⟩ = some (.int .i64 FD.kind) ∧ w'.cell? ⟨wb, wo + (2 + (k : Int)).toNat, none⟩ = some (.string (bytes wk)))
        (first | exact HK.out _ (by assumption) | exact HK.out _ ((show Below WF.heap.size WF _ by assumption).alloc (Below.size (by assumption)) _) | exact HK.out _ (by repeat (first | assumption | exact Below.refl _ _ | refine Below.drew ?_ | refine Below.alloc ?_ (by first | exact Nat.le_refl _ | (simp; try omega)) _ | refine Below.setCell ?_ (by simp; try omega) _)))
        (first | (go_at_call 14; refine (HRD.out _ (HEF.out.step (by assumption)) (HSF.out.step (by assumption))).mono ?_; rintro e w3 ⟨rfl, hb3⟩; have hb4 : Below WF.heap.size WF w3 := (by apply bel_step (hb := hb3); assumption); (first | (have kz := Bk.old (show Bk ((WF.alloc (.cells #[.int .i64 0, .int .u64 0] 57)).drew) WF.heap.size 57 _ from (Bk.new _ _ _).drew) hb3; have z0 := kz.cell 0; have z1 := kz.cell 1; have z2 := kz.frozen 0; have z3 := kz.frozen 1) | skip); clear hb3))
      · have c9 := Bk.new w3 57 #[.int .i64 X.k, .int .u64 X.b]
        have hb9 : Below WF.heap.size WF (w3.alloc (.cells #[.int .i64 X.k, .int .u64 X.b] 57)) := hb4.alloc hb4.size _
        generalize w3.alloc (.cells #[.int .i64 X.k, .int .u64 X.b] 57) = W9 at *
        clear hb4
        generalize w3.heap.size = g13 at *
        have ek9 := ekF.old hb9
        have own9 := own_old ownF hb9
        have hbi9 := hbiF.trans (hb9.mono hbiF.size)
        clear hb9 ekF ownF hbiF p0 k0f HRD HSF HEF HK hwrp hN3I
        have t0 := c9.cell 0
        have t1 := c9.cell 1
        have d2 := ek9.cell 2
        have hz9 : w5.heap.size ≤ W9.heap.size := hbi9.size
        have hzE : w5.heap.size ≤ (W9.alloc (.cells #[.int .i64 X.k, .int .u64 X.b] 57)).heap.size := by simp; omega
        cases ok
        all_goals
          go_wp2_with (at_builtin; refine wpList_append_rd (by rfl) _ _ 26 (by rfl) w5.heap.size 57 iV _ 2 16 Tryz.underlying26 hV hV0 hV1 hV2 rfl (by decide) (.slice A k c) k _ (by rfl) (own9.alloc _) (W9.heap.size + 1) (some ⟨W9.heap.size, 0, none⟩) 1 1 [.int .i64 X.k, .int .u64 X.b] (by rfl) (Rd.lit rfl _ _) (by rfl) ?c2 ?c3 ?c4 hzE ?_)
          case c2 => first | (intro u hu; simp at hu; rcases hu with rfl | rfl <;> rfl) | exact ⟨rfl, rfl⟩
          case c3 => unfold maxLen; omega
          case c4 => omega
          intro A4 c4 w4 hown4 hg4 _
          have hbi4 : Below w5.heap.size w5 w4 := below_own (hbi9.alloc hz9 _) (own9.alloc _) (Nat.le_refl _) hg4 hzE
          have ek4 := (ek9.alloc (.cells #[.int .i64 X.k, .int .u64 X.b] 57)).grown hg4 (own_ne_bk own9 ek9 (by decide))
          have hown5 : w4.ownsRow w5.heap.size 57 2 (.slice A4 (k + 1) c4) (k + 1) ((vs ++ [X]).flatMap V.cells) := by
            rw [List.flatMap_append]; exact hown4
          have hfit2 : Hid (∀ x ∈ vs ++ [X], x.fits) := Lib.hid fun x hx => by
            rcases List.mem_append.1 hx with hx | hx
            · exact hfit.out x hx
            · obtain rfl := List.mem_singleton.1 hx; exact HVF.out
          have hvl2 : Hid ((vs ++ [X]).length = k + 1) := Lib.hid (by rw [List.length_append, hvl.out]; rfl)
          have g2 := ek4.cell 2
          have gf := ek4.frozen 2
          clear hown4 hg4 own9 ek9 hbi9 hzE t0 t1 d2 hfit hvl c9
          go_wp2
          go_roundw
          case rel =>
            exact ⟨k + 1, _, A4, c4, vs ++ [X], by omega, by first | rfl | trivial, by go_num, hbi4.setCell (by show w5.heap.size ≤ w5.heap.size; omega) _, ek4.put 2 _, own_set hown5 ek4 (by decide) 2 _, hfit2, hvl2, HST⟩
          case measure => simp [intOf]; omega
      · have c9 : Bk ((w3.setCell ⟨WF.heap.size, 0, none⟩ (.int .i64 X.k)).setCell ⟨WF.heap.size, 1, none⟩ (.int .u64 X.b)) WF.heap.size 57 #[.int .i64 X.k, .int .u64 X.b] := (kz.put 0 _).put 1 _
        have hb9 : Below WF.heap.size WF ((w3.setCell ⟨WF.heap.size, 0, none⟩ (.int .i64 X.k)).setCell ⟨WF.heap.size, 1, none⟩ (.int .u64 X.b)) := (hb4.setCell (Nat.le_refl _) _).setCell (Nat.le_refl _) _
        generalize (w3.setCell ⟨WF.heap.size, 0, none⟩ (.int .i64 X.k)).setCell ⟨WF.heap.size, 1, none⟩ (.int .u64 X.b) = W9 at *
        clear hb4 kz z0 z1 z2 z3
        have ek9 := ekF.old hb9
        have own9 := own_old ownF hb9
        have hbi9 := hbiF.trans (hb9.mono hbiF.size)
        clear hb9 ekF ownF hbiF p0 k0f HRD HSF HEF HK hwrp hN3I
        have t0 := c9.cell 0
        have t1 := c9.cell 1
        have d2 := ek9.cell 2
        have hz9 : w5.heap.size ≤ W9.heap.size := hbi9.size
        have hzE : w5.heap.size ≤ (W9.alloc (.cells #[.int .i64 X.k, .int .u64 X.b] 57)).heap.size := by simp; omega
        cases ok
        all_goals
          go_wp2_with (at_builtin; refine wpList_append_rd (by rfl) _ _ 26 (by rfl) w5.heap.size 57 iV _ 2 16 Tryz.underlying26 hV hV0 hV1 hV2 rfl (by decide) (.slice A k c) k _ (by rfl) (own9.alloc _) (W9.heap.size + 1) (some ⟨W9.heap.size, 0, none⟩) 1 1 [.int .i64 X.k, .int .u64 X.b] (by rfl) (Rd.lit rfl _ _) (by rfl) ?c2 ?c3 ?c4 hzE ?_)
          case c2 => first | (intro u hu; simp at hu; rcases hu with rfl | rfl <;> rfl) | exact ⟨rfl, rfl⟩
          case c3 => unfold maxLen; omega
          case c4 => omega
          intro A4 c4 w4 hown4 hg4 _
          have hbi4 : Below w5.heap.size w5 w4 := below_own (hbi9.alloc hz9 _) (own9.alloc _) (Nat.le_refl _) hg4 hzE
          have ek4 := (ek9.alloc (.cells #[.int .i64 X.k, .int .u64 X.b] 57)).grown hg4 (own_ne_bk own9 ek9 (by decide))
          have hown5 : w4.ownsRow w5.heap.size 57 2 (.slice A4 (k + 1) c4) (k + 1) ((vs ++ [X]).flatMap V.cells) := by
            rw [List.flatMap_append]; exact hown4
          have hfit2 : Hid (∀ x ∈ vs ++ [X], x.fits) := Lib.hid fun x hx => by
            rcases List.mem_append.1 hx with hx | hx
            · exact hfit.out x hx
            · obtain rfl := List.mem_singleton.1 hx; exact HVF.out
          have hvl2 : Hid ((vs ++ [X]).length = k + 1) := Lib.hid (by rw [List.length_append, hvl.out]; rfl)
          have g2 := ek4.cell 2
          have gf := ek4.frozen 2
          clear hown4 hg4 own9 ek9 hbi9 hzE t0 t1 d2 hfit hvl c9
          go_wp2
          go_roundw
          case rel =>
            exact ⟨k + 1, _, A4, c4, vs ++ [X], by omega, by first | rfl | trivial, by go_num, hbi4.setCell (by show w5.heap.size ≤ w5.heap.size; omega) _, ek4.put 2 _, own_set hown5 ek4 (by decide) 2 _, hfit2, hvl2, HST⟩
          case measure => simp [intOf]; omega
    · as_aux_lemma =>
      obtain rfl : k = TT.fields.length := by omega
      rw [List.drop_eq_nil_of_le (by simp), List.drop_eq_nil_of_le (by omega), fin_end] at hrec
      have kk0 := k05.old hbi
      have kk1 := k15.old hbi
      cases ok
      · have HN : Hid (parseP (s.types.map sig) s.syms t.toList = none) := Lib.hid (HEND.out none (by rw [← hrec.out]; rfl))
        have d0 := kk1.cell 0
        have d1 := kk1.cell 1
        have d2 := kk1.cell 2
        have f0 := kk1.frozen 0
        have f1 := kk1.frozen 1
        have f2 := kk1.frozen 2
        clear hrec
        go_wp2
        refine bodyPost_ret (v := .tuple #[.agg #[.int .i64 0, .int .i64 0, .slice none 0 0], .bool false]) (by simp [results, Tryz.results4, go_sem, d0, d1, d2]) rfl ?_
        exact parse_no HN.out (by repeat (first | exact hbel | refine Below.setCell ?_ (by simp) _))
      · have HP : Hid (parseP (s.types.map sig) s.syms t.toList = packP (s.types.map sig) s.syms tn tm vs) := Lib.hid (HEND.out (some vs) (by rw [← hrec.out]; rfl))
        have hvl' := hvl.out
        have heok : (⟨tn, tm, A, c, vs⟩ : EventV).ok wl wl.heap.size := ⟨own_rd (by rw [← hvl'] at hown; exact hown), by show vs.length ≤ _; omega, hfit.out, hrng⟩
        have HVD := Lib.hid (pvalid_any s ⟨tn, tm, A, c, vs⟩ wl (HS.out.old hbel) heok)
        have HPK : Hid (packP (s.types.map sig) s.syms tn tm vs = if validB (s.types.map sig) s.syms (⟨tn, tm, A, c, vs⟩ : EventV).sig = true then some (⟨tn, tm, A, c, vs⟩ : EventV).sig else none) := Lib.hid rfl
        obtain ⟨vd, hvd⟩ : ∃ vd, validB (s.types.map sig) s.syms (⟨tn, tm, A, c, vs⟩ : EventV).sig = vd := ⟨_, rfl⟩
        rw [hvd] at HVD HPK
        unfold SchemaV.val EventV.val at HVD
        simp only [hvl'] at HVD
        clear hrec hvd heok hvl'
        have s0 := kk0.cell 0
        have s1 := kk0.cell 1
        have g0 := ek.cell 0
        have g1 := ek.cell 1
        have g2 := ek.cell 2
        go_wp2_with fail
        refine HVD.out.mono ?_
        rintro r w7 ⟨rfl, hb7⟩
        have hbe7 := hbel.trans (hb7.mono hbel.size)
        have k17 := kk1.old hb7
        have ek7 := ek.old hb7
        have own7 := own_old hown hb7
        clear s0 s1 g0 g1 g2 hb7 hbel kk0 kk1 ek hown HVD
        have d0 := k17.cell 0
        have d1 := k17.cell 1
        have d2 := k17.cell 2
        have f0 := k17.frozen 0
        have f1 := k17.frozen 1
        have f2 := k17.frozen 2
        cases vd
        · have HN : Hid (parseP (s.types.map sig) s.syms t.toList = none) := Lib.hid (by rw [HP.out, HPK.out]; rfl)
          go_wp2
          refine bodyPost_ret (v := .tuple #[.agg #[.int .i64 0, .int .i64 0, .slice none 0 0], .bool false]) (by simp [results, Tryz.results4, go_sem, d0, d1, d2]) rfl ?_
          exact parse_no HN.out (by repeat (first | exact hbe7 | refine Below.setCell ?_ (by simp) _))
        · have HN : Hid (parseP (s.types.map sig) s.syms t.toList = some (⟨tn, tm, A, c, vs⟩ : EventV).sig) := Lib.hid (by rw [HP.out, HPK.out]; rfl)
          have g0 := ek7.cell 0
          have g1 := ek7.cell 1
          have g2 := ek7.cell 2
          have own8 := own_set (own_set (own_set own7 k17 (by decide) 0 (.int .i64 (tn : Nat))) (k17.put 0 _) (by decide) 1 (.int .i64 tm)) ((k17.put 0 _).put 1 _) (by decide) 2 (.slice A TT.fields.length c)
          go_wp2
          refine bodyPost_ret (v := .tuple #[.agg #[.int .i64 (tn : Nat), .int .i64 tm, .slice A TT.fields.length c], .bool true]) (by simp [results, Tryz.results4, go_sem, d0, d1, d2]) rfl ?_
          have hfin := parse_yes (w := w) (⟨tn, tm, A, c, vs⟩ : EventV) HN.out (w' := ((w7.setCell ⟨w.heap.size + 1, 0, none⟩ (.int .i64 (tn : Nat))).setCell ⟨w.heap.size + 1, 1, none⟩ (.int .i64 tm)).setCell ⟨w.heap.size + 1, 2, none⟩ (.slice A TT.fields.length c)) ⟨own_rd (by show World.ownsRow _ _ _ _ (.slice A vs.length c) vs.length _; rw [hvl.out]; exact own8), by show vs.length ≤ _; have := hvl.out; omega, hfit.out, hrng⟩ (by repeat (first | exact hbe7 | refine Below.setCell ?_ (by simp) _))
          unfold EventV.val at hfin
          simp only [hvl.out] at hfin
          exact hfin
end Go.Proofs.YtpakcicbojbonaaGreatDoor
