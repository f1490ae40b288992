/- Layer 4: a line that is read, by the document. No conditions. -/
import Derived.Test.YtpakcicbojbonaaGreatDoorEvtW
namespace Go.Proofs.YtpakcicbojbonaaGreatDoor
open Go.RowKit
set_option maxRecDepth 10000
set_option linter.unusedVariables false
set_option linter.unusedSimpArgs false

theorem infoVr : (Tryz.prog.info? 68).map (fun i => (i.zero, i.size, i.bytes)) = some (some (.agg #[.int .i64 0, .int .u64 0]), 2, 16) := by kernel_rfl
theorem numD_range (l : List UInt8) : -9223372036854775808 ≤ numD l ∧ numD l ≤ 9223372036854775807 := by
  unfold numD
  cases digsD (drop45 l) with
  | none => exact ⟨by show (-9223372036854775808 : Int) ≤ 0; omega, by show (0 : Int) ≤ _; omega⟩
  | some n => simp only; split <;> (unfold wrap64; omega)
theorem bitsD_lt (l : List UInt8) : bitsD l < 18446744073709551616 := canonN_lt _ (Nat.mod_lt _ (by omega))
theorem symLast_lt (w : List UInt8) : ∀ (l : List (List UInt8)) (i b : Nat), symLast w i b l < i + l.length ∨ symLast w i b l = b
  | [], i, b => .inr rfl
  | n :: l, i, b => by
    show symLast w (i + 1) (if w = 39 :: n then i else b) l < i + (l.length + 1) ∨ _
    rcases symLast_lt w l (i + 1) (if w = 39 :: n then i else b) with h | h
    · exact .inl (by omega)
    · by_cases hw : w = 39 :: n
      · rw [if_pos hw] at h ⊢; exact .inl (by omega)
      · rw [if_neg hw] at h ⊢
        refine .inr ?_
        show symLast w (i + 1) (if w = 39 :: n then i else b) l = b
        rw [if_neg hw]; exact h
theorem valD_fits (Y : List ByteArray) (hY : Y.length ≤ 64) (k : Int) (w : List UInt8) : (valD Y k w).fits := by
  unfold valD V.fits
  split
  · exact u64_lt _
  · split
    · show (if w = tTrue then 1 else 0) < _
      split <;> omega
    · split
      · show symLast w 0 0 (Y.map (·.toList)) < _
        rcases symLast_lt w (Y.map (·.toList)) 0 0 with h | h
        · rw [List.length_map] at h; omega
        · omega
      · exact bitsD_lt w
def RParseIs (T : List TSig) (Y : List ByteArray) (l : List UInt8) (w : World) (r : Ending) (w' : World) : Prop :=
  ∃ e : EventV, r = .returned (.tuple #[e.val, .bool (parseD T Y l).isSome]) ∧ e.ok w' w'.heap.size ∧ Below w.heap.size w w' ∧ e.sig = (parseD T Y l).getD (0, 0, [])
theorem rparse_no {T : List TSig} {Y : List ByteArray} {l : List UInt8} {w w' : World} (h : parseD T Y l = none) (hb : Below w.heap.size w w') : RParseIs T Y l w (.returned (.tuple #[.agg #[.int .i64 0, .int .i64 0, .slice none 0 0], .bool false])) w' := ⟨zeroE, by rw [h]; rfl, zeroE_ok _ _, hb, by rw [h]; rfl⟩
theorem rparse_yes {T : List TSig} {Y : List ByteArray} {l : List UInt8} {w w' : World} (e : EventV) (h : parseD T Y l = some e.sig) (he : e.ok w' w'.heap.size) (hb : Below w.heap.size w w') : RParseIs T Y l w (.returned (.tuple #[e.val, .bool true])) w' := ⟨e, by rw [h]; rfl, he, hb, by rw [h]; rfl⟩
theorem bytes_ne {a b : ByteArray} : (a.toList == b.toList) = decide (a = b) := by
  by_cases h : a = b
  · subst h; simp
  · have : ¬ a.toList = b.toList := fun e => h (by rw [ByteArray.toList_eq, ByteArray.toList_eq] at e; exact ByteArray.ext (Array.toList_inj.1 e))
    rw [decide_eq_false h]; exact beq_eq_false_iff_ne.2 this
def rpaR2 (s : SchemaV) (wb wo N NC Bq : Nat) (ty : Int) (w0 : List UInt8) (w : World) : List Spec := [.is (.agg #[.slice s.ta s.types.length s.tc, .slice s.sa s.syms.length s.sc]),
  .is (.slice (some ⟨wb, wo, none⟩) N NC),
  .is (.pointer (some ⟨wb, wo, none⟩)),
  .is (.string (bytes w0)),
  .is (.int .i64 ty),
  .is (.agg #[.int .i64 ty, .int .i64 0, .slice none 0 0]),
  .st (fun v w => ∃ g, v = .pointer (some ⟨g, 0, none⟩) ∧ Bq ≤ g ∧ Bk w g 37 #[.int .i64 0, .int .i64 0, .slice none 0 0]) (fun _ _ _ hb ⟨g, h1, h0, h2⟩ => ⟨g, h1, h0, h2.old hb⟩)]
set_option maxRecDepth 100000 in
set_option maxHeartbeats 3000000 in
theorem rparse_any (s : SchemaV) (t : ByteArray) (w : World) (hs : s.ok w w.heap.size) (ht : t.size < 4294967281) :
    Calls Tryz.prog 6 #[s.val, .string t] w (RParseIs (s.types.map sig) s.syms t.toList w) := by
  obtain ⟨iV, hV, hV0, hV1, hV2⟩ := info_parts infoVr
  have hW : Below w.heap.size w ((w.alloc (.cells #[.slice s.ta s.types.length s.tc, .slice s.sa s.syms.length s.sc] 25)).alloc (.cells #[.int .i64 0, .int .i64 0, .slice none 0 0] 37)) := ((Below.refl _ _).alloc (Nat.le_refl _) _).alloc (by simp) _
  have k0 := (Bk.new w 25 #[.slice s.ta s.types.length s.tc, .slice s.sa s.syms.length s.sc]).alloc (.cells #[.int .i64 0, .int .i64 0, .slice none 0 0] 37)
  have k1 := Bk.newAt (w := w.alloc (.cells #[.slice s.ta s.types.length s.tc, .slice s.sa s.syms.length s.sc] 25)) (g := w.heap.size + 1) (by simp) 37 #[.int .i64 0, .int .i64 0, .slice none 0 0]
  have HSP := Lib.hid (fun W => words_any2 t W ht)
  obtain ⟨WL, hWL⟩ : ∃ WL, split1 32 t.toList = WL := ⟨_, rfl⟩
  have hsz : ∀ x ∈ WL, x.length < 4294967281 := fun x hx => by
    rw [← hWL] at hx
    have h1 := split1_mem _ _ x hx
    rw [len_list] at h1; omega
  have hwl : WL.length ≤ 4294967282 := by
    have h1 := wid_len (split1 32 t.toList)
    rw [split1_wid, len_list, hWL] at h1; omega
  have hPP : parseD (s.types.map sig) s.syms t.toList = wordsD (s.types.map sig) s.syms t.toList WL := by unfold parseD; rw [hWL]
  rw [hWL] at HSP
  obtain ⟨w0, wr0, rfl⟩ : ∃ w0 r, WL = w0 :: r := by
    cases WL with
    | nil => exact absurd hWL (split1_ne 32 _)
    | cons a b => exact ⟨a, b, rfl⟩
  clear hWL
  have HSZ := Lib.hid hsz
  have HPP := Lib.hid hPP
  have HS := Lib.hid hs
  obtain ⟨ty, hty⟩ : ∃ ty, typeSig (s.types.map sig) w0 = ty := ⟨_, rfl⟩
  have HTY : Hid (∀ W : World, s.ok W W.heap.size → Calls Tryz.prog 17 #[.agg #[.slice s.ta s.types.length s.tc, .slice s.sa s.syms.length s.sc], .string (bytes w0)] W fun e w' => e = .returned (.int .i64 ty) ∧ Below W.heap.size W w') := Lib.hid fun W h => by
    have h2 := typeAt_any s (bytes w0) W h
    rw [typeAt_sig, bytes_list, hty] at h2
    exact h2
  have hrg := at_ge w0 ((s.types.map sig).map (·.1.toList)) 0
  rw [show atFrom w0 0 ((s.types.map sig).map (·.1.toList)) = ty from hty] at hrg
  have hty1 := hrg.1
  have hty2 : ty < (s.types.length : Int) := by simpa using hrg.2.1
  have HTYE := Lib.hid hty
  obtain ⟨N, hN⟩ : ∃ N, (w0 :: wr0).length = N := ⟨_, rfl⟩
  rw [hN] at HSP
  have HN1 : Hid (N = wr0.length + 1) := Lib.hid (by rw [← hN]; simp)
  have hNl : N ≤ 4294967282 := by rw [HN1.out]; simpa using hwl
  have hN0 : (0 : Int) < (N : Int) := by have := HN1.out; omega
  have hN0n : 0 < N := by omega
  clear hsz hPP hs hty hrg hN hwl
  obtain ⟨ck, hck⟩ : ∃ ck, checkSig (s.types.map sig) s.syms = ck := ⟨_, rfl⟩
  have HCK : Hid (∀ W : World, s.ok W W.heap.size → Calls Tryz.prog 18 #[.agg #[.slice s.ta s.types.length s.tc, .slice s.sa s.syms.length s.sc]] W fun e w' => e = .returned (.int .i64 ck) ∧ Below W.heap.size W w') := Lib.hid fun W h => by
    have h2 := rcheck_any s W h
    rw [hck] at h2
    exact h2
  have HCKE := Lib.hid hck
  clear hck
  have hsl := HS.out.len
  unfold SchemaV.val
  go_enter Tryz.func6, Tryz.ntmps6
  go_wp2_with fail
  generalize (w.alloc (.cells #[.slice s.ta s.types.length s.tc, .slice s.sa s.syms.length s.sc] 25)).alloc (.cells #[.int .i64 0, .int .i64 0, .slice none 0 0] 37) = W at *
  refine (HSP.out W).mono ?_
  rintro r W2 ⟨A, NC, rfl, hrd, hb2⟩
  have hbe2 := hW.trans (hb2.mono hW.size)
  have k02 := k0.old hb2
  have k12 := k1.old hb2
  have HWD := Lib.hid hrd
  clear hb2 hW k0 k1 hrd HSP
  obtain ⟨wb, wo, hA, hwb, hwc⟩ := (HWD.out).elem1 (k := 0) (by simp)
  have q0 : W2.cell? ⟨wb, wo, none⟩ = some (.string (bytes w0)) := by simpa using hwc
  subst hA
  clear hwc
  have s0 := k02.cell 0
  have s1 := k02.cell 1
  have HS2 := Lib.hid (HS.out.old hbe2)
  go_upto_region 2 with fail
  refine wp_region_t 7 (fun k => k == 6) (by kernel_rfl) (fun qk => (rpaR2 s wb wo N NC W2.heap.size ty w0 w).getD qk .any) (by kernel_rfl) ?_ ?_
  · refine BOk.cons rfl [] [2] rfl rfl (by kernel_rfl) (by kernel_rfl) (fun qK qa wr hB qO qF hK => ?_) ?_
    · have e2 : qa.tmps[2]? = some (.pointer (some ⟨w.heap.size, 0, none⟩)) := qO.1.trans rfl
      clear qO qF
      have hs0 := (bcell hB _ _ (World.block_lt_of_cell? _ _ s0)).trans s0
      have hs1 := (bcell hB _ _ (World.block_lt_of_cell? _ _ s1)).trans s1
      go_simp
      exact hK _ _ (Below.refl _ _) rfl
    refine BOk.cons rfl [] [6] rfl rfl (by kernel_rfl) (by kernel_rfl) (fun qK qa wr hB qO qF hK => ?_) ?_
    · have e6 : qa.tmps[6]? = some (.slice (some ⟨wb, wo, none⟩) N NC) := qO.1.trans rfl
      clear qO qF
      go_simp
      exact hK _ _ (Below.refl _ _) rfl
    refine BOk.cons rfl [1] [] rfl rfl (by kernel_rfl) (by kernel_rfl) (fun qK qa wr hB qO qF hK => ?_) ?_
    · have e18 : qa.tmps[18]? = some (.slice (some ⟨wb, wo, none⟩) N NC) := fis qF.1 rfl rfl
      clear qO qF
      go_simp
      exact hK _ _ (Below.refl _ _) rfl
    refine BOk.cons rfl [2] [] rfl rfl (by kernel_rfl) (by kernel_rfl) (fun qK qa wr hB qO qF hK => ?_) ?_
    · have e19 : qa.tmps[19]? = some (.pointer (some ⟨wb, wo, none⟩)) := fis qF.1 rfl rfl
      clear qO qF
      have hq0 := (bcell hB _ _ (World.block_lt_of_cell? _ _ q0)).trans q0
      go_simp
      exact hK _ _ (Below.refl _ _) rfl
    refine BOk.cons rfl [0, 3] [] rfl rfl (by kernel_rfl) (by kernel_rfl) (fun qK qa wr hB qO qF hK => ?_) ?_
    · have e17 : qa.tmps[17]? = some (.agg #[.slice s.ta s.types.length s.tc, .slice s.sa s.syms.length s.sc]) := fis qF.1 rfl rfl
      have e20 : qa.tmps[20]? = some (.string (bytes w0)) := fis qF.2.1 rfl rfl
      clear qO qF
      go_simp
      go_at_call 17
      refine (HTY.out _ (HS2.out.old hB)).mono ?_
      rintro e9 w9 ⟨rfl, hb9⟩
      exact hK _ _ hb9 rfl
    refine BOk.cons rfl [4] [] rfl rfl (by kernel_rfl) (by kernel_rfl) (fun qK qa wr hB qO qF hK => ?_) ?_
    · have e21 : qa.tmps[21]? = some (.int .i64 ty) := fis qF.1 rfl rfl
      clear qO qF
      go_simp
      exact hK _ _ (Below.refl _ _) (by first | rfl | (show (_ : Value) = _; simp; done))
    refine BOk.fresh rfl [] [] rfl rfl (by kernel_rfl) (by kernel_rfl) (fun qK qa wr hB qO qF hK => ?_) ?_
    · clear qO qF
      go_simp
      exact hK _ _ ((Below.refl _ _).alloc (Nat.le_refl _) _) ⟨_, rfl, hB.size, Bk.new _ _ _⟩ ⟨_, rfl, by simp, by simp⟩
    exact BOk.nil
  intro vals wr hl hB hR hS
  match vals, hl with
  | [y17, y18, y19, y20, y21, y22, y7], _ =>
  have r5 : y22 = .agg #[.int .i64 ty, .int .i64 0, .slice none 0 0] := hR 5 _ rfl
  subst r5
  obtain ⟨g7, r6, n7, k7⟩ := (show ∃ g, y7 = .pointer (some ⟨g, 0, none⟩) ∧ W2.heap.size ≤ g ∧ Bk wr g 37 #[.int .i64 0, .int .i64 0, .slice none 0 0] from hR 6 _ rfl)
  subst r6
  clear hS
  clear hR
  simp only [List.take_succ_cons, List.take_zero, List.drop_succ_cons, List.drop_zero, List.toList_toArray, List.cons_append, List.nil_append, putAll, Act.put, List.setIfInBounds_toArray, List.set_cons_zero, List.set_cons_succ]
  have t0 := k7.cell 0
  have t1 := k7.cell 1
  have t2 := k7.cell 2
  have f0 := k7.frozen 0
  have f1 := k7.frozen 1
  have f2 := k7.frozen 2
  have e7 := ((k7.put 0 (.int .i64 ty)).put 1 (.int .i64 0)).put 2 (.slice none 0 0)
  have hB7 : Below W2.heap.size W2 (((wr.setCell ⟨g7, 0, none⟩ (.int .i64 ty)).setCell ⟨g7, 1, none⟩ (.int .i64 0)).setCell ⟨g7, 2, none⟩ (.slice none 0 0)) := ((hB.setCell n7 _).setCell n7 _).setCell n7 _
  have k03 := k02.old hB7
  have k02x := k02
  have k12x := k12
  go_upto_region 3 with fail
  generalize ((wr.setCell ⟨g7, 0, none⟩ (.int .i64 ty)).setCell ⟨g7, 1, none⟩ (.int .i64 0)).setCell ⟨g7, 2, none⟩ (.slice none 0 0) = W3 at *
  have hbe3 := hbe2.trans (hB7.mono hbe2.size)
  have k13 := k12.old hB7
  clear hB k02 k7 s0 s1 q0 HS2 HTY t0 t1 t2 f0 f1 f2
  have s0 := k03.cell 0
  have s1 := k03.cell 1
  go_wp2_with fail
  refine (HCK.out _ (HS.out.old hbe3)).mono ?_
  rintro r w4 ⟨rfl, hb4⟩
  have hbe4 := hbe3.trans (hb4.mono hbe3.size)
  have k14 := k13.old hb4
  have e74 : Bk w4 g7 37 #[.int .i64 ty, .int .i64 0, .slice none 0 0] := e7.old hb4
  have hB4 := hB7.trans (hb4.mono hB7.size)
  clear hb4 hbe3 k03 k13 s0 s1 HCK hN0 e7 hB7
  have y0 := e74.cell 0
  by_cases hc0 : ck = 0
  case neg =>
    have hckI : (ck != 0) = true := by simpa using hc0
    have HN : Hid (parseD (s.types.map sig) s.syms t.toList = none) := Lib.hid (by
      rw [HPP.out]
      cases wr0 with
      | nil => rfl
      | cons w1 ws => exact if_neg (fun h => hc0 (HCKE.out.symm.trans h.1)))
    have d0 := k14.cell 0
    have d1 := k14.cell 1
    have d2 := k14.cell 2
    have f0 := k14.frozen 0
    have f1 := k14.frozen 1
    have f2 := k14.frozen 2
    clear hc0
    go_wp2
    refine bodyPost_ret (v := .tuple #[.agg #[.int .i64 0, .int .i64 0, .slice none 0 0], .bool false]) (by simp [results, Tryz.results6, go_sem, d0, d1, d2]) rfl ?_
    exact rparse_no HN.out (by repeat (first | exact hbe4 | refine Below.setCell ?_ (by simp) _))
  subst hc0
  by_cases hty0 : 0 ≤ ty
  case neg =>
    have htyI : ty < 0 := by omega
    have HN : Hid (parseD (s.types.map sig) s.syms t.toList = none) := Lib.hid (by
      rw [HPP.out]
      cases wr0 with
      | nil => rfl
      | cons w1 ws => exact if_neg (fun h => by have := h.2; rw [HTYE.out] at this; omega))
    have d0 := k14.cell 0
    have d1 := k14.cell 1
    have d2 := k14.cell 2
    have f0 := k14.frozen 0
    have f1 := k14.frozen 1
    have f2 := k14.frozen 2
    clear hty0
    go_wp2
    refine bodyPost_ret (v := .tuple #[.agg #[.int .i64 0, .int .i64 0, .slice none 0 0], .bool false]) (by simp [results, Tryz.results6, go_sem, d0, d1, d2]) rfl ?_
    exact rparse_no HN.out (by repeat (first | exact hbe4 | refine Below.setCell ?_ (by simp) _))
  obtain ⟨tn, rfl⟩ : ∃ tn : Nat, ty = tn := ⟨ty.toNat, by omega⟩
  have htn : tn < s.types.length := by omega
  have htI : ¬ (tn : Int) < 0 := by omega
  by_cases hN2 : 2 ≤ N
  case neg =>
    have hN2I : (N : Int) < 2 := by omega
    have HN : Hid (parseD (s.types.map sig) s.syms t.toList = none) := Lib.hid (by
      rw [HPP.out]
      cases wr0 with
      | nil => rfl
      | cons w1 ws => exact absurd HN1.out (by simp; omega))
    have d0 := k14.cell 0
    have d1 := k14.cell 1
    have d2 := k14.cell 2
    have f0 := k14.frozen 0
    have f1 := k14.frozen 1
    have f2 := k14.frozen 2
    clear hN2
    go_wp2
    refine bodyPost_ret (v := .tuple #[.agg #[.int .i64 0, .int .i64 0, .slice none 0 0], .bool false]) (by simp [results, Tryz.results6, go_sem, d0, d1, d2]) rfl ?_
    exact rparse_no HN.out (by repeat (first | exact hbe4 | refine Below.setCell ?_ (by simp) _))
  have hN2I : ¬ (N : Int) < 2 := by omega
  obtain ⟨w1, ws, rfl⟩ : ∃ w1 ws, wr0 = w1 :: ws := by
    cases wr0 with
    | nil => have := HN1.out; simp at this; omega
    | cons a b => exact ⟨a, b, rfl⟩
  have HNW : Hid (N = ws.length + 2) := Lib.hid (by have := HN1.out; simpa using this)
  have HRS := Lib.hid (right_of HCKE.out)
  have HT := Lib.hid (HS.out.each s.types[tn] (List.getElem_mem _))
  obtain ⟨tb, tO, hta, htb, htc⟩ := (HS.out.rd.below hbe4).elem (n := 2) (fun _ => rfl) (by omega) htn
  have tc1 : w4.cell? ⟨tb, tO + tn * 2 + 1, none⟩ = some (.slice s.types[tn].fa s.types[tn].fields.length s.types[tn].fc) := htc 1 _ rfl
  have hKA : kindsAt (s.types.map sig) (tn : Int) = s.types[tn].fields.map (·.kind) := by
    unfold kindsAt kindsOf
    rw [Int.toNat_natCast, List.getD_eq_getElem?_getD, List.getElem?_map, List.getElem?_map, List.getElem?_eq_getElem htn]; rfl
  have HKA := Lib.hid hKA
  clear htc hKA hty0 hty1
  generalize s.types[tn] = TT at *
  have htl := HT.out.len
  obtain ⟨ALL, hALL⟩ : ∃ ALL, List.zipWith (valD s.syms) (TT.fields.map (·.kind)) ws = ALL := ⟨_, rfl⟩
  have hrng := numD_range w1
  have HEND : Hid (parseD (s.types.map sig) s.syms t.toList = lineIs (s.types.map sig) s.syms t.toList ((tn : Int), numD w1, ALL)) := Lib.hid (by
    rw [HPP.out]
    show (if checkSig (s.types.map sig) s.syms = 0 ∧ 0 ≤ typeSig (s.types.map sig) w0 then lineIs (s.types.map sig) s.syms t.toList (candD (s.types.map sig) s.syms w0 w1 ws) else none) = _
    rw [if_pos ⟨HCKE.out, by rw [HTYE.out]; omega⟩]
    unfold candD
    rw [HTYE.out, HKA.out, hALL])
  have HALL := Lib.hid hALL
  have HNM : Hid (∀ W : World, Calls Tryz.prog 19 #[.string (bytes w1)] W (NumDIs w1 W)) := Lib.hid fun W => by
    have h2 := rnum_any (bytes w1) W (by rw [bytes_size]; exact HSZ.out w1 (by simp))
    rw [bytes_list] at h2
    exact h2
  unfold NumDIs at HNM
  clear hALL HPP hN2
  generalize numD w1 = tm at *
  obtain ⟨wb', wo', hA', _, hwc⟩ := (HWD.out.below hB4).elem1 (k := 1) (by simp)
  injection hA' with hA'
  injection hA' with e1 e2
  subst e1; subst e2
  have q1 : w4.cell? ⟨wb, wo + 1, none⟩ = some (.string (bytes w1)) := by simpa using hwc
  have hN1I : (1 : Int) < (N : Int) := by omega
  clear hwc
  go_wp2_with fail
  refine (HNM.out w4).mono ?_
  rintro r w5 ⟨bb, rfl, hb5⟩
  have hbe5 := hbe4.trans (hb5.mono hbe4.size)
  have hB5 := hB4.trans (hb5.mono hB4.size)
  have e75 := e74.old hb5
  have tc5 := (bcell hb5 _ _ (World.block_lt_of_cell? _ _ tc1)).trans tc1
  have z0 := e75.cell 0
  have z1 := e75.cell 1
  have z2 := e75.cell 2
  have zf1 := e75.frozen 1
  have e76 : Bk (w5.setCell ⟨g7, 1, none⟩ (.int .i64 tm)) g7 37 #[.int .i64 (tn : Nat), .int .i64 tm, .slice none 0 0] := e75.put 1 _
  have hB6 : Below W2.heap.size W2 (w5.setCell ⟨g7, 1, none⟩ (.int .i64 tm)) := hB5.setCell n7 _
  have tc6 : (w5.setCell ⟨g7, 1, none⟩ (.int .i64 tm)).cell? ⟨tb, tO + tn * 2 + 1, none⟩ = some (.slice TT.fa TT.fields.length TT.fc) := by
    rw [World.cell?_setCell_other _ _ _ _ (by intro e; injection e with e1; have := hbe2.size; omega)]
    exact tc5
  go_upto_region 6 with fail
  clear y0 z0 z1 z2 zf1 q1 e74 e75 tc1 tc5 hB4 hb5 k14 hbe4 hbe5
  generalize w5.setCell ⟨g7, 1, none⟩ (.int .i64 tm) = W6 at *
  have hbe6 := hbe2.trans (hB6.mono hbe2.size)
  have kz := (k02x.old hB6)
  have s0 := kz.cell 0
  rw [hta] at s0
  have y0 := e76.cell 0
  have HTA := Lib.hid hta
  clear hta
  go_wp2
  clear s0 y0 tc6 kz
  go_loopw [9] (fun i wr => ∃ (k : Nat) (A : Option Addr) (c : Nat) (vs : List V), k ≤ ws.length ∧ k ≤ TT.fields.length ∧ i = .int .i64 ((k : Int) + 2) ∧ Below W2.heap.size W2 wr ∧
      Bk wr g7 37 #[.int .i64 (tn : Nat), .int .i64 tm, .slice A k c] ∧ wr.ownsRow W2.heap.size 68 2 (.slice A k c) k (vs.flatMap V.cells) ∧ Hid (∀ x ∈ vs, x.fits) ∧ Hid (vs.length = k) ∧
      Hid (vs ++ List.zipWith (valD s.syms) ((TT.fields.map (·.kind)).drop k) (ws.drop k) = ALL)) (fun i _ => (ws.length + 2 - (intOf i).toNat : Nat))
  case atStart => exact ⟨0, none, 0, [], Nat.zero_le _, Nat.zero_le _, rfl, hB6, e76, World.ownsRow_nil _ _ _ _, Lib.hid (by simp), rfl, Lib.hid (by simpa using HALL.out)⟩
  case round =>
    clear hB6 e76 HALL
    obtain ⟨k, A, c, vs, hk1, hk2, rfl, hbi, ek, hown, hfit, hvl, hrec⟩ := hrel
    obtain ⟨wl, rfl⟩ : ∃ wl : World, wl = wr := ⟨_, rfl⟩
    have hbel := hbe2.trans (hbi.mono hbe2.size)
    have hzb := hbe2.size
    have hgl := ek.lt
    by_cases h1 : k < ws.length
    · by_cases h2 : k < TT.fields.length
      · as_aux_lemma =>
        obtain ⟨fb, fo, hfa, hfb, hfc⟩ := ((HT.out.rd).below hbel).elem (n := 2) (fun _ => rfl) (by omega) h2
        have r1 : wl.cell? ⟨fb, fo + k * 2 + 1, none⟩ = some (.int .i64 TT.fields[k].kind) := hfc 1 _ rfl
        have hkk : k < (TT.fields.map (·.kind)).length := by simpa using h2
        have hkd : 1 ≤ TT.fields[k].kind ∧ TT.fields[k].kind ≤ 4 := HRS.out.kinds (tn : Int) _ (by rw [HKA.out]; exact List.mem_map_of_mem (List.getElem_mem _))
        have HST : Hid (vs ++ valD s.syms TT.fields[k].kind ws[k] :: List.zipWith (valD s.syms) ((TT.fields.map (·.kind)).drop (k + 1)) (ws.drop (k + 1)) = ALL) := Lib.hid (by
          rw [← hrec.out, List.drop_eq_getElem_cons hkk, List.drop_eq_getElem_cons h1, List.getElem_map]; rfl)
        have HXF := Lib.hid (valD_fits s.syms HRS.out.few TT.fields[k].kind ws[k])
        obtain ⟨wb', wo', hA', hwb', hwc⟩ := ((HWD.out).below hbi).elem1 (k := k + 2) (by simp only [List.length_map, List.length_cons]; omega)
        injection hA' with hA'
        injection hA' with e1 e2
        subst e1; subst e2
        have q1 : wl.cell? ⟨wb, wo + (k + 2), none⟩ = some (.string (bytes ws[k])) := by simpa using hwc
        have hwz := HSZ.out ws[k] (by simp [List.getElem_mem])
        have HWZ := Lib.hid hwz
        have hI1 : (k : Int) + 2 < (N : Int) := by have := HNW.out; omega
        have hI2 : (k : Int) < (TT.fields.length : Int) := by omega
        have hI3 : (0 : Int) ≤ (k : Int) := by omega
        have hkt : ((k : Int) + 2).toNat = k + 2 := by omega
        have HKK := Lib.hid hkk
        clear hwc hrec hfc hwz hkk
        have HKL : Hid (k < ws.length) := Lib.hid h1
        have HWK0 : Hid (((w0 :: w1 :: ws)[k + 2]'(by simp; omega)) = ws[k]) := Lib.hid rfl
        generalize hwk : ws[k] = wk at *
        have HWK : Hid (bytes ((w0 :: w1 :: ws)[k + 2]'(by simp; omega)) = bytes wk) := Lib.hid (by rw [HWK0.out])
        clear hwk HWK0
        generalize hfk : TT.fields[k].kind = fk at *
        clear hfk
        rw [hfa]
        clear hfa
        have k8 := Bk.new wl 68 #[.int .i64 fk, .int .u64 0]
        have hbF : Below wl.heap.size wl (wl.alloc (.cells #[.int .i64 fk, .int .u64 0] 68)) := (Below.refl _ _).alloc (Nat.le_refl _) _
        have ek8 := ek.old hbF
        have own8 := own_old hown hbF
        have hbi8 := hbi.trans (hbF.mono hbi.size)
        have q8 := (bcell hbF _ _ (World.block_lt_of_cell? _ _ q1)).trans q1
        have hg8 : W2.heap.size ≤ wl.heap.size := hbi.size
        have HOB : Hid (∀ b, (Value.slice A k c).ownBlock = some b → b < wl.heap.size) := Lib.hid fun b hb => (hown.lt b hb).2
        go_upto_region 11 with fail
        generalize wl.alloc (.cells #[.int .i64 fk, .int .u64 0] 68) = W8 at *
        generalize wl.heap.size = g8 at *
        clear r1 q1 hbF ek hown hbi hbel
        have hc : fk = 1 ∨ fk = 2 ∨ fk = 3 ∨ fk = 4 := by omega
        have u0 := k8.cell 0
        rcases hc with rfl | rfl | rfl | rfl
        · as_aux_lemma =>
          have HN1 : Hid (∀ W : World, Calls Tryz.prog 19 #[.string (bytes wk)] W (NumDIs wk W)) := Lib.hid fun W => by
            have h2 := rnum_any (bytes wk) W (by rw [bytes_size]; exact HWZ.out)
            rw [bytes_list] at h2
            exact h2
          unfold NumDIs at HN1
          have HXV := Lib.hid (valD1 s.syms wk)
          generalize numD wk = z at *
          have HU : Hid (((Go.Proofs.YtpakcicbojbonaaGreatDoor.u64 z : Nat) : Int) = IntKind.u64.wrap z) := Lib.hid (u64_int z)
          generalize Go.Proofs.YtpakcicbojbonaaGreatDoor.u64 z = b1 at *
          go_wp2_with fail
          refine (HN1.out W8).mono ?_
          rintro r w9 ⟨b9, rfl, hb9⟩
          have k9 := k8.old hb9
          have ek9w := ek8.old hb9
          have own9w := own_old own8 hb9
          have hbi9w := hbi8.trans (hb9.mono hbi8.size)
          clear hb9 k8 ek8 own8 hbi8 u0
          have u0 := k9.cell 0
          have u1 := k9.cell 1
          have uf1 := k9.frozen 1
          go_upto_region 26 with fail
          have c9 : Bk (w9.setCell ⟨g8, 1, none⟩ (.int .u64 (IntKind.u64.wrap z))) g8 68 #[.int .i64 1, .int .u64 (b1 : Nat)] := by rw [HU.out]; exact k9.put 1 _
          have ek9 := ek9w.far (p := ⟨g8, 1, none⟩) (by show g7 ≠ g8; omega) (.int .u64 (IntKind.u64.wrap z))
          have own9 := ownsRow_setCell_other own9w (a := ⟨g8, 1, none⟩) (fun e => absurd (HOB.out _ e) (Nat.lt_irrefl _)) (.int .u64 (IntKind.u64.wrap z))
          have hbi9 : Below W2.heap.size W2 (w9.setCell ⟨g8, 1, none⟩ (.int .u64 (IntKind.u64.wrap z))) := hbi9w.setCell hg8 _
          generalize w9.setCell ⟨g8, 1, none⟩ (.int .u64 (IntKind.u64.wrap z)) = W9 at *
          clear u0 u1 uf1 k9 ek9w own9w hbi9w
          have ek9v := ek9
          have t0 := c9.cell 0
          have t1 := c9.cell 1
          have d2 := ek9.cell 2
          have hz9 : W2.heap.size ≤ W9.heap.size := by have := hbi9.size; omega
          have hzE : W2.heap.size ≤ (W9.alloc (.cells #[.int .i64 1, .int .u64 b1] 68)).heap.size := by simp; omega
          go_wp2_with (at_builtin; refine wpList_append_rd (by rfl) _ _ 35 (by rfl) W2.heap.size 68 iV _ 2 16 Tryz.underlying35 hV hV0 hV1 hV2 rfl (by decide) (.slice A k c) k _ (by rfl) (own9.alloc _) (W9.heap.size + 1) (some ⟨W9.heap.size, 0, none⟩) 1 1 [.int .i64 1, .int .u64 b1] (by rfl) (Rd.lit rfl _ _) (by rfl) ?c2 ?c3 ?c4 hzE ?_)
          case c2 => first | (intro u hu; simp at hu; rcases hu with rfl | rfl <;> rfl) | exact ⟨rfl, rfl⟩
          case c3 => unfold maxLen; omega
          case c4 => omega
          intro A4 c4 w4 hown4 hg4 _
          have hbi4 : Below W2.heap.size W2 w4 := below_own (hbi9.alloc hz9 _) (own9.alloc _) (Nat.le_refl _) hg4 hzE
          have ek4 := (ek9.alloc (.cells #[.int .i64 1, .int .u64 b1] 68)).grown hg4 (own_ne_bk own9 ek9 (by decide))
          have hown5 : w4.ownsRow W2.heap.size 68 2 (.slice A4 (k + 1) c4) (k + 1) ((vs ++ [(⟨1, b1⟩ : V)]).flatMap V.cells) := by
            rw [List.flatMap_append]; exact hown4
          have hfit2 : Hid (∀ x ∈ vs ++ [(⟨1, b1⟩ : V)], x.fits) := Lib.hid fun x hx => by
            rcases List.mem_append.1 hx with hx | hx
            · exact hfit.out x hx
            · obtain rfl := List.mem_singleton.1 hx; rw [← HXV.out]; exact HXF.out
          have hvl2 : Hid ((vs ++ [(⟨1, b1⟩ : V)]).length = k + 1) := Lib.hid (by rw [List.length_append, hvl.out]; rfl)
          have HST2 : Hid (vs ++ [(⟨1, b1⟩ : V)] ++ List.zipWith (valD s.syms) ((TT.fields.map (·.kind)).drop (k + 1)) (ws.drop (k + 1)) = ALL) := Lib.hid (by rw [← HST.out, HXV.out]; simp)
          have g2 := ek4.cell 2
          have gf := ek4.frozen 2
          clear hown4 hg4 own9 ek9 hbi9 hzE t0 t1 d2 hfit hvl c9 HST HXV HXF ek9v
          go_wp2
          go_roundw
          case rel => exact ⟨k + 1, A4, c4, vs ++ [(⟨1, b1⟩ : V)], by omega, by omega, by first | go_num | (congr 1; omega), hbi4.setCell n7 _, ek4.put 2 _, own_set hown5 ek4 (by decide) 2 _, hfit2, hvl2, HST2⟩
          case measure => simp [intOf]; omega
        · as_aux_lemma =>
          have hxv := valD2 s.syms wk
          by_cases hw : wk = tTrue
          · rw [if_pos hw] at hxv
            have HXV := Lib.hid hxv
            have hT : ((bytes wk).toList == [116, 114, 117, 101]) = true := by rw [bytes_list, hw]; exact beq_self_eq_true _
            clear hxv hw
            obtain ⟨w9, rfl⟩ : ∃ w9 : World, w9 = W8 := ⟨_, rfl⟩
            have k9 := k8
            have ek9w := ek8
            have own9w := own8
            have hbi9w := hbi8
            clear k8 ek8 own8 hbi8
            have u1 := k9.cell 1
            have uf1 := k9.frozen 1
            go_upto_region 26 with fail
            have c9 : Bk (w9.setCell ⟨g8, 1, none⟩ (.int .u64 1)) g8 68 #[.int .i64 2, .int .u64 (1 : Nat)] := by  exact k9.put 1 _
            have ek9 := ek9w.far (p := ⟨g8, 1, none⟩) (by show g7 ≠ g8; omega) (.int .u64 1)
            have own9 := ownsRow_setCell_other own9w (a := ⟨g8, 1, none⟩) (fun e => absurd (HOB.out _ e) (Nat.lt_irrefl _)) (.int .u64 1)
            have hbi9 : Below W2.heap.size W2 (w9.setCell ⟨g8, 1, none⟩ (.int .u64 1)) := hbi9w.setCell hg8 _
            generalize w9.setCell ⟨g8, 1, none⟩ (.int .u64 1) = W9 at *
            clear u0 u1 uf1 k9 ek9w own9w hbi9w
            have ek9v := ek9
            have t0 := c9.cell 0
            have t1 := c9.cell 1
            have d2 := ek9.cell 2
            have hz9 : W2.heap.size ≤ W9.heap.size := by have := hbi9.size; omega
            have hzE : W2.heap.size ≤ (W9.alloc (.cells #[.int .i64 2, .int .u64 (1)] 68)).heap.size := by simp; omega
            go_wp2_with (at_builtin; refine wpList_append_rd (by rfl) _ _ 35 (by rfl) W2.heap.size 68 iV _ 2 16 Tryz.underlying35 hV hV0 hV1 hV2 rfl (by decide) (.slice A k c) k _ (by rfl) (own9.alloc _) (W9.heap.size + 1) (some ⟨W9.heap.size, 0, none⟩) 1 1 [.int .i64 2, .int .u64 (1)] (by rfl) (Rd.lit rfl _ _) (by rfl) ?c2 ?c3 ?c4 hzE ?_)
            case c2 => first | (intro u hu; simp at hu; rcases hu with rfl | rfl <;> rfl) | exact ⟨rfl, rfl⟩
            case c3 => unfold maxLen; omega
            case c4 => omega
            intro A4 c4 w4 hown4 hg4 _
            have hbi4 : Below W2.heap.size W2 w4 := below_own (hbi9.alloc hz9 _) (own9.alloc _) (Nat.le_refl _) hg4 hzE
            have ek4 := (ek9.alloc (.cells #[.int .i64 2, .int .u64 (1)] 68)).grown hg4 (own_ne_bk own9 ek9 (by decide))
            have hown5 : w4.ownsRow W2.heap.size 68 2 (.slice A4 (k + 1) c4) (k + 1) ((vs ++ [(⟨2, (1)⟩ : V)]).flatMap V.cells) := by
              rw [List.flatMap_append]; exact hown4
            have hfit2 : Hid (∀ x ∈ vs ++ [(⟨2, (1)⟩ : V)], x.fits) := Lib.hid fun x hx => by
              rcases List.mem_append.1 hx with hx | hx
              · exact hfit.out x hx
              · obtain rfl := List.mem_singleton.1 hx; rw [← HXV.out]; exact HXF.out
            have hvl2 : Hid ((vs ++ [(⟨2, (1)⟩ : V)]).length = k + 1) := Lib.hid (by rw [List.length_append, hvl.out]; rfl)
            have HST2 : Hid (vs ++ [(⟨2, (1)⟩ : V)] ++ List.zipWith (valD s.syms) ((TT.fields.map (·.kind)).drop (k + 1)) (ws.drop (k + 1)) = ALL) := Lib.hid (by rw [← HST.out, HXV.out]; simp)
            have g2 := ek4.cell 2
            have gf := ek4.frozen 2
            clear hown4 hg4 own9 ek9 hbi9 hzE t0 t1 d2 hfit hvl c9 HST HXV HXF ek9v
            go_wp2
            go_roundw
            case rel => exact ⟨k + 1, A4, c4, vs ++ [(⟨2, (1)⟩ : V)], by omega, by omega, by first | go_num | (congr 1; omega), hbi4.setCell n7 _, ek4.put 2 _, own_set hown5 ek4 (by decide) 2 _, hfit2, hvl2, HST2⟩
            case measure => simp [intOf]; omega
          · rw [if_neg hw] at hxv
            have HXV := Lib.hid hxv
            have hT : ((bytes wk).toList == [116, 114, 117, 101]) = false := by rw [bytes_list]; exact beq_eq_false_iff_ne.2 hw
            clear hxv hw
            go_upto_region 26 with fail
            have c9 : Bk W8 g8 68 #[.int .i64 2, .int .u64 ((0 : Nat) : Int)] := k8
            have ek9 := ek8
            have own9 := own8
            have hbi9 := hbi8
            obtain ⟨W9, rfl⟩ : ∃ W9 : World, W9 = W8 := ⟨_, rfl⟩
            clear u0 k8 ek8 own8 hbi8
            have ek9v := ek9
            have t0 := c9.cell 0
            have t1 := c9.cell 1
            have d2 := ek9.cell 2
            have hz9 : W2.heap.size ≤ W9.heap.size := by have := hbi9.size; omega
            have hzE : W2.heap.size ≤ (W9.alloc (.cells #[.int .i64 2, .int .u64 (0)] 68)).heap.size := by simp; omega
            go_wp2_with (at_builtin; refine wpList_append_rd (by rfl) _ _ 35 (by rfl) W2.heap.size 68 iV _ 2 16 Tryz.underlying35 hV hV0 hV1 hV2 rfl (by decide) (.slice A k c) k _ (by rfl) (own9.alloc _) (W9.heap.size + 1) (some ⟨W9.heap.size, 0, none⟩) 1 1 [.int .i64 2, .int .u64 (0)] (by rfl) (Rd.lit rfl _ _) (by rfl) ?c2 ?c3 ?c4 hzE ?_)
            case c2 => first | (intro u hu; simp at hu; rcases hu with rfl | rfl <;> rfl) | exact ⟨rfl, rfl⟩
            case c3 => unfold maxLen; omega
            case c4 => omega
            intro A4 c4 w4 hown4 hg4 _
            have hbi4 : Below W2.heap.size W2 w4 := below_own (hbi9.alloc hz9 _) (own9.alloc _) (Nat.le_refl _) hg4 hzE
            have ek4 := (ek9.alloc (.cells #[.int .i64 2, .int .u64 (0)] 68)).grown hg4 (own_ne_bk own9 ek9 (by decide))
            have hown5 : w4.ownsRow W2.heap.size 68 2 (.slice A4 (k + 1) c4) (k + 1) ((vs ++ [(⟨2, (0)⟩ : V)]).flatMap V.cells) := by
              rw [List.flatMap_append]; exact hown4
            have hfit2 : Hid (∀ x ∈ vs ++ [(⟨2, (0)⟩ : V)], x.fits) := Lib.hid fun x hx => by
              rcases List.mem_append.1 hx with hx | hx
              · exact hfit.out x hx
              · obtain rfl := List.mem_singleton.1 hx; rw [← HXV.out]; exact HXF.out
            have hvl2 : Hid ((vs ++ [(⟨2, (0)⟩ : V)]).length = k + 1) := Lib.hid (by rw [List.length_append, hvl.out]; rfl)
            have HST2 : Hid (vs ++ [(⟨2, (0)⟩ : V)] ++ List.zipWith (valD s.syms) ((TT.fields.map (·.kind)).drop (k + 1)) (ws.drop (k + 1)) = ALL) := Lib.hid (by rw [← HST.out, HXV.out]; simp)
            have g2 := ek4.cell 2
            have gf := ek4.frozen 2
            clear hown4 hg4 own9 ek9 hbi9 hzE t0 t1 d2 hfit hvl c9 HST HXV HXF ek9v
            go_wp2
            go_roundw
            case rel => exact ⟨k + 1, A4, c4, vs ++ [(⟨2, (0)⟩ : V)], by omega, by omega, by first | go_num | (congr 1; omega), hbi4.setCell n7 _, ek4.put 2 _, own_set hown5 ek4 (by decide) 2 _, hfit2, hvl2, HST2⟩
            case measure => simp [intOf]; omega
        · obtain ⟨SL, hSL⟩ : ∃ SL, symLast wk 0 0 (s.syms.map (·.toList)) = SL := ⟨_, rfl⟩
          have HXV := Lib.hid (valD3 s.syms wk)
          rw [hSL] at HXV
          have HSL : Hid (symLast wk 0 0 ((s.syms.map (·.toList)).drop 0) = SL) := Lib.hid (by rw [List.drop_zero]; exact hSL)
          have hyl := HS.out.slen
          have kz8 := k02x.old hbi8
          have s1 := kz8.cell 1
          clear hSL kz8
          go_wp2
          clear s1 u0 q8
          go_loopw [106] (fun j wi => ∃ (q bq : Nat), q ≤ s.syms.length ∧ j = .int .i64 q ∧ Below W2.heap.size W2 wi ∧ Bk wi g8 68 #[.int .i64 3, .int .u64 bq] ∧
            Bk wi g7 37 #[.int .i64 (tn : Nat), .int .i64 tm, .slice A k c] ∧ wi.ownsRow W2.heap.size 68 2 (.slice A k c) k (vs.flatMap V.cells) ∧ Hid (symLast wk q bq ((s.syms.map (·.toList)).drop q) = SL)) (fun j _ => s.syms.length - (intOf j).toNat)
          case atStart => exact ⟨0, 0, Nat.zero_le _, rfl, hbi8, k8, ek8, own8, HSL⟩
          case round =>
            clear HSL hbi8 k8 ek8 own8
            obtain ⟨q, bq, hq, rfl, hbi8, k8, ek8, own8, hsl2⟩ := hrel
            obtain ⟨wi, rfl⟩ : ∃ wi : World, wi = wr := ⟨_, rfl⟩
            by_cases hql : q < s.syms.length
            · as_aux_lemma =>
              have hbe8 := hbe2.trans (hbi8.mono hbe2.size)
              obtain ⟨yb, yo, hya, hyb, hyc⟩ := (HS.out.syms.below hbe8).elem1 hql
              obtain ⟨wb', wo', hA', hwb', hwc⟩ := ((HWD.out).below hbi8).elem1 (k := k + 2) (by have := HKL.out; simp only [List.length_map, List.length_cons]; omega)
              injection hA' with hA'
              injection hA' with e1 e2
              subst e1; subst e2
              have q8 : wi.cell? ⟨wb, wo + (k + 2), none⟩ = some (.string (bytes wk)) := by
                have h := hwc
                have e := HWK.out
                simp only [List.getElem_map] at h
                rw [h, e]
              have hyz := HS.out.ssize s.syms[q] (List.getElem_mem _)
              have hst2 : symLast wk (q + 1) (if wk = 39 :: s.syms[q].toList then q else bq) ((s.syms.map (·.toList)).drop (q + 1)) = SL := by
                have e := List.drop_eq_getElem_cons (l := s.syms.map (·.toList)) (i := q) (by simpa using hql)
                rw [← hsl2.out, e, List.getElem_map]; rfl
              have hqI : (q : Int) < (s.syms.length : Int) := by omega
              have hq0 : (0 : Int) ≤ (q : Int) := by omega
              have u1 := k8.cell 1
              have uf1 := k8.frozen 1
              rw [hya]
              clear hwc hsl2 hya
              generalize s.syms[q] = y at *
              have hc1 : (⟨#[39]⟩ : ByteArray) ++ y = bytes (39 :: y.toList) := by
                conv => lhs; rw [bytes_of y]
                exact cat2 [39] _
              have hs1 : ¬ 9223372036854775807 < 1 + y.size := by omega
              by_cases hw : wk = 39 :: y.toList
              · have hT : ((bytes wk).toList == (bytes (39 :: y.toList)).toList) = true := by rw [hw]; exact beq_self_eq_true _
                rw [if_pos hw] at hst2
                have HST2 := Lib.hid hst2
                clear hst2 hw
                go_wp2
                go_roundw
                case rel => exact ⟨q + 1, q, by omega, by go_num, hbi8.setCell hg8 _, k8.put 1 _, ek8.far (p := ⟨g8, 1, none⟩) (by show g7 ≠ g8; omega) _, ownsRow_setCell_other own8 (a := ⟨g8, 1, none⟩) (fun e => absurd (HOB.out _ e) (Nat.lt_irrefl _)) _, HST2⟩
                case measure => simp [intOf]; omega
              · have hT : ((bytes wk).toList == (bytes (39 :: y.toList)).toList) = false := by rw [bytes_list, bytes_list]; exact beq_eq_false_iff_ne.2 hw
                rw [if_neg hw] at hst2
                have HST2 := Lib.hid hst2
                clear hst2 hw
                go_wp2
                go_roundw
                case rel => exact ⟨q + 1, bq, by omega, by go_num, hbi8, k8, ek8, own8, HST2⟩
                case measure => simp [intOf]; omega
            · as_aux_lemma =>
              obtain rfl : q = s.syms.length := by omega
              rw [List.drop_eq_nil_of_le (by simp)] at hsl2
              have hbq : bq = SL := hsl2.out
              subst hbq
              go_upto_region 26 with fail
              have c9 := k8
              have ek9 := ek8
              have own9 := own8
              have hbi9 := hbi8
              obtain ⟨W9, rfl⟩ : ∃ W9 : World, W9 = wi := ⟨_, rfl⟩
              clear k8 ek8 own8 hbi8
              have ek9v := ek9
              have t0 := c9.cell 0
              have t1 := c9.cell 1
              have d2 := ek9.cell 2
              have hz9 : W2.heap.size ≤ W9.heap.size := by have := hbi9.size; omega
              have hzE : W2.heap.size ≤ (W9.alloc (.cells #[.int .i64 3, .int .u64 bq] 68)).heap.size := by simp; omega
              go_wp2_with (at_builtin; refine wpList_append_rd (by rfl) _ _ 35 (by rfl) W2.heap.size 68 iV _ 2 16 Tryz.underlying35 hV hV0 hV1 hV2 rfl (by decide) (.slice A k c) k _ (by rfl) (own9.alloc _) (W9.heap.size + 1) (some ⟨W9.heap.size, 0, none⟩) 1 1 [.int .i64 3, .int .u64 bq] (by rfl) (Rd.lit rfl _ _) (by rfl) ?c2 ?c3 ?c4 hzE ?_)
              case c2 => first | (intro u hu; simp at hu; rcases hu with rfl | rfl <;> rfl) | exact ⟨rfl, rfl⟩
              case c3 => unfold maxLen; omega
              case c4 => omega
              intro A4 c4 w4 hown4 hg4 _
              have hbi4 : Below W2.heap.size W2 w4 := below_own (hbi9.alloc hz9 _) (own9.alloc _) (Nat.le_refl _) hg4 hzE
              have ek4 := (ek9.alloc (.cells #[.int .i64 3, .int .u64 bq] 68)).grown hg4 (own_ne_bk own9 ek9 (by decide))
              have hown5 : w4.ownsRow W2.heap.size 68 2 (.slice A4 (k + 1) c4) (k + 1) ((vs ++ [(⟨3, bq⟩ : V)]).flatMap V.cells) := by
                rw [List.flatMap_append]; exact hown4
              have hfit2 : Hid (∀ x ∈ vs ++ [(⟨3, bq⟩ : V)], x.fits) := Lib.hid fun x hx => by
                rcases List.mem_append.1 hx with hx | hx
                · exact hfit.out x hx
                · obtain rfl := List.mem_singleton.1 hx; rw [← HXV.out]; exact HXF.out
              have hvl2 : Hid ((vs ++ [(⟨3, bq⟩ : V)]).length = k + 1) := Lib.hid (by rw [List.length_append, hvl.out]; rfl)
              have HST2 : Hid (vs ++ [(⟨3, bq⟩ : V)] ++ List.zipWith (valD s.syms) ((TT.fields.map (·.kind)).drop (k + 1)) (ws.drop (k + 1)) = ALL) := Lib.hid (by rw [← HST.out, HXV.out]; simp)
              have g2 := ek4.cell 2
              have gf := ek4.frozen 2
              clear hown4 hg4 own9 ek9 hbi9 hzE t0 t1 d2 hfit hvl c9 HST HXV HXF ek9v
              go_wp2
              go_roundw
              case rel => exact ⟨k + 1, A4, c4, vs ++ [(⟨3, bq⟩ : V)], by omega, by omega, by first | go_num | (congr 1; omega), hbi4.setCell n7 _, ek4.put 2 _, own_set hown5 ek4 (by decide) 2 _, hfit2, hvl2, HST2⟩
              case measure => simp [intOf]; omega
        · as_aux_lemma =>
          have HN1 : Hid (∀ W : World, Calls Tryz.prog 20 #[.string (bytes wk)] W fun e w' => e = .returned (.int .u64 (bitsD wk : Nat)) ∧ Below W.heap.size W w') := Lib.hid fun W => by
            have h2 := bits_any2 (bytes wk) W (by rw [bytes_size]; exact HWZ.out)
            rw [bytes_list] at h2
            exact h2
          have HXV := Lib.hid (valD4 s.syms wk)
          generalize bitsD wk = z at *
          go_wp2_with fail
          refine (HN1.out W8).mono ?_
          rintro r w9 ⟨rfl, hb9⟩
          have k9 := k8.old hb9
          have ek9w := ek8.old hb9
          have own9w := own_old own8 hb9
          have hbi9w := hbi8.trans (hb9.mono hbi8.size)
          clear hb9 k8 ek8 own8 hbi8 u0
          have u0 := k9.cell 0
          have u1 := k9.cell 1
          have uf1 := k9.frozen 1
          go_upto_region 26 with fail
          have c9 : Bk (w9.setCell ⟨g8, 1, none⟩ (.int .u64 z)) g8 68 #[.int .i64 4, .int .u64 (z : Nat)] := by  exact k9.put 1 _
          have ek9 := ek9w.far (p := ⟨g8, 1, none⟩) (by show g7 ≠ g8; omega) (.int .u64 z)
          have own9 := ownsRow_setCell_other own9w (a := ⟨g8, 1, none⟩) (fun e => absurd (HOB.out _ e) (Nat.lt_irrefl _)) (.int .u64 z)
          have hbi9 : Below W2.heap.size W2 (w9.setCell ⟨g8, 1, none⟩ (.int .u64 z)) := hbi9w.setCell hg8 _
          generalize w9.setCell ⟨g8, 1, none⟩ (.int .u64 z) = W9 at *
          clear u0 u1 uf1 k9 ek9w own9w hbi9w
          have ek9v := ek9
          have t0 := c9.cell 0
          have t1 := c9.cell 1
          have d2 := ek9.cell 2
          have hz9 : W2.heap.size ≤ W9.heap.size := by have := hbi9.size; omega
          have hzE : W2.heap.size ≤ (W9.alloc (.cells #[.int .i64 4, .int .u64 z] 68)).heap.size := by simp; omega
          go_wp2_with (at_builtin; refine wpList_append_rd (by rfl) _ _ 35 (by rfl) W2.heap.size 68 iV _ 2 16 Tryz.underlying35 hV hV0 hV1 hV2 rfl (by decide) (.slice A k c) k _ (by rfl) (own9.alloc _) (W9.heap.size + 1) (some ⟨W9.heap.size, 0, none⟩) 1 1 [.int .i64 4, .int .u64 z] (by rfl) (Rd.lit rfl _ _) (by rfl) ?c2 ?c3 ?c4 hzE ?_)
          case c2 => first | (intro u hu; simp at hu; rcases hu with rfl | rfl <;> rfl) | exact ⟨rfl, rfl⟩
          case c3 => unfold maxLen; omega
          case c4 => omega
          intro A4 c4 w4 hown4 hg4 _
          have hbi4 : Below W2.heap.size W2 w4 := below_own (hbi9.alloc hz9 _) (own9.alloc _) (Nat.le_refl _) hg4 hzE
          have ek4 := (ek9.alloc (.cells #[.int .i64 4, .int .u64 z] 68)).grown hg4 (own_ne_bk own9 ek9 (by decide))
          have hown5 : w4.ownsRow W2.heap.size 68 2 (.slice A4 (k + 1) c4) (k + 1) ((vs ++ [(⟨4, z⟩ : V)]).flatMap V.cells) := by
            rw [List.flatMap_append]; exact hown4
          have hfit2 : Hid (∀ x ∈ vs ++ [(⟨4, z⟩ : V)], x.fits) := Lib.hid fun x hx => by
            rcases List.mem_append.1 hx with hx | hx
            · exact hfit.out x hx
            · obtain rfl := List.mem_singleton.1 hx; rw [← HXV.out]; exact HXF.out
          have hvl2 : Hid ((vs ++ [(⟨4, z⟩ : V)]).length = k + 1) := Lib.hid (by rw [List.length_append, hvl.out]; rfl)
          have HST2 : Hid (vs ++ [(⟨4, z⟩ : V)] ++ List.zipWith (valD s.syms) ((TT.fields.map (·.kind)).drop (k + 1)) (ws.drop (k + 1)) = ALL) := Lib.hid (by rw [← HST.out, HXV.out]; simp)
          have g2 := ek4.cell 2
          have gf := ek4.frozen 2
          clear hown4 hg4 own9 ek9 hbi9 hzE t0 t1 d2 hfit hvl c9 HST HXV HXF ek9v
          go_wp2
          go_roundw
          case rel => exact ⟨k + 1, A4, c4, vs ++ [(⟨4, z⟩ : V)], by omega, by omega, by first | go_num | (congr 1; omega), hbi4.setCell n7 _, ek4.put 2 _, own_set hown5 ek4 (by decide) 2 _, hfit2, hvl2, HST2⟩
          case measure => simp [intOf]; omega
      · as_aux_lemma =>
        have hF : k = TT.fields.length := by omega
        have hI1 : (k : Int) + 2 < (N : Int) := by have := HNW.out; omega
        have hI2 : ¬ (k : Int) < (TT.fields.length : Int) := by omega
        have HF := Lib.hid hF
        clear hF
        rw [show List.zipWith (valD s.syms) ((TT.fields.map (·.kind)).drop k) (ws.drop k) = [] from by rw [List.drop_eq_nil_of_le (by rw [List.length_map]; have := HF.out; omega)]; rfl, List.append_nil] at hrec
        have hvl' := hvl.out
        have heok : (⟨tn, tm, A, c, vs⟩ : EventV).ok wl wl.heap.size := ⟨own_rd (by rw [← hvl'] at hown; exact hown), by show vs.length ≤ _; omega, hfit.out, hrng⟩
        have HLN := Lib.hid (rline_any s ⟨tn, tm, A, c, vs⟩ wl (HS.out.old hbel) heok)
        have HPD : Hid (parseD (s.types.map sig) s.syms t.toList = lineIs (s.types.map sig) s.syms t.toList (⟨tn, tm, A, c, vs⟩ : EventV).sig) := Lib.hid (by rw [HEND.out, ← hrec.out]; rfl)
        obtain ⟨LB, hLB⟩ : ∃ LB, lineB (s.types.map sig) s.syms (⟨tn, tm, A, c, vs⟩ : EventV).sig = LB := ⟨_, rfl⟩
        have HLI : Hid (lineIs (s.types.map sig) s.syms t.toList (⟨tn, tm, A, c, vs⟩ : EventV).sig = if LB = t.toList ∧ t.toList ≠ [] then some (⟨tn, tm, A, c, vs⟩ : EventV).sig else none) := Lib.hid (by unfold lineIs; rw [hLB])
        rw [hLB] at HLN
        unfold SchemaV.val EventV.val at HLN
        simp only [hvl'] at HLN
        have kk0 := k02x.old hbi
        have kk1 := k12x.old hbi
        clear hrec hLB heok hvl'
        have s0 := kk0.cell 0
        have s1 := kk0.cell 1
        have g0 := ek.cell 0
        have g1 := ek.cell 1
        have g2 := ek.cell 2
        go_wp2_with fail
        refine HLN.out.mono ?_
        rintro r w7 ⟨rfl, hb7⟩
        have hbe7 := hbel.trans (hb7.mono hbel.size)
        have k17 := kk1.old hb7
        have ek7 := ek.old hb7
        have own7 := own_old hown hb7
        clear s0 s1 g0 g1 g2 hb7 hbel kk0 kk1 ek hown HLN
        have d0 := k17.cell 0
        have d1 := k17.cell 1
        have d2 := k17.cell 2
        have f0 := k17.frozen 0
        have f1 := k17.frozen 1
        have f2 := k17.frozen 2
        by_cases hl : LB = t.toList
        case neg =>
          have hT : ((bytes LB).toList == t.toList) = false := by rw [bytes_list]; exact beq_eq_false_iff_ne.2 hl
          have HN : Hid (parseD (s.types.map sig) s.syms t.toList = none) := Lib.hid (by rw [HPD.out, HLI.out, if_neg (fun h => hl h.1)])
          clear hl
          go_wp2
          refine bodyPost_ret (v := .tuple #[.agg #[.int .i64 0, .int .i64 0, .slice none 0 0], .bool false]) (by simp [results, Tryz.results6, go_sem, d0, d1, d2]) rfl ?_
          exact rparse_no HN.out (by repeat (first | exact hbe7 | refine Below.setCell ?_ (by simp) _))
        have hT : ((bytes LB).toList == t.toList) = true := by rw [bytes_list, hl]; exact beq_self_eq_true _
        by_cases hte : t.toList = []
        · have HN : Hid (parseD (s.types.map sig) s.syms t.toList = none) := Lib.hid (by rw [HPD.out, HLI.out, if_neg (fun h => h.2 hte)])
          have hte2 : t.toList.isEmpty = true := by rw [hte]; rfl
          have hLB0 : (bytes LB).toList = [] := by rw [bytes_list, hl, hte]
          have hLB1 : (bytes LB).toList.isEmpty = true := by rw [hLB0]; rfl
          have HTE := Lib.hid hte
          clear hl
          go_wp2
          refine bodyPost_ret (v := .tuple #[.agg #[.int .i64 0, .int .i64 0, .slice none 0 0], .bool false]) (by simp [results, Tryz.results6, go_sem, d0, d1, d2]) rfl ?_
          first | exact rparse_no HN.out (by repeat (first | exact hbe7 | refine Below.setCell ?_ (by simp) _)) | (rw [← HTE.out]; exact rparse_no HN.out (by repeat (first | exact hbe7 | refine Below.setCell ?_ (by simp) _)))
        · have HN : Hid (parseD (s.types.map sig) s.syms t.toList = some (⟨tn, tm, A, c, vs⟩ : EventV).sig) := Lib.hid (by rw [HPD.out, HLI.out, if_pos ⟨hl, hte⟩])
          have hte2 : t.toList.isEmpty = false := by cases h : t.toList with | nil => exact absurd h hte | cons _ _ => rfl
          have g0 := ek7.cell 0
          have g1 := ek7.cell 1
          have g2 := ek7.cell 2
          have own8 := own_set (own_set (own_set own7 k17 (by decide) 0 (.int .i64 (tn : Nat))) (k17.put 0 _) (by decide) 1 (.int .i64 tm)) ((k17.put 0 _).put 1 _) (by decide) 2 (.slice A k c)
          clear hl
          go_wp2
          refine bodyPost_ret (v := .tuple #[.agg #[.int .i64 (tn : Nat), .int .i64 tm, .slice A k c], .bool true]) (by simp [results, Tryz.results6, go_sem, d0, d1, d2]) rfl ?_
          have hfin := rparse_yes (w := w) (⟨tn, tm, A, c, vs⟩ : EventV) HN.out (w' := ((w7.setCell ⟨w.heap.size + 1, 0, none⟩ (.int .i64 (tn : Nat))).setCell ⟨w.heap.size + 1, 1, none⟩ (.int .i64 tm)).setCell ⟨w.heap.size + 1, 2, none⟩ (.slice A k c)) ⟨own_rd (by show World.ownsRow _ _ _ _ (.slice A vs.length c) vs.length _; rw [hvl.out]; exact own8), by show vs.length ≤ _; have := hvl.out; omega, hfit.out, hrng⟩ (by repeat (first | exact hbe7 | refine Below.setCell ?_ (by simp) _))
          unfold EventV.val at hfin
          simp only [hvl.out] at hfin
          exact hfin
    · as_aux_lemma =>
        have hI1 : ¬ (k : Int) + 2 < (N : Int) := by have := HNW.out; omega
        rw [show List.zipWith (valD s.syms) ((TT.fields.map (·.kind)).drop k) (ws.drop k) = [] from by rw [List.drop_eq_nil_of_le (show ws.length ≤ k by omega)]; exact List.zipWith_nil_right, List.append_nil] at hrec
        have hvl' := hvl.out
        have heok : (⟨tn, tm, A, c, vs⟩ : EventV).ok wl wl.heap.size := ⟨own_rd (by rw [← hvl'] at hown; exact hown), by show vs.length ≤ _; omega, hfit.out, hrng⟩
        have HLN := Lib.hid (rline_any s ⟨tn, tm, A, c, vs⟩ wl (HS.out.old hbel) heok)
        have HPD : Hid (parseD (s.types.map sig) s.syms t.toList = lineIs (s.types.map sig) s.syms t.toList (⟨tn, tm, A, c, vs⟩ : EventV).sig) := Lib.hid (by rw [HEND.out, ← hrec.out]; rfl)
        obtain ⟨LB, hLB⟩ : ∃ LB, lineB (s.types.map sig) s.syms (⟨tn, tm, A, c, vs⟩ : EventV).sig = LB := ⟨_, rfl⟩
        have HLI : Hid (lineIs (s.types.map sig) s.syms t.toList (⟨tn, tm, A, c, vs⟩ : EventV).sig = if LB = t.toList ∧ t.toList ≠ [] then some (⟨tn, tm, A, c, vs⟩ : EventV).sig else none) := Lib.hid (by unfold lineIs; rw [hLB])
        rw [hLB] at HLN
        unfold SchemaV.val EventV.val at HLN
        simp only [hvl'] at HLN
        have kk0 := k02x.old hbi
        have kk1 := k12x.old hbi
        clear hrec hLB heok hvl'
        have s0 := kk0.cell 0
        have s1 := kk0.cell 1
        have g0 := ek.cell 0
        have g1 := ek.cell 1
        have g2 := ek.cell 2
        go_wp2_with fail
        refine HLN.out.mono ?_
        rintro r w7 ⟨rfl, hb7⟩
        have hbe7 := hbel.trans (hb7.mono hbel.size)
        have k17 := kk1.old hb7
        have ek7 := ek.old hb7
        have own7 := own_old hown hb7
        clear s0 s1 g0 g1 g2 hb7 hbel kk0 kk1 ek hown HLN
        have d0 := k17.cell 0
        have d1 := k17.cell 1
        have d2 := k17.cell 2
        have f0 := k17.frozen 0
        have f1 := k17.frozen 1
        have f2 := k17.frozen 2
        by_cases hl : LB = t.toList
        case neg =>
          have hT : ((bytes LB).toList == t.toList) = false := by rw [bytes_list]; exact beq_eq_false_iff_ne.2 hl
          have HN : Hid (parseD (s.types.map sig) s.syms t.toList = none) := Lib.hid (by rw [HPD.out, HLI.out, if_neg (fun h => hl h.1)])
          clear hl
          go_wp2
          refine bodyPost_ret (v := .tuple #[.agg #[.int .i64 0, .int .i64 0, .slice none 0 0], .bool false]) (by simp [results, Tryz.results6, go_sem, d0, d1, d2]) rfl ?_
          exact rparse_no HN.out (by repeat (first | exact hbe7 | refine Below.setCell ?_ (by simp) _))
        have hT : ((bytes LB).toList == t.toList) = true := by rw [bytes_list, hl]; exact beq_self_eq_true _
        by_cases hte : t.toList = []
        · have HN : Hid (parseD (s.types.map sig) s.syms t.toList = none) := Lib.hid (by rw [HPD.out, HLI.out, if_neg (fun h => h.2 hte)])
          have hte2 : t.toList.isEmpty = true := by rw [hte]; rfl
          have hLB0 : (bytes LB).toList = [] := by rw [bytes_list, hl, hte]
          have hLB1 : (bytes LB).toList.isEmpty = true := by rw [hLB0]; rfl
          have HTE := Lib.hid hte
          clear hl
          go_wp2
          refine bodyPost_ret (v := .tuple #[.agg #[.int .i64 0, .int .i64 0, .slice none 0 0], .bool false]) (by simp [results, Tryz.results6, go_sem, d0, d1, d2]) rfl ?_
          first | exact rparse_no HN.out (by repeat (first | exact hbe7 | refine Below.setCell ?_ (by simp) _)) | (rw [← HTE.out]; exact rparse_no HN.out (by repeat (first | exact hbe7 | refine Below.setCell ?_ (by simp) _)))
        · have HN : Hid (parseD (s.types.map sig) s.syms t.toList = some (⟨tn, tm, A, c, vs⟩ : EventV).sig) := Lib.hid (by rw [HPD.out, HLI.out, if_pos ⟨hl, hte⟩])
          have hte2 : t.toList.isEmpty = false := by cases h : t.toList with | nil => exact absurd h hte | cons _ _ => rfl
          have g0 := ek7.cell 0
          have g1 := ek7.cell 1
          have g2 := ek7.cell 2
          have own8 := own_set (own_set (own_set own7 k17 (by decide) 0 (.int .i64 (tn : Nat))) (k17.put 0 _) (by decide) 1 (.int .i64 tm)) ((k17.put 0 _).put 1 _) (by decide) 2 (.slice A k c)
          clear hl
          go_wp2
          refine bodyPost_ret (v := .tuple #[.agg #[.int .i64 (tn : Nat), .int .i64 tm, .slice A k c], .bool true]) (by simp [results, Tryz.results6, go_sem, d0, d1, d2]) rfl ?_
          have hfin := rparse_yes (w := w) (⟨tn, tm, A, c, vs⟩ : EventV) HN.out (w' := ((w7.setCell ⟨w.heap.size + 1, 0, none⟩ (.int .i64 (tn : Nat))).setCell ⟨w.heap.size + 1, 1, none⟩ (.int .i64 tm)).setCell ⟨w.heap.size + 1, 2, none⟩ (.slice A k c)) ⟨own_rd (by show World.ownsRow _ _ _ _ (.slice A vs.length c) vs.length _; rw [hvl.out]; exact own8), by show vs.length ≤ _; have := hvl.out; omega, hfit.out, hrng⟩ (by repeat (first | exact hbe7 | refine Below.setCell ?_ (by simp) _))
          unfold EventV.val at hfin
          simp only [hvl.out] at hfin
          exact hfin
end Go.Proofs.YtpakcicbojbonaaGreatDoor
