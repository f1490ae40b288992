/- Layer 4: bits that are read; a value that is read, by the program. No conditions. -/
import Derived.Test.YtpakcicbojbonaaGreatDoorEvtK
namespace Go.Proofs.YtpakcicbojbonaaGreatDoor
open Go.RowKit
set_option maxRecDepth 10000
set_option linter.unusedVariables false
set_option linter.unusedSimpArgs false

theorem or_hex (A d : Nat) (hA : A < 1152921504606846976) (hd : d < 16) : bits .or .u64 ((A : Int) * 16) (d : Int) = ((A * 16 + d : Nat) : Int) := by
  have h := u64_or_nat (A * 16) d (by omega) (by omega)
  have e : A * 16 ||| d = A * 16 + d := by
    have := Nat.two_pow_add_eq_or_of_lt (i := 4) (b := d) hd A
    rw [Nat.mul_comm] at this
    exact this.symm
  rw [e] at h
  have e2 : ((A * 16 : Nat) : Int) = (A : Int) * 16 := by omega
  rw [e2] at h
  exact h
theorem hexR_cons (s : ByteArray) (h : s.size = 17) : hexR s.toList = if s[0] = 35 then (match hexFrom 0 (s.toList.drop 1) with | some a => if canonN a = a then some a else none | none => none) else none := by
  have h1 := drop_list s 0 (by omega)
  rw [List.drop_zero] at h1
  have h2 : (s.toList.drop 1).length = 16 := by rw [List.length_drop, len_list]; omega
  conv => lhs; rw [h1]
  unfold hexR
  rw [Nat.zero_add]
  simp only [h2, and_true]
  rfl
theorem hexR_long (s : ByteArray) (h : ¬ s.size = 17) : hexR s.toList = none := by
  have hl := len_list s
  unfold hexR
  split
  · rename_i c r e
    rw [e] at hl
    rw [if_neg]
    rintro ⟨_, h2⟩
    simp at hl; omega
  · rfl
def HexIs (l : List UInt8) (w : World) (e : Ending) (w' : World) : Prop := e = .returned (.tuple #[.int .u64 ((hexR l).getD 0 : Nat), .bool (hexR l).isSome]) ∧ Below w.heap.size w w'
theorem hex_no {l : List UInt8} {w w' : World} (h : hexR l = none) (hb : Below w.heap.size w w') : HexIs l w (.returned (.tuple #[.int .u64 0, .bool false])) w' := ⟨by rw [h]; rfl, hb⟩
theorem hex_yes {l : List UInt8} {a : Nat} {w w' : World} (h : hexR l = some a) (hb : Below w.heap.size w w') : HexIs l w (.returned (.tuple #[.int .u64 (a : Nat), .bool true])) w' := ⟨by rw [h]; rfl, hb⟩
theorem hex_lt (l : List UInt8) : (hexR l).getD 0 < 18446744073709551616 := by
  cases h : hexR l with
  | none => exact (by omega : 0 < 18446744073709551616)
  | some a => exact (hex_text h).2.2
set_option maxRecDepth 100000 in
set_option maxHeartbeats 1000000 in
theorem pparse_any (s : ByteArray) (w : World) :
    Calls Tryz.prog 35 #[.string s] w (HexIs s.toList w) := by
  by_cases h17 : s.size = 17
  case neg =>
    have HR := Lib.hid (hexR_long s h17)
    have hI : ((s.size : Int) != 17) = true := by simp; omega
    go_enter Tryz.func35, Tryz.ntmps35
    go_wp2
    go_ret2
    exact hex_no HR.out (Below.refl _ _)
  have hR := hexR_cons s h17
  have hpos : 0 < s.size := by omega
  have hI : ((s.size : Int) != 17) = false := by simp [h17]
  by_cases h35 : s[0] = 35
  case neg =>
    rw [if_neg h35] at hR
    have HR := Lib.hid hR
    have h35I : ((s[0].toNat : Int) != 35) = true := by
      simp
      intro e
      apply h35
      apply UInt8.toNat_inj.1
      have : s[0].toNat = 35 := by omega
      rw [this]; rfl
    clear hR h35
    go_enter Tryz.func35, Tryz.ntmps35
    go_wp2
    go_ret2
    exact hex_no HR.out (Below.refl _ _)
  rw [if_pos h35] at hR
  have h35I : ((s[0].toNat : Int) != 35) = false := by rw [h35]; rfl
  have HR := Lib.hid hR
  have H17 := Lib.hid h17
  clear hR h35
  go_enter Tryz.func35, Tryz.ntmps35
  go_wp2
  clear hI h35I hpos
  go_loopw [4, 5] (fun a i wr => ∃ (k A : Nat), 1 ≤ k ∧ k ≤ 17 ∧ a = .int .u64 A ∧ i = .int .i64 k ∧ wr = w ∧ Hid (A < 16 ^ (k - 1)) ∧ Hid (hexFrom 0 (s.toList.drop 1) = hexFrom A (s.toList.drop k))) (fun _ i _ => 17 - (intOf i).toNat)
  case atStart => exact ⟨1, 0, by omega, by omega, rfl, rfl, rfl, Lib.hid (by decide), rfl⟩
  case round =>
    obtain ⟨k, A, hk1, hk, rfl, rfl, rfl, hA, hrec⟩ := hrel
    by_cases hlt : k < s.size
    · as_aux_lemma =>
      have hle : k ≤ 16 := by omega
      have hAL : A < 1152921504606846976 := by
        have h1 := Nat.pow_le_pow_right (n := 16) (by omega) (show k - 1 ≤ 15 by omega)
        have h2 := hA.out
        have h3 : (16 : Nat) ^ 15 = 1152921504606846976 := by decide
        omega
      have hstep : hexFrom A (s.toList.drop k) = match hexV s[k] with | some d => hexFrom (A * 16 + d) (s.toList.drop (k + 1)) | none => none := by rw [drop_list s k hlt]; rfl
      have HS := Lib.hid (hrec.out.trans hstep)
      have HP : Hid (∀ d, d < 16 → A * 16 + d < 16 ^ (k + 1 - 1)) := Lib.hid fun d hd => by
        have h2 := hA.out
        obtain ⟨j, rfl⟩ : ∃ j, k = j + 1 := ⟨k - 1, by omega⟩
        rw [Nat.add_sub_cancel] at h2 ⊢
        rw [Nat.pow_succ]; omega
      have hltI : (k : Int) < 17 := by omega
      clear hrec hstep hA
      have hc := UInt8.toNat_lt s[k]
      by_cases h1 : 48 ≤ s[k].toNat ∧ s[k].toNat ≤ 57
      · have hv : hexV s[k] = some (s[k].toNat - 48) := if_pos h1
        rw [hv] at HS
        have hor := or_hex A (s[k].toNat - 48) hAL (by omega)
        have hcI : ((s[k].toNat - 48 : Nat) : Int) = (s[k].toNat : Int) - 48 := by omega
        rw [hcI] at hor
        have HO := Lib.hid hor
        have hP := Lib.hid (HP.out (s[k].toNat - 48) (by omega))
        have h3 : (48 : Int) ≤ (s[k].toNat : Int) := by omega
        have h4 : (s[k].toNat : Int) ≤ 57 := by omega
        clear hv HP hc hor hcI h1
        go_wp2
        go_roundw
        case rel => exact ⟨k + 1, A * 16 + (s[k].toNat - 48), by omega, by omega, congrArg (Value.int .u64) HO.out, by go_num, by first | rfl | trivial, hP, HS⟩
        case measure => simp [intOf]; omega
      · by_cases h2 : 97 ≤ s[k].toNat ∧ s[k].toNat ≤ 102
        · have hv : hexV s[k] = some (s[k].toNat - 87) := by unfold hexV; rw [if_neg h1, if_pos h2]
          rw [hv] at HS
          have hor := or_hex A (s[k].toNat - 87) hAL (by omega)
          have hcI : ((s[k].toNat - 87 : Nat) : Int) = (s[k].toNat : Int) - 97 + 10 := by omega
          rw [hcI] at hor
          have HO := Lib.hid hor
          have hP := Lib.hid (HP.out (s[k].toNat - 87) (by omega))
          have h3 : (97 : Int) ≤ (s[k].toNat : Int) := by omega
          have h4 : (s[k].toNat : Int) ≤ 102 := by omega
          have h5 : (48 : Int) ≤ (s[k].toNat : Int) := by omega
          have h6 : ¬ (s[k].toNat : Int) ≤ 57 := by omega
          clear hv HP hc hor hcI h1 h2
          go_wp2
          go_roundw
          case rel => exact ⟨k + 1, A * 16 + (s[k].toNat - 87), by omega, by omega, by first | exact congrArg (Value.int .u64) HO.out | (have h := HO.out; trace_state; simpa using h), by go_num, by first | rfl | trivial, hP, HS⟩
          case measure => simp [intOf]; omega
        · have hv : hexV s[k] = none := by unfold hexV; rw [if_neg h1, if_neg h2]
          rw [hv] at HS
          have HN : Hid (hexR s.toList = none) := Lib.hid (by rw [HR.out, HS.out])
          have hcase : (s[k].toNat : Int) < 48 ∨ ((48 : Int) ≤ (s[k].toNat : Int) ∧ ¬ (s[k].toNat : Int) ≤ 57 ∧ (s[k].toNat : Int) < 97) ∨ ((48 : Int) ≤ (s[k].toNat : Int) ∧ ¬ (s[k].toNat : Int) ≤ 57 ∧ (97 : Int) ≤ (s[k].toNat : Int) ∧ ¬ (s[k].toNat : Int) ≤ 102) := by omega
          clear hv HP hc h1 h2 HS HR
          rcases hcase with h3 | ⟨h3, h4, h5⟩ | ⟨h3, h4, h5, h6⟩
          all_goals
            go_wp2
            go_ret2
            exact hex_no HN.out (Below.refl _ _)
    · as_aux_lemma =>
      obtain rfl : k = 17 := by have := H17.out; omega
      have hd17 : s.toList.drop 17 = [] := List.drop_eq_nil_of_le (by rw [len_list]; have := H17.out; omega)
      rw [hd17] at hrec
      clear hd17
      have hAL : A < 18446744073709551616 := by have h := hA.out; exact h
      have hr : hexR s.toList = if canonN A = A then some A else none := by rw [HR.out, hrec.out]; rfl
      have HN := Lib.hid hr
      clear hr hrec HR hA
      have HC := Lib.hid (canon_any A hAL wr)
      by_cases hca : canonN A = A
      · rw [hca] at HC
        rw [if_pos hca] at HN
        clear hca
        go_wp2_with fail
        refine HC.out.mono ?_
        rintro r w2 ⟨rfl, rfl⟩
        go_wp2
        go_ret2
        exact hex_yes HN.out (Below.refl _ _)
      · rw [if_neg hca] at HN
        have hne : (((canonN A : Nat) : Int) != (A : Int)) = true := by simp; omega
        generalize canonN A = C at *
        clear hca
        go_wp2_with fail
        refine HC.out.mono ?_
        rintro r w2 ⟨rfl, rfl⟩
        go_wp2
        go_ret2
        exact hex_no HN.out (Below.refl _ _)
/-- What a word is read as, whatever it is. -/
def valT (Y : List ByteArray) (k : Int) (t : List UInt8) : V :=
  if k = 1 then ⟨1, u64 (numT t)⟩ else if k = 2 then ⟨2, if t = tTrue then 1 else 0⟩ else if k = 3 then (match t with | 39 :: _ => ⟨3, u64 (symP Y t)⟩ | _ => ⟨0, 0⟩) else ⟨4, (hexR t).getD 0⟩
theorem valT1 (Y : List ByteArray) (t : List UInt8) : valT Y 1 t = ⟨1, u64 (numT t)⟩ := by unfold valT; rw [if_pos rfl]
theorem valT2 (Y : List ByteArray) (t : List UInt8) : valT Y 2 t = ⟨2, if t = tTrue then 1 else 0⟩ := by unfold valT; rw [if_neg (by decide), if_pos rfl]
theorem valT3 (Y : List ByteArray) (t : List UInt8) : valT Y 3 t = match t with | 39 :: _ => ⟨3, u64 (symP Y t)⟩ | _ => ⟨0, 0⟩ := by unfold valT; rw [if_neg (by decide), if_neg (by decide), if_pos rfl]
theorem valT4 (Y : List ByteArray) (t : List UInt8) : valT Y 4 t = ⟨4, (hexR t).getD 0⟩ := by unfold valT; rw [if_neg (by decide), if_neg (by decide), if_neg (by decide)]
theorem u64_lt (n : Int) : u64 n < 18446744073709551616 := by unfold u64; omega
theorem valT_fits (Y : List ByteArray) (k : Int) (t : List UInt8) : (valT Y k t).fits := by
  unfold valT V.fits
  split
  · exact u64_lt _
  · split
    · show (if t = tTrue then 1 else 0) < _
      split <;> omega
    · split
      · split
        · exact u64_lt _
        · exact (by omega : 0 < 18446744073709551616)
      · exact hex_lt t
theorem val_T {Y : List ByteArray} {k : Int} {t : List UInt8} {v : V} (hk : 1 ≤ k ∧ k ≤ 4) (hY : Y.length ≤ 64) (h : valP Y k t = some v) : valT Y k t = v := by
  have hc : k = 1 ∨ k = 2 ∨ k = 3 ∨ k = 4 := by omega
  rcases hc with rfl | rfl | rfl | rfl
  · rw [valP1] at h
    cases hn : numP t with
    | none => rw [hn] at h; cases h
    | some n =>
      rw [hn] at h
      injection h with h
      rw [valT1, numP_T hn]
      exact h
  · rw [valP2] at h
    rw [valT2]
    split at h
    · rename_i h2
      injection h with h
      rw [if_pos h2, h]
    · rename_i h2
      split at h
      · injection h with h
        rw [if_neg h2, h]
      · cases h
  · rw [valP3] at h
    split at h
    · rename_i h2
      injection h with h
      obtain ⟨h3, _⟩ := sym_text h2
      have e : u64 (symP Y t) = (symP Y t).toNat := by unfold u64; omega
      rw [valT3]
      split
      · rw [e, h]
      · rename_i h4
        exfalso
        cases t with
        | nil => exact absurd h2 (by show ¬ (0 : Int) ≤ -1; decide)
        | cons c r =>
          by_cases hc : c = 39
          · subst hc; exact h4 r rfl
          · have e : symP Y (c :: r) = -1 := by
              unfold symP
              split
              · rename_i nm e1
                injection e1 with e1 _
                exact absurd e1 hc
              · rfl
            omega
    · cases h
  · rw [valP4] at h
    rw [valT4]
    cases hx : hexR t with
    | none => rw [hx] at h; cases h
    | some a =>
      rw [hx] at h
      injection h with h
def ReadIs (Y : List ByteArray) (k : Int) (t : List UInt8) (w : World) (r : Ending) (w' : World) : Prop :=
  r = .returned (.tuple #[(valT Y k t).v, .bool (valP Y k t).isSome]) ∧ Below w.heap.size w w'
theorem read_is {Y : List ByteArray} {k : Int} {t : List UInt8} {w w' : World} {v : V} {ok : Bool} (hv : valT Y k t = v) (ho : (valP Y k t).isSome = ok) (hb : Below w.heap.size w w') : ReadIs Y k t w (.returned (.tuple #[v.v, .bool ok])) w' := ⟨by rw [hv, ho], hb⟩
theorem u64_int (n : Int) : ((u64 n : Nat) : Int) = IntKind.u64.wrap n := by
  have e : IntKind.u64.wrap n = n % 18446744073709551616 := rfl
  rw [e]; unfold u64; omega
set_option maxRecDepth 100000 in
set_option maxHeartbeats 1000000 in
theorem read_int (s : SchemaV) (t : ByteArray) (w : World) (hE : Env w) (ht : t.size ≤ 281474976710656) :
    Calls Tryz.prog 14 #[s.val, .int .i64 1, .string t] w (ReadIs s.syms 1 t.toList w) := by
  have hW : Below w.heap.size w ((w.alloc (.cells #[.slice s.ta s.types.length s.tc, .slice s.sa s.syms.length s.sc] 33)).alloc (.cells #[.int .i64 0, .int .u64 0] 57)) := ((Below.refl _ _).alloc (Nat.le_refl _) _).alloc (by simp) _
  have k0 := Bk.newAt (w := w.alloc (.cells #[.slice s.ta s.types.length s.tc, .slice s.sa s.syms.length s.sc] 33)) (g := w.heap.size + 1) (by simp) 57 #[.int .i64 0, .int .u64 0]
  have HF := Lib.hid (number_any t _ (hE.old hW) ht)
  have HO : Hid ((valP s.syms 1 t.toList).isSome = (numP t.toList).isSome) := Lib.hid (by rw [valP1, Option.isSome_map])
  have HT := Lib.hid (valT1 s.syms t.toList)
  unfold NumIs at HF
  generalize numT t.toList = n at *
  generalize (numP t.toList).isSome = ok at *
  clear hE
  unfold SchemaV.val
  go_enter Tryz.func14, Tryz.ntmps14
  go_wp2_with fail
  refine HF.out.mono ?_
  rintro r w2 ⟨rfl, hb2⟩
  have hbe := hW.trans (hb2.mono hW.size)
  have k1 := k0.old hb2
  have d0 := k1.cell 0
  have d1 := k1.cell 1
  have f0 := k1.frozen 0
  have f1 := k1.frozen 1
  have HU := Lib.hid (u64_int n)
  clear HF k0 hb2 hW
  go_wp2
  refine bodyPost_ret (v := .tuple #[.agg #[.int .i64 1, .int .u64 (IntKind.u64.wrap n)], .bool ok]) (by simp [results, Tryz.results14, go_sem, d0, d1]) rfl ?_
  rw [← HU.out]
  exact read_is (v := ⟨1, u64 n⟩) HT.out HO.out (by repeat (first | exact hbe | refine Below.setCell ?_ (by simp) _))
theorem size_0 {t : ByteArray} (h : t.toList = []) : t = ⟨#[]⟩ := by
  rw [ByteArray.toList_eq] at h
  exact ByteArray.ext (Array.toList_eq_nil_iff.1 h)
set_option maxRecDepth 100000 in
set_option maxHeartbeats 1000000 in
theorem read_bool (s : SchemaV) (t : ByteArray) (w : World) :
    Calls Tryz.prog 14 #[s.val, .int .i64 2, .string t] w (ReadIs s.syms 2 t.toList w) := by
  have hW : Below w.heap.size w ((w.alloc (.cells #[.slice s.ta s.types.length s.tc, .slice s.sa s.syms.length s.sc] 33)).alloc (.cells #[.int .i64 0, .int .u64 0] 57)) := ((Below.refl _ _).alloc (Nat.le_refl _) _).alloc (by simp) _
  have k1 := Bk.newAt (w := w.alloc (.cells #[.slice s.ta s.types.length s.tc, .slice s.sa s.syms.length s.sc] 33)) (g := w.heap.size + 1) (by simp) 57 #[.int .i64 0, .int .u64 0]
  have HV := Lib.hid (valP2 s.syms t.toList)
  have d0 := k1.cell 0
  have d1 := k1.cell 1
  have f0 := k1.frozen 0
  have f1 := k1.frozen 1
  clear k1
  unfold SchemaV.val
  by_cases h1 : t.toList = tTrue
  · have hT : (t.toList == [116, 114, 117, 101]) = true := by rw [h1]; exact beq_self_eq_true _
    have HN := Lib.hid (HV.out.trans (if_pos h1))
    have HT : Hid (valT s.syms 2 t.toList = ⟨2, 1⟩) := Lib.hid (by rw [valT2, if_pos h1])
    clear h1 HV
    go_enter Tryz.func14, Tryz.ntmps14
    go_upto_region 6 with fail
    generalize (w.alloc (.cells #[.slice s.ta s.types.length s.tc, .slice s.sa s.syms.length s.sc] 33)).alloc (.cells #[.int .i64 0, .int .u64 0] 57) = W at *
    go_wp2
    refine bodyPost_ret (v := .tuple #[.agg #[.int .i64 2, .int .u64 1], .bool true]) (by simp [results, Tryz.results14, go_sem, d0, d1]) rfl ?_
    exact read_is (v := ⟨2, 1⟩) HT.out (by rw [HN.out]; rfl) (by repeat (first | exact hW | refine Below.setCell ?_ (by simp) _))
  · have hT : (t.toList == [116, 114, 117, 101]) = false := beq_eq_false_iff_ne.2 h1
    have HN := Lib.hid (HV.out.trans (if_neg h1))
    have HT : Hid (valT s.syms 2 t.toList = ⟨2, 0⟩) := Lib.hid (by rw [valT2, if_neg h1])
    by_cases h2 : t.toList = tFalse
    · have hF : (t.toList == [102, 97, 108, 115, 101]) = true := by rw [h2]; exact beq_self_eq_true _
      have HN2 := Lib.hid (HN.out.trans (if_pos h2))
      clear h1 h2 HV HN
      go_enter Tryz.func14, Tryz.ntmps14
      go_upto_region 6 with fail
      generalize (w.alloc (.cells #[.slice s.ta s.types.length s.tc, .slice s.sa s.syms.length s.sc] 33)).alloc (.cells #[.int .i64 0, .int .u64 0] 57) = W at *
      go_wp2
      refine bodyPost_ret (v := .tuple #[.agg #[.int .i64 2, .int .u64 0], .bool true]) (by simp [results, Tryz.results14, go_sem, d0, d1]) rfl ?_
      exact read_is (v := ⟨2, 0⟩) HT.out (by rw [HN2.out]; rfl) (by repeat (first | exact hW | refine Below.setCell ?_ (by simp) _))
    · have hF : (t.toList == [102, 97, 108, 115, 101]) = false := beq_eq_false_iff_ne.2 h2
      have HN2 := Lib.hid (HN.out.trans (if_neg h2))
      clear h1 h2 HV HN
      go_enter Tryz.func14, Tryz.ntmps14
      go_upto_region 6 with fail
      generalize (w.alloc (.cells #[.slice s.ta s.types.length s.tc, .slice s.sa s.syms.length s.sc] 33)).alloc (.cells #[.int .i64 0, .int .u64 0] 57) = W at *
      go_wp2
      refine bodyPost_ret (v := .tuple #[.agg #[.int .i64 2, .int .u64 0], .bool false]) (by simp [results, Tryz.results14, go_sem, d0, d1]) rfl ?_
      exact read_is (v := ⟨2, 0⟩) HT.out (by rw [HN2.out]; rfl) (by repeat (first | exact hW | refine Below.setCell ?_ (by simp) _))
set_option maxRecDepth 100000 in
set_option maxHeartbeats 1000000 in
theorem read_real (s : SchemaV) (t : ByteArray) (w : World) :
    Calls Tryz.prog 14 #[s.val, .int .i64 4, .string t] w (ReadIs s.syms 4 t.toList w) := by
  have hW : Below w.heap.size w ((w.alloc (.cells #[.slice s.ta s.types.length s.tc, .slice s.sa s.syms.length s.sc] 33)).alloc (.cells #[.int .i64 0, .int .u64 0] 57)) := ((Below.refl _ _).alloc (Nat.le_refl _) _).alloc (by simp) _
  have k0 := Bk.newAt (w := w.alloc (.cells #[.slice s.ta s.types.length s.tc, .slice s.sa s.syms.length s.sc] 33)) (g := w.heap.size + 1) (by simp) 57 #[.int .i64 0, .int .u64 0]
  have HF := Lib.hid (pparse_any t ((w.alloc (.cells #[.slice s.ta s.types.length s.tc, .slice s.sa s.syms.length s.sc] 33)).alloc (.cells #[.int .i64 0, .int .u64 0] 57)))
  have HO : Hid ((valP s.syms 4 t.toList).isSome = (hexR t.toList).isSome) := Lib.hid (by rw [valP4, Option.isSome_map])
  have HT := Lib.hid (valT4 s.syms t.toList)
  unfold HexIs at HF
  generalize (hexR t.toList).getD 0 = a at *
  generalize (hexR t.toList).isSome = ok at *
  unfold SchemaV.val
  go_enter Tryz.func14, Tryz.ntmps14
  go_wp2_with fail
  refine HF.out.mono ?_
  rintro r w2 ⟨rfl, hb2⟩
  have hbe := hW.trans (hb2.mono hW.size)
  have k1 := k0.old hb2
  have d0 := k1.cell 0
  have d1 := k1.cell 1
  have f0 := k1.frozen 0
  have f1 := k1.frozen 1
  clear HF k0 hb2 hW
  go_wp2
  refine bodyPost_ret (v := .tuple #[.agg #[.int .i64 4, .int .u64 a], .bool ok]) (by simp [results, Tryz.results14, go_sem, d0, d1]) rfl ?_
  exact read_is (v := ⟨4, a⟩) HT.out HO.out (by repeat (first | exact hbe | refine Below.setCell ?_ (by simp) _))
end Go.Proofs.YtpakcicbojbonaaGreatDoor
