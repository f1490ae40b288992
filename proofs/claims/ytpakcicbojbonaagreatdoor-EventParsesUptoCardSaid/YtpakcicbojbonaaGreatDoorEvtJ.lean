/- Layer 4: the text of bits, by the program and by the document. No conditions. -/
import Derived.Test.YtpakcicbojbonaaGreatDoorEvtP
import Derived.Laws.ShiftsVarLaws
namespace Go.Proofs.YtpakcicbojbonaaGreatDoor
open Go.RowKit
set_option maxRecDepth 10000
set_option linter.unusedVariables false
set_option linter.unusedSimpArgs false

theorem infoU8 : (Tryz.prog.info? 5).map (fun i => (i.zero, i.size, i.bytes)) = some (some (.int .u8 0), 1, 1) := by kernel_rfl
theorem and_15 (a : Nat) (h : a < 18446744073709551616) : bits .and .u64 (a : Int) 15 = ((a % 16 : Nat) : Int) := by
  have := u64_and_nat a 15 h (by omega)
  rw [show ((15 : Nat) : Int) = 15 from rfl] at this
  rw [this, show 15 = 2 ^ 4 - 1 from by decide, Nat.and_two_pow_sub_one_eq_mod]
theorem shr_hex (a j : Nat) (hj : j < 16) : (a : Int) / 2 ^ (60 - 4 * j) = ((a / 16 ^ (15 - j) : Nat) : Int) := by
  have e : 60 - 4 * j = 4 * (15 - j) := by omega
  rw [e, show (16 : Nat) = 2 ^ 4 from rfl, ← Nat.pow_mul]
  norm_cast
theorem hexN_get (a : Nat) : ∀ (k j : Nat) (h : j < k), (hexN a k)[j]? = some (hexD (a / 16 ^ (k - 1 - j) % 16))
  | k + 1, 0, _ => by simp [hexN]
  | k + 1, j + 1, h => by
    have := hexN_get a k j (by omega)
    simp only [hexN, List.getElem?_cons_succ, this]
    congr 5; omega
theorem realL_take (a j : Nat) (hj : j < 16) : (realL a).take (j + 2) = (realL a).take (j + 1) ++ [hexD (canonN a / 16 ^ (15 - j) % 16)] := by
  have h := hexN_get (canonN a) 16 j hj
  have hl := hexN_len (canonN a) 16
  unfold realL
  rw [List.take_succ_cons, List.take_succ_cons, List.take_add_one, h]
  simp
def hexS : ByteArray := ⟨#[48, 49, 50, 51, 52, 53, 54, 55, 56, 57, 97, 98, 99, 100, 101, 102]⟩
theorem hexS_at : ∀ (d : Nat) (h : d < 16), (hexS[d]'h) = hexD d
  | 0, _ => rfl
  | 1, _ => rfl
  | 2, _ => rfl
  | 3, _ => rfl
  | 4, _ => rfl
  | 5, _ => rfl
  | 6, _ => rfl
  | 7, _ => rfl
  | 8, _ => rfl
  | 9, _ => rfl
  | 10, _ => rfl
  | 11, _ => rfl
  | 12, _ => rfl
  | 13, _ => rfl
  | 14, _ => rfl
  | 15, _ => rfl
  | n + 16, h => absurd h (by omega)
set_option maxRecDepth 100000 in
set_option maxHeartbeats 1000000 in
theorem ptext_any (a : Nat) (ha : a < 18446744073709551616) (w : World) :
    Calls Tryz.prog 63 #[.int .u64 a] w fun e w' => e = .returned (.string (bytes (realL a))) ∧ Below w.heap.size w w' := by
  obtain ⟨iU, hU, hU0, hU1, hU2⟩ := info_parts infoU8
  have HC := Lib.hid (canon_any a ha)
  have hcl := canonN_lt a ha
  have HT := Lib.hid (realL_take a)
  have HL : Hid ((realL a).length = 17) := Lib.hid (by unfold realL; rw [List.length_cons, hexN_len])
  have HA : Hid (∀ j : Nat, j < 16 → ((canonN a : Int) / 2 ^ (60 - 4 * j) = ((canonN a / 16 ^ (15 - j) : Nat) : Int) ∧ bits .and .u64 ((canonN a / 16 ^ (15 - j) : Nat) : Int) 15 = ((canonN a / 16 ^ (15 - j) % 16 : Nat) : Int))) := Lib.hid fun j hj => ⟨shr_hex _ j hj, and_15 _ (Nat.lt_of_le_of_lt (Nat.div_le_self _ _) hcl)⟩
  go_enter Tryz.func63, Tryz.ntmps63
  have own0 := World.ownsRow_lit (base := w.heap.size) (e := 5) (size := 1) w #[.int .u8 35] 1 (Nat.le_refl _) (by decide) rfl
  have hb0 : Below w.heap.size w (w.alloc (.cells #[.int .u8 35] 5)) := (Below.refl _ _).alloc (Nat.le_refl _) _
  go_wp2
  generalize canonN a = C at *
  go_loopw [3, 4] (fun b i wr => ∃ (j : Nat) (A : Option Addr) (c : Nat), j ≤ 16 ∧ b = .slice A (j + 1) c ∧ i = .int .i64 (60 - 4 * (j : Int)) ∧ Below w.heap.size w wr ∧ wr.ownsRow w.heap.size 5 1 (.slice A (j + 1) c) (j + 1) (Lib.byteCells ((realL a).take (j + 1)))) (fun _ i _ => (intOf i + 4).toNat)
  case atStart => exact ⟨0, _, 1, by omega, rfl, rfl, hb0, own0⟩
  case round =>
    clear hb0 own0
    obtain ⟨j, A, c, hj, rfl, rfl, hbel, hown⟩ := hrel
    by_cases hlt : j < 16
    · as_aux_lemma =>
      have hjI : 4 * (j : Int) ≤ 60 := by omega
      have hjN : 4 * j ≤ 60 := by omega
      obtain ⟨hsh, hand⟩ := HA.out j hlt
      have HT2 := Lib.hid (HT.out j hlt)
      generalize C / 16 ^ (15 - j) = S at *
      have hd : S % 16 < 16 := Nat.mod_lt _ (by omega)
      generalize S % 16 = d at *
      have hd1 : (0 : Int) ≤ (d : Int) := by omega
      have hd2 : (d : Int) < 16 := by omega
      go_wp2_with fail
      refine (HC.out wr).mono ?_
      rintro r w2 ⟨rfl, rfl⟩
      have hX : ((⟨#[48, 49, 50, 51, 52, 53, 54, 55, 56, 57, 97, 98, 99, 100, 101, 102]⟩ : ByteArray)[d]'hd).toNat = (hexD d).toNat := congrArg UInt8.toNat (hexS_at d hd)
      have hzE : w.heap.size ≤ (wr.alloc (.cells #[.int .u8 ((hexD d).toNat : Int)] 5)).heap.size := by have := hbel.size; simp; omega
      go_upto_region 4 with (at_builtin; refine wpList_append_rd (by rfl) _ _ 97 (by rfl) w.heap.size 5 iU _ 1 1 Tryz.underlying97 hU hU0 hU1 hU2 rfl (by decide) (.slice A (j + 1) c) (j + 1) _ (by rfl) (hown.alloc _) (wr.heap.size + 1) (some ⟨wr.heap.size, 0, none⟩) 1 1 [.int .u8 ((hexD d).toNat : Int)] (by rfl) (Rd.lit rfl _ _) (by rfl) ?c2 ?c3 ?c4 hzE ?_)
      case c2 => intro u hu; simp at hu; subst hu; rfl
      case c3 => unfold maxLen; omega
      case c4 => omega
      intro A3 c3 w3 hown3 hg3 _
      have hbel3 : Below w.heap.size w w3 := below_own (hbel.alloc hbel.size _) (hown.alloc _) (Nat.le_refl _) hg3 hzE
      have hown4 : w3.ownsRow w.heap.size 5 1 (.slice A3 (j + 1 + 1) c3) (j + 1 + 1) (Lib.byteCells ((realL a).take (j + 1 + 1))) := by
        rw [show j + 1 + 1 = j + 2 from rfl, HT2.out, Lib.byteCells_append]
        exact hown3
      clear hown3 hown hg3 hbel hzE hX hsh hand HT2
      go_wp2
      go_roundw
      case rel => exact ⟨j + 1, A3, c3, by omega, by first | rfl | trivial, by first | go_num | (congr 1; omega), hbel3, hown4⟩
      case measure => simp [intOf]; omega
    · as_aux_lemma =>
      obtain rfl : j = 16 := by omega
      rw [List.take_of_length_le (by rw [HL.out]; omega)] at hown
      obtain ⟨g, hA⟩ : ∃ g, A = some ⟨g, 0, none⟩ := by
        rcases hown.2 with ⟨_, h⟩ | ⟨g, cap, cur, hv, _⟩
        · cases h
        · exact ⟨g, by injection hv⟩
      subst hA
      have hcv : (convert 97 9 (.slice (some ⟨g, 0, none⟩) 17 c)).run Tryz.prog wr = .ok (.string (bytes (realL a))) wr := by
        have h := run_convert_bytes_back (P := Tryz.prog) wr 97 9 5 ⟨g, 0, none⟩ c (realL a) Tryz.underlying97 Tryz.underlying5 Tryz.underlying9 (fun j hj => hown.cells (g := g) rfl j _ (by
          unfold Lib.byteCells
          rw [List.getElem?_map, List.getElem?_eq_getElem hj]; rfl))
        rw [HL.out] at h
        exact h
      clear hown
      go_wp2
      go_ret
      exact ⟨rfl, hbel⟩
theorem hexS_sub : ∀ (d : Nat), d < 16 → hexS.extract d (d + 1) = bytes [hexD d] := by decide +kernel
theorem text_real (s : SchemaV) (b : Nat) (hb : b < 18446744073709551616) (w : World) :
    Calls Tryz.prog 46 #[s.val, .agg #[.int .i64 4, .int .u64 b]] w fun e w' => e = .returned (.string (bytes (realL b))) ∧ Below w.heap.size w w' := by
  have hW : Below w.heap.size w ((w.alloc (.cells #[.slice s.ta s.types.length s.tc, .slice s.sa s.syms.length s.sc] 33)).alloc (.cells #[.int .i64 4, .int .u64 b] 57)) := ((Below.refl _ _).alloc (Nat.le_refl _) _).alloc (by simp) _
  have HF := Lib.hid (ptext_any b hb ((w.alloc (.cells #[.slice s.ta s.types.length s.tc, .slice s.sa s.syms.length s.sc] 33)).alloc (.cells #[.int .i64 4, .int .u64 b] 57)))
  have HW := Lib.hid hW
  clear hW
  unfold SchemaV.val
  go_enter Tryz.func46, Tryz.ntmps46
  go_wp2_with fail
  refine HF.out.mono ?_
  rintro e w2 ⟨rfl, hb2⟩
  have hb3 := HW.out.trans (hb2.mono HW.out.size)
  clear hb2 HF
  go_wp2
  go_ret
  exact ⟨rfl, hb3⟩
set_option maxRecDepth 100000 in
set_option maxHeartbeats 1000000 in
theorem rtext_any (a : Nat) (ha : a < 18446744073709551616) (w : World) :
    Calls Tryz.prog 43 #[.int .u64 a] w fun e w' => e = .returned (.string (bytes (realL a))) ∧ Below w.heap.size w w' := by
  have HC := Lib.hid (rcanon_any a ha)
  have hcl := canonN_lt a ha
  unfold realL
  generalize canonN a = C at *
  go_enter Tryz.func43, Tryz.ntmps43
  go_wp2_with fail
  refine (HC.out w).mono ?_
  rintro r w2 ⟨rfl, rfl⟩
  go_wp2
  go_loopw [0, 3, 4] (fun x s i wr => ∃ (k S : Nat) (l : List UInt8), k ≤ 16 ∧ x = .int .u64 S ∧ s = .string (bytes l) ∧ i = .int .i64 k ∧ Below w.heap.size w wr ∧ Hid (S = C / 16 ^ k ∧ l = hexN C k)) (fun _ _ i _ => 16 - (intOf i).toNat)
  case atStart => exact ⟨0, C, [], by omega, rfl, rfl, rfl, Below.refl _ _, Lib.hid ⟨by simp, rfl⟩⟩
  case round =>
    obtain ⟨k, S, l, hk, rfl, rfl, rfl, hbel, hinv⟩ := hrel
    have hll : l.length = k := by rw [hinv.out.2, hexN_len]
    by_cases hlt : k < 16
    · as_aux_lemma =>
      have hltI : (k : Int) < 16 := by omega
      have hd : S % 16 < 16 := Nat.mod_lt _ (by omega)
      have hS : S < 18446744073709551616 := by rw [hinv.out.1]; exact Nat.lt_of_le_of_lt (Nat.div_le_self _ _) hcl
      have HN : Hid (S / 16 = C / 16 ^ (k + 1) ∧ hexD (S % 16) :: l = hexN C (k + 1)) := Lib.hid ⟨by rw [hinv.out.1, Nat.div_div_eq_div_mul, ← Nat.pow_succ], by rw [hinv.out.1, hinv.out.2]; rfl⟩
      have hSI : (S : Int) % 16 = ((S % 16 : Nat) : Int) := by omega
      have hSQ : (S : Int) / 16 = ((S / 16 : Nat) : Int) := by omega
      clear hinv
      generalize S % 16 = d at *
      generalize S / 16 = q at *
      have hmin : ¬ 9223372036854775807 < min (d + 1) 16 - d + (bytes l).size := by rw [bytes_size]; omega
      have HX : Hid ((⟨#[48, 49, 50, 51, 52, 53, 54, 55, 56, 57, 97, 98, 99, 100, 101, 102]⟩ : ByteArray).extract d (d + 1) ++ bytes l = bytes (hexD d :: l)) := Lib.hid (by
        have h := hexS_sub d hd
        unfold hexS at h
        rw [h, cat_bytes, bytes_list, bytes_list]; rfl)
      go_wp2
      go_roundw
      case rel => exact ⟨k + 1, q, hexD d :: l, by omega, by first | rfl | trivial, by first | exact congrArg Value.string HX.out | (rw [HX.out]), by go_num, hbel, HN⟩
      case measure => simp [intOf]; omega
    · as_aux_lemma =>
      obtain rfl : k = 16 := by omega
      have hc : (⟨#[35]⟩ : ByteArray) ++ bytes l = bytes (35 :: l) := by rw [cat_bytes, bytes_list, ByteArray.toList_eq (bs := ⟨#[35]⟩)]; rfl
      have hs : ¬ 9223372036854775807 < 1 + (bytes l).size := by rw [bytes_size]; omega
      have HX := Lib.hid (congrArg (fun z => bytes (35 :: z)) hinv.out.2)
      clear hinv
      go_wp2
      go_ret
      exact ⟨by rw [← HX.out]; rfl, hbel⟩
end Go.Proofs.YtpakcicbojbonaaGreatDoor
