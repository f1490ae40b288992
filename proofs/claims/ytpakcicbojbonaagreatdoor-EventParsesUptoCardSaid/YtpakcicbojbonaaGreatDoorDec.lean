/- Contract of the document's Decimal: a whole number's digits. No conditions. -/
import Derived.Test.YtpakcicbojbonaaGreatDoorMem
import Derived.Lib.ItoaNum
import Derived.WalkSpells
import Derived.IntWalk
import Derived.Lib.AppendIntMem
namespace Go.Proofs.YtpakcicbojbonaaGreatDoor
open Go.RowKit
set_option linter.unusedVariables false
set_option linter.unusedSimpArgs false

def bytes (l : List UInt8) : ByteArray := ⟨l.toArray⟩
theorem bytes_size (l : List UInt8) : (bytes l).size = l.length := by simp [bytes, ByteArray.size]
theorem bytes_list (l : List UInt8) : (bytes l).toList = l := by simp [bytes, ByteArray.toList_eq]
theorem cat_bytes (a b : ByteArray) : a ++ b = bytes (a.toList ++ b.toList) := by
  apply ByteArray.ext
  simp [bytes, ByteArray.toList_eq]
def dgt (d : Nat) : UInt8 := UInt8.ofNat (48 + d)
theorem dec_small (u : Nat) (h : u < 10) : Lib.decDigits u = [dgt u] := by unfold dgt; rw [Lib.decDigits, dif_pos h]
theorem dec_more (u : Nat) (h : ¬ u < 10) : Lib.decDigits u = Lib.decDigits (u / 10) ++ [dgt (u % 10)] := by unfold dgt; rw [Lib.decDigits, dif_neg h]

theorem cv_byte (w : World) (z : Int) (d : Nat) (hz : z = 48 + (d : Int)) (hd : d < 10) :
    (convert 97 9 (.slice (some ⟨w.heap.size, 0, none⟩) 1 1)).run Tryz.prog (w.alloc (.cells #[.int .u8 z] 5)) = .ok (.string (bytes [dgt d])) (w.alloc (.cells #[.int .u8 z] 5)) := by
  subst hz
  refine run_convert_bytes_back _ 97 9 5 ⟨w.heap.size, 0, none⟩ 1 [dgt d] Tryz.underlying97 Tryz.underlying5 Tryz.underlying9 ?_
  intro j hj
  obtain rfl : j = 0 := by simpa using hj
  have h := (Bk.new w 5 #[.int .u8 (48 + (d : Int))]).cell 0
  show World.cell? _ ⟨w.heap.size, 0, none⟩ = _
  rw [h]
  have e : (dgt d).toNat = 48 + d := by unfold dgt; rw [UInt8.toNat_ofNat']; omega
  show some (Value.int .u8 (48 + (d : Int))) = some (Value.int .u8 ((dgt d).toNat : Int))
  rw [e]; rfl
set_option maxRecDepth 100000 in
set_option maxHeartbeats 2000000 in
theorem dec_pos (n : Nat) (hn : n ≤ 9223372036854775807) (w : World) :
    Calls Tryz.prog 40 #[.int .i64 n] w fun e w' => e = .returned (.string (bytes (Lib.decDigits n))) ∧ Below w.heap.size w w' := by
  have hnI : (n : Int) ≤ 9223372036854775807 := by omega
  have hn0 : (0 : Int) ≤ (n : Int) := by omega
  go_enter Tryz.func40, Tryz.ntmps40
  go_wp2
  go_loopw [3, 4] (fun s m wr => ∃ (k : Nat) (l : List UInt8), s = .string (bytes l) ∧ m = .int .u64 k ∧ 9 * l.length + k ≤ n ∧ (l = [] ∨ 1 ≤ k) ∧ Below w.heap.size w wr ∧ Hid (Lib.decDigits n = Lib.decDigits k ++ l)) (fun _ m _ => (intOf m).toNat)
  case atStart => exact ⟨n, [], rfl, rfl, by simp, .inl rfl, Below.refl _ _, Lib.hid (by simp)⟩
  case round =>
    obtain ⟨k, l, rfl, rfl, hkl, hk1, hbel, hrec⟩ := hrel
    have hll : l.length + 10 ≤ 9223372036854775807 := by omega
    clear hk1
    by_cases h9 : 9 < k
    · have hcv := cv_byte wr (48 + (k : Int) % 10) (k % 10) (by omega) (by omega)
      have hsum : ¬ 9223372036854775807 < (bytes [dgt (k % 10)]).size + (bytes l).size := by rw [bytes_size, bytes_size]; simp; omega
      have hcat : bytes [dgt (k % 10)] ++ bytes l = bytes (dgt (k % 10) :: l) := by rw [cat_bytes, bytes_list, bytes_list]; rfl
      have hnx : Lib.decDigits n = Lib.decDigits (k / 10) ++ dgt (k % 10) :: l := by rw [hrec.out, dec_more k (by omega)]; simp
      have HNX := Lib.hid hnx
      clear hrec hnx
      go_wp2
      go_roundw
      case rel => exact ⟨k / 10, dgt (k % 10) :: l, rfl, by go_num, by simp; omega, .inr (by omega), hbel.alloc hbel.size _, HNX⟩
      case measure => simp [intOf]; omega
    · have hcv := cv_byte wr (48 + (k : Int)) k (by omega) (by omega)
      have hsum : ¬ 9223372036854775807 < (bytes [dgt k]).size + (bytes l).size := by rw [bytes_size, bytes_size]; simp; omega
      have hcat : bytes [dgt k] ++ bytes l = bytes (dgt k :: l) := by rw [cat_bytes, bytes_list, bytes_list]; rfl
      have hnx : Lib.decDigits n = dgt k :: l := by rw [hrec.out, dec_small k (by omega)]; rfl
      have HNX := Lib.hid hnx
      clear hrec hnx
      go_wp2
      go_ret
      exact ⟨by rw [HNX.out]; rfl, hbel.alloc hbel.size _⟩

set_option maxRecDepth 100000 in
set_option maxHeartbeats 2000000 in
theorem dec_neg (n : Int) (h0 : n < 0) (hn : -9223372036854775808 ≤ n) (w : World) :
    Calls Tryz.prog 40 #[.int .i64 n] w fun e w' => e = .returned (.string (bytes (45 :: Lib.decDigits n.natAbs))) ∧ Below w.heap.size w w' := by
  obtain ⟨N, rfl⟩ : ∃ N : Nat, n = -(N : Int) := ⟨n.natAbs, by omega⟩
  have hN : N ≤ 9223372036854775808 := by omega
  have hN0 : 0 < N := by omega
  rw [show (-(N : Int)).natAbs = N from by omega]
  have hw1 : IntKind.u64.wrap (-(N : Int)) = 18446744073709551616 - (N : Int) := by
    have e : IntKind.u64.wrap (-(N : Int)) = (-(N : Int)) % 18446744073709551616 := by rfl
    rw [e]; omega
  have hw2 : IntKind.u64.wrap (-(18446744073709551616 - (N : Int))) = (N : Int) := by
    have e : IntKind.u64.wrap (-(18446744073709551616 - (N : Int))) = (-(18446744073709551616 - (N : Int))) % 18446744073709551616 := by rfl
    rw [e]; omega
  go_enter Tryz.func40, Tryz.ntmps40
  go_wp2
  go_loopw [3, 4] (fun s m wr => ∃ (k : Nat) (l : List UInt8), s = .string (bytes l) ∧ m = .int .u64 k ∧ 9 * l.length + k ≤ N ∧ (l = [] ∨ 1 ≤ k) ∧ Below w.heap.size w wr ∧ Hid (Lib.decDigits N = Lib.decDigits k ++ l)) (fun _ m _ => (intOf m).toNat)
  case atStart => exact ⟨N, [], rfl, rfl, by simp, .inl rfl, Below.refl _ _, Lib.hid (by simp)⟩
  case round =>
    obtain ⟨k, l, rfl, rfl, hkl, hk1, hbel, hrec⟩ := hrel
    have hll : l.length + 10 ≤ 9223372036854775807 := by omega
    clear hk1
    by_cases h9 : 9 < k
    · have hcv := cv_byte wr (48 + (k : Int) % 10) (k % 10) (by omega) (by omega)
      have hsum : ¬ 9223372036854775807 < (bytes [dgt (k % 10)]).size + (bytes l).size := by rw [bytes_size, bytes_size]; simp; omega
      have hcat : bytes [dgt (k % 10)] ++ bytes l = bytes (dgt (k % 10) :: l) := by rw [cat_bytes, bytes_list, bytes_list]; rfl
      have hnx : Lib.decDigits N = Lib.decDigits (k / 10) ++ dgt (k % 10) :: l := by rw [hrec.out, dec_more k (by omega)]; simp
      have HNX := Lib.hid hnx
      clear hrec hnx
      go_wp2
      go_roundw
      case rel => exact ⟨k / 10, dgt (k % 10) :: l, rfl, by go_num, by simp; omega, .inr (by omega), hbel.alloc hbel.size _, HNX⟩
      case measure => simp [intOf]; omega
    · have hcv := cv_byte wr (48 + (k : Int)) k (by omega) (by omega)
      have hsum : ¬ 9223372036854775807 < (bytes [dgt k]).size + (bytes l).size := by rw [bytes_size, bytes_size]; simp; omega
      have hcat : bytes [dgt k] ++ bytes l = bytes (dgt k :: l) := by rw [cat_bytes, bytes_list, bytes_list]; rfl
      have hnx : Lib.decDigits N = dgt k :: l := by rw [hrec.out, dec_small k (by omega)]; rfl
      have HNX := Lib.hid hnx
      clear hrec hnx
      have hcat2 : (⟨#[45]⟩ : ByteArray) ++ bytes (dgt k :: l) = bytes (45 :: dgt k :: l) := by rw [cat_bytes, bytes_list, ByteArray.toList_eq (bs := ⟨#[45]⟩)]; rfl
      have hsum2 : ¬ 9223372036854775807 < 1 + (bytes (dgt k :: l)).size := by rw [bytes_size]; simp; omega
      go_wp2
      go_ret
      exact ⟨by rw [HNX.out]; rfl, hbel.alloc hbel.size _⟩
theorem dec_any (n : Int) (h : -9223372036854775808 ≤ n ∧ n ≤ 9223372036854775807) (w : World) :
    Calls Tryz.prog 40 #[.int .i64 n] w fun e w' => e = .returned (.string (bytes (Lib.itoa n))) ∧ Below w.heap.size w w' := by
  unfold Lib.itoa
  by_cases h0 : n < 0
  · rw [if_pos h0]
    exact dec_neg n h0 h.1 w
  · rw [if_neg h0]
    obtain ⟨N, rfl⟩ : ∃ N : Nat, n = N := ⟨n.toNat, by omega⟩
    exact dec_pos N (by omega) w
end Go.Proofs.YtpakcicbojbonaaGreatDoor
