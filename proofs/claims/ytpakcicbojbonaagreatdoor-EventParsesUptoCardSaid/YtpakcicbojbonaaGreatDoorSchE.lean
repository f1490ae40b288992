/- Contracts of Words, Word and Name of layer 3, the document's and the program's. No conditions. -/
import Derived.Test.YtpakcicbojbonaaGreatDoorSchA
import Derived.Test.YtpakcicbojbonaaGreatDoorMem
namespace Go.Proofs.YtpakcicbojbonaaGreatDoor
set_option maxRecDepth 10000
open Go.RowKit

def wordsS : List ByteArray := [⟨#[80, 65, 84, 84, 69, 82, 78]⟩, ⟨#[83, 69, 81]⟩, ⟨#[87, 72, 69, 82, 69]⟩, ⟨#[83, 84, 82, 65, 84, 69, 71, 89]⟩, ⟨#[87, 73, 84, 72, 73, 78]⟩, ⟨#[80, 65, 82, 84, 73, 84, 73, 79, 78]⟩, ⟨#[66, 89]⟩, ⟨#[83, 84, 82, 73, 67, 84]⟩, ⟨#[78, 69, 88, 84]⟩, ⟨#[65, 78, 89]⟩, ⟨#[65, 78, 68]⟩, ⟨#[79, 82]⟩, ⟨#[78, 79, 84]⟩, ⟨#[84, 82, 85, 69]⟩, ⟨#[70, 65, 76, 83, 69]⟩, ⟨#[84, 73, 77, 69]⟩, ⟨#[82, 69, 65, 76]⟩, ⟨#[73, 83, 78, 65, 78]⟩, ⟨#[67, 79, 85, 78, 84]⟩, ⟨#[70, 73, 82, 83, 84]⟩, ⟨#[76, 65, 83, 84]⟩, ⟨#[83, 85, 77]⟩, ⟨#[77, 73, 78]⟩, ⟨#[77, 65, 88]⟩, ⟨#[77, 69, 65, 78]⟩]
def wordVals : Array Value := (wordsS.map Value.string).toArray
theorem wordsS_list : wordsS.map (·.toList) = wordsL := by
  simp only [wordsS, wordsL, List.map_cons, List.map_nil, ByteArray.toList_eq]

theorem words_any (w : World) : Calls Tryz.prog 98 #[] w fun e w' => e = .returned (.slice (some ⟨w.heap.size, 0, none⟩) 25 25) ∧ Rd w' (w.heap.size + 1) (some ⟨w.heap.size, 0, none⟩) (wordsS.map Value.string) ∧ Below w.heap.size w w' := by
  go_enter Tryz.func98, Tryz.ntmps98
  go_wp2
  go_ret
  exact ⟨rfl, Rd.lit rfl wordVals _, (Below.refl _ _).alloc (Nat.le_refl _) _⟩

def inFrom (s : List UInt8) : List (List UInt8) → Bool
  | [] => false
  | x :: l => if x == s then true else inFrom s l
theorem inFrom_any (s : List UInt8) (l : List (List UInt8)) : inFrom s l = l.any (s == ·) := by
  induction l with
  | nil => rfl
  | cons x l ih =>
    rw [inFrom, List.any_cons, ← ih, show (s == x) = (x == s) from by rw [Bool.eq_iff_iff, beq_iff_eq, beq_iff_eq]; exact eq_comm]
    cases (x == s) <;> rfl

theorem rword_any (s : ByteArray) (w : World) :
    Calls Tryz.prog 80 #[.string s] w fun e w' => e = .returned (.bool (wordB s.toList)) ∧ Below w.heap.size w w' := by
  have hfin : wordB s.toList = inFrom s.toList (wordsS.map (·.toList)) := by rw [wordsS_list, inFrom_any]; rfl
  rw [hfin]
  have HF := Lib.hid hfin; clear hfin
  go_enter Tryz.func80, Tryz.ntmps80
  go_wp2_with (go_at_call 98; refine (words_any _).mono ?_; rintro e w1 ⟨rfl, hr, hbel⟩)
  have hl : wordsS.length = 25 := rfl
  have HL := Lib.hid hl; clear hl
  go_loop [7] (fun i => ∃ k : Nat, k ≤ 25 ∧ i = .int .i64 k ∧ Hid (inFrom s.toList (wordsS.map (·.toList)) = inFrom s.toList ((wordsS.drop k).map (·.toList)))) (fun i => 25 - (intOf i).toNat)
  case atStart => exact ⟨0, Nat.zero_le _, rfl, rfl⟩
  case round =>
    obtain ⟨k, hk, rfl, hrec⟩ := hrel
    by_cases hlt : k < 25
    · have hlt' : k < wordsS.length := by rw [HL.out]; exact hlt
      obtain ⟨b, o, hA, hb, hc⟩ := hr.elem1 hlt'
      injection hA with hA
      injection hA with hA1 hA2
      subst hA1; subst hA2
      rw [Nat.zero_add] at hc
      rw [List.drop_eq_getElem_cons hlt'] at hrec
      generalize hW : wordsS[k] = W at *
      have HW := Lib.hid hW; clear hW
      go_wp2
      · go_ret
        have ht : (W.toList == s.toList) = true := by assumption
        refine ⟨ret_bool ?_, hbel⟩
        rw [hrec.out, List.map_cons, inFrom, if_pos ht]
      · have ht : (W.toList == s.toList) = false := by assumption
        go_round
        case rel => exact ⟨k + 1, by omega, by go_num, by rw [hrec.out, List.map_cons, inFrom, ht]; rfl⟩
        case measure => simp [intOf]; omega
    · go_wp2
      go_ret
      refine ⟨ret_bool ?_, hbel⟩
      rw [hrec.out, List.drop_eq_nil_of_le (by rw [HL.out]; omega)]; rfl
end Go.Proofs.YtpakcicbojbonaaGreatDoor
