/- Contracts of the plain functions of layer 3: words, letters, signs. No conditions. -/
import Derived.Test.YtpakcicbojbonaaGreatDoorBase
import Derived.WalkKit
import Derived.WalkLawsBesides
import Derived.BigQuiet
namespace Go.Proofs.YtpakcicbojbonaaGreatDoor
set_option maxRecDepth 10000
open Go.RowKit

def letterB (c : Int) : Bool := decide (97 ≤ c ∧ c ≤ 122 ∨ 65 ≤ c ∧ c ≤ 90)
def digitB (c : Int) : Bool := decide (48 ≤ c ∧ c ≤ 57)
def sortZ (c : Int) : Int := if 97 ≤ c ∧ c ≤ 122 then 0 else if 65 ≤ c ∧ c ≤ 90 then 1 else if 48 ≤ c ∧ c ≤ 57 then 2 else if c = 95 then 3 else 4

def wordsL : List (List UInt8) := [[80, 65, 84, 84, 69, 82, 78], [83, 69, 81], [87, 72, 69, 82, 69], [83, 84, 82, 65, 84, 69, 71, 89], [87, 73, 84, 72, 73, 78], [80, 65, 82, 84, 73, 84, 73, 79, 78], [66, 89], [83, 84, 82, 73, 67, 84], [78, 69, 88, 84], [65, 78, 89], [65, 78, 68], [79, 82], [78, 79, 84], [84, 82, 85, 69], [70, 65, 76, 83, 69], [84, 73, 77, 69], [82, 69, 65, 76], [73, 83, 78, 65, 78], [67, 79, 85, 78, 84], [70, 73, 82, 83, 84], [76, 65, 83, 84], [83, 85, 77], [77, 73, 78], [77, 65, 88], [77, 69, 65, 78]]
def wordB (l : List UInt8) : Bool := wordsL.any (l == ·)


theorem letter_any (c : Int) (w : World) :
    Calls Tryz.prog 79 #[.int .u8 c] w fun e w' => e = .returned (.bool (letterB c)) ∧ w = w' := by
  by_cases a1 : 97 ≤ c <;> by_cases a2 : c ≤ 122 <;> by_cases a3 : 65 ≤ c <;> by_cases a4 : c ≤ 90 <;>
  (go_enter Tryz.func79, Tryz.ntmps79
   go_wp2
   all_goals go_ret
   all_goals (refine ⟨?_, rfl⟩)
   all_goals (congr 2; simp [letterB] <;> omega))

theorem digit_any (c : Int) (w : World) :
    Calls Tryz.prog 39 #[.int .u8 c] w fun e w' => e = .returned (.bool (digitB c)) ∧ w = w' := by
  by_cases a1 : 48 ≤ c <;> by_cases a2 : c ≤ 57 <;>
  (go_enter Tryz.func39, Tryz.ntmps39
   go_wp2
   all_goals go_ret
   all_goals (refine ⟨?_, rfl⟩)
   all_goals (congr 2; simp [digitB] <;> omega))

theorem sort_any (c : Int) (w : World) :
    Calls Tryz.prog 69 #[.int .i32 c] w fun e w' => e = .returned (.int .i64 (sortZ c)) ∧ w = w' := by
  by_cases a1 : 97 ≤ c <;> by_cases a2 : c ≤ 122 <;> by_cases a3 : 65 ≤ c <;> by_cases a4 : c ≤ 90 <;> by_cases a5 : 48 ≤ c <;> by_cases a6 : c ≤ 57 <;> by_cases a7 : c = 95 <;> first
  | (exfalso; omega)
  | (go_enter Tryz.func69, Tryz.ntmps69
     go_wp2
     all_goals go_ret
     all_goals (refine ⟨?_, rfl⟩)
     all_goals (refine congrArg (fun z => Ending.returned (.int .i64 z)) ?_; unfold sortZ; repeat (first | rw [if_pos (by omega)] | rw [if_neg (by omega)])))


theorem word_any (s : ByteArray) (w : World) :
    Calls Tryz.prog 68 #[.string s] w fun e w' => e = .returned (.bool (wordB s.toList)) ∧ w = w' := by
  go_enter Tryz.func68, Tryz.ntmps68
  go_wp2
  all_goals go_ret
  all_goals (refine ⟨ret_bool (b := wordB s.toList) ?_, rfl⟩)
  all_goals (first | (exfalso; simp_all; done) | (simp [wordB, wordsL, *]; done))

end Go.Proofs.YtpakcicbojbonaaGreatDoor
