/- Contracts of the functions of layer 3 that go through lists. No conditions. -/
import Derived.Test.YtdgblfcfojadcaaBase
import Derived.Test.YtdgblfcfojadcaaSchA
namespace Go.Proofs.Ytdgblfcfojadcaa
open Go.RowKit

/-- The first place of a text in a list; -1. -/
def atFrom (s : List UInt8) : Nat → List (List UInt8) → Int
  | _, [] => -1
  | k, x :: l => if x == s then k else atFrom s (k + 1) l

theorem at_any (A : Option Addr) (c : Nat) (l : List ByteArray) (s : ByteArray) (B : Nat) (w : World) (h : Rd w B A (l.map .string)) (hm : l.length ≤ maxLen) :
    Calls Try.prog 21 #[.slice A l.length c, .string s] w fun e w' => e = .returned (.int .i64 (atFrom s.toList 0 (l.map (·.toList)))) ∧ w = w' := by
  unfold maxLen at hm
  go_enter Try.func21, Try.ntmps21
  go_wp2
  go_loop [4, 5, 6, 9] (fun _ _ _ i => ∃ k : Nat, k ≤ l.length ∧ i = .int .i64 k ∧ Hid (atFrom s.toList 0 (l.map (·.toList)) = atFrom s.toList k ((l.drop k).map (·.toList)))) (fun _ _ _ i => l.length - (intOf i).toNat)
  case atStart => exact ⟨0, Nat.zero_le _, rfl, rfl⟩
  case round =>
    obtain ⟨k, hk, rfl, hrec⟩ := hrel
    by_cases hlt : k < l.length
    · obtain ⟨b, o, rfl, hb, hc⟩ := h.at_ (j := k) (by simpa using hlt)
      have hc1 : w.cell? ⟨b, o + k, none⟩ = some (.string l[k]) := hc k _ (by simp [hlt])
      have hd : l.drop k = l[k] :: l.drop (k + 1) := List.drop_eq_getElem_cons hlt
      rw [hd] at hrec
      clear hc hd
      go_wp2
      · go_ret
        refine ⟨ret_int ?_, rfl⟩
        have ht : (l[k].toList == s.toList) = true := by assumption
        rw [hrec.out, List.map_cons, atFrom, if_pos ht]
      · have ht : (l[k].toList == s.toList) = false := by assumption
        go_round
        case rel => exact ⟨k + 1, by omega, by go_num, by rw [hrec.out, List.map_cons, atFrom, ht]; rfl⟩
        case measure => simp [intOf]; omega
    · go_wp2
      go_ret
      refine ⟨ret_int ?_, rfl⟩
      rw [hrec.out, List.drop_eq_nil_of_le (by omega)]; rfl
end Go.Proofs.Ytdgblfcfojadcaa
