/- Contracts of Name of layer 3, the document's and the program's. No conditions. -/
import Derived.Test.YtpakcicbojbonaaGreatDoorSchE
namespace Go.Proofs.YtpakcicbojbonaaGreatDoor
set_option maxRecDepth 10000
open Go.RowKit

def okB (c : UInt8) : Bool := letterB c.toNat || digitB c.toNat || decide ((c.toNat : Int) = 95)
def firstB (l : List UInt8) : Bool := match l with | c :: _ => letterB c.toNat | [] => false
def nameB (l : List UInt8) : Bool := decide (1 ≤ l.length ∧ l.length ≤ 24) && (firstB l && (!wordB l && l.all okB))

theorem len_list (s : ByteArray) : s.toList.length = s.size := by rw [ByteArray.toList_eq, Array.length_toList]; rfl
theorem get_list (s : ByteArray) (k : Nat) (h : k < s.size) : s.toList[k]'(by rw [len_list]; exact h) = s[k] := by
  simp only [ByteArray.toList_eq]; rfl
theorem drop_list (s : ByteArray) (k : Nat) (h : k < s.size) : s.toList.drop k = s[k] :: s.toList.drop (k + 1) := by
  rw [List.drop_eq_getElem_cons (by rw [len_list]; exact h), get_list s k h]
theorem first_list (s : ByteArray) (h : 0 < s.size) : firstB s.toList = letterB s[0].toNat := by
  have := drop_list s 0 h
  rw [List.drop_zero] at this
  rw [this]; rfl
theorem name_long (l : List UInt8) (h : ¬ (1 ≤ l.length ∧ l.length ≤ 24)) : nameB l = false := by simp only [nameB, decide_eq_false h, Bool.false_and]
theorem name_first (l : List UInt8) (h : firstB l = false) : nameB l = false := by simp [nameB, h]
theorem name_word (l : List UInt8) (h : wordB l = true) : nameB l = false := by simp [nameB, h]
theorem name_all (l : List UInt8) (h : 1 ≤ l.length ∧ l.length ≤ 24) (h1 : firstB l = true) (h2 : wordB l = false) : nameB l = l.all okB := by simp [nameB, h, h1, h2]

theorem rname_any (s : ByteArray) (w : World) :
    Calls Tryz.prog 58 #[.string s] w fun e w' => e = .returned (.bool (nameB s.toList)) ∧ Below w.heap.size w w' := by
  by_cases h0 : 1 ≤ s.size ∧ s.size ≤ 24
  · have hpos : 0 < s.size := by omega
    cases hf : letterB s[0].toNat
    · rw [name_first _ ((first_list s hpos).trans hf)]
      go_enter Tryz.func58, Tryz.ntmps58
      go_wp2_with (go_at_call 79; refine (letter_any _ _).mono ?_; rintro e w' ⟨rfl, rfl⟩)
      go_ret
      exact ⟨rfl, Below.refl _ _⟩
    · have hf' : firstB s.toList = true := (first_list s hpos).trans hf
      cases hw : wordB s.toList
      · have hall := name_all s.toList (by rw [len_list]; exact h0) hf' hw
        have HA := Lib.hid hall; clear hall
        rw [HA.out]
        clear hf'
        go_enter Tryz.func58, Tryz.ntmps58
        go_wp2_with (first | (go_at_call 79; refine (letter_any _ _).mono ?_; rintro e w' ⟨rfl, rfl⟩) | (go_at_call 80; refine (rword_any _ _).mono ?_; rintro e w1 ⟨rfl, hbel⟩))
        clear hf hw
        go_loop [3] (fun i => ∃ k : Nat, k ≤ s.size ∧ i = .int .i64 k ∧ Hid (s.toList.all okB = (s.toList.drop k).all okB)) (fun i => s.size - (intOf i).toNat)
        case atStart => exact ⟨0, Nat.zero_le _, rfl, rfl⟩
        case round =>
          obtain ⟨k, hk, rfl, hrec⟩ := hrel
          by_cases hlt : k < s.size
          · rw [drop_list s k hlt, List.all_cons] at hrec
            generalize hr : (s.toList.drop (k + 1)).all okB = r at *
            have HR := Lib.hid hr; clear hr
            cases hL : letterB s[k].toNat <;> cases hD : digitB s[k].toNat <;> by_cases h95 : (s[k].toNat : Int) = 95
            all_goals cases hok : okB s[k]
            all_goals first | (exfalso; simp [okB, hL, hD, h95] at hok; done) | skip
            all_goals have HO := Lib.hid hok
            all_goals clear hok
            all_goals try (have h95' : ((s[k].toNat : Int) != 95) = false := by simp [h95])
            all_goals try (have h95' : ((s[k].toNat : Int) != 95) = true := by simp [h95])
            all_goals clear h95
            all_goals go_wp2_with (first | (go_at_call 79; refine (letter_any _ _).mono ?_; rintro e w' ⟨rfl, rfl⟩) | (go_at_call 39; refine (digit_any _ _).mono ?_; rintro e w' ⟨rfl, rfl⟩))
            all_goals first
              | (go_ret; refine ⟨ret_bool ?_, hbel⟩; rw [hrec.out, HO.out]; rfl; done)
              | (go_round
                 (case rel => exact ⟨k + 1, by omega, by go_num, by rw [hrec.out, HO.out, Bool.true_and]; exact HR.out.symm⟩)
                 (case measure => simp [intOf]; omega))
          · go_wp2
            go_ret
            refine ⟨ret_bool ?_, hbel⟩
            rw [hrec.out, List.drop_eq_nil_of_le (by rw [len_list]; omega)]; rfl
      · rw [name_word _ hw]
        go_enter Tryz.func58, Tryz.ntmps58
        go_wp2_with (first | (go_at_call 79; refine (letter_any _ _).mono ?_; rintro e w' ⟨rfl, rfl⟩) | (go_at_call 80; refine (rword_any _ _).mono ?_; rintro e w1 ⟨rfl, hbel⟩))
        go_ret
        exact ⟨rfl, hbel⟩
  · rw [name_long _ (by rw [len_list]; exact h0)]
    rcases (by omega : s.size < 1 ∨ 24 < s.size) with h | h
    · have e : s.size = 0 := by omega
      clear h0
      go_enter Tryz.func58, Tryz.ntmps58
      go_wp2
      go_ret
      exact ⟨rfl, Below.refl _ _⟩
    · clear h0
      go_enter Tryz.func58, Tryz.ntmps58
      go_wp2
      go_ret
      exact ⟨rfl, Below.refl _ _⟩

theorem sort_high (c : Int) (h : 128 ≤ c) : sortZ c = 4 := by
  unfold sortZ
  repeat rw [if_neg (by omega)]
theorem sort_range (c : Int) : 0 ≤ sortZ c ∧ sortZ c ≤ 4 := by
  unfold sortZ
  repeat' split
  all_goals omega
/-- What the sort of a byte says of it. -/
theorem sort_ok (c : UInt8) (h : c.toNat < 128) : okB c = decide (sortZ c.toNat ≠ 4) := by
  rw [Bool.eq_iff_iff]
  simp only [okB, letterB, digitB, sortZ, Bool.or_eq_true, decide_eq_true_eq]
  repeat' split
  all_goals constructor
  all_goals intro h
  all_goals first | omega | (exfalso; omega) | simp_all
theorem sort_letter (c : Int) : letterB c = decide (sortZ c ≤ 1) := by
  rw [Bool.eq_iff_iff]
  simp only [letterB, sortZ, decide_eq_true_eq]
  repeat' split
  all_goals constructor
  all_goals intro h
  all_goals first | omega | (exfalso; omega) | simp_all
theorem high_not (c : UInt8) (h : 128 ≤ c.toNat) : okB c = false ∧ letterB c.toNat = false := by
  constructor
  · rw [← Bool.not_eq_true]
    simp only [okB, letterB, digitB, Bool.or_eq_true, decide_eq_true_eq]
    omega
  · rw [← Bool.not_eq_true]
    simp only [letterB, decide_eq_true_eq]
    omega

/-- What is left to ask from a place on: at the first place a letter too. -/
def restB (l : List UInt8) (k : Nat) : Bool := (k != 0 || firstB l) && (l.drop k).all okB

theorem rest_stop (l : List UInt8) (p : Nat) (c : UInt8) (r : List UInt8) (hd : l.drop p = c :: r) (h : okB c = false) : restB l p = false := by simp [restB, hd, h]
theorem rest_first (l : List UInt8) (h : firstB l = false) : restB l 0 = false := by simp [restB, h]
theorem rest_step (l : List UInt8) (p : Nat) (c : UInt8) (hd : l.drop p = c :: l.drop (p + 1)) (h : okB c = true) (hf : p ≠ 0 ∨ firstB l = true) : restB l p = restB l (p + 1) := by
  have h1 : (p != 0 || firstB l) = true := by rcases hf with h | h <;> simp [h]
  unfold restB
  rw [hd, List.all_cons, h, h1]
  simp
theorem rest_end (l : List UInt8) (p : Nat) (h : l.length ≤ p) (h0 : 1 ≤ l.length) : restB l p = true := by
  have hp : p ≠ 0 := by omega
  simp [restB, List.drop_eq_nil_of_le h, hp]

theorem pname_any (s : ByteArray) (w : World) :
    Calls Tryz.prog 51 #[.string s] w fun e w' => e = .returned (.bool (nameB s.toList)) ∧ Below w.heap.size w w' := by
  by_cases h0 : 1 ≤ s.size ∧ s.size ≤ 24
  · have he : s.toList.isEmpty = false := by
      rw [List.isEmpty_eq_false_iff, ← List.length_pos_iff, len_list]; omega
    cases hw : wordB s.toList
    · have hspec : nameB s.toList = restB s.toList 0 := by simp [nameB, restB, len_list, h0, hw]
      have HS := Lib.hid hspec; clear hspec
      rw [HS.out]
      go_enter Tryz.func51, Tryz.ntmps51
      go_wp2_with (go_at_call 68; refine (word_any _ _).mono ?_; rintro e w' ⟨rfl, rfl⟩)
      go_loopw [] (fun wr => ∃ p : Nat, p ≤ s.size ∧ wr = w.iter s p ∧ Hid (restB s.toList 0 = restB s.toList p)) (fun wr => s.size - wr.iterPos w.heap.size)
      case atStart => exact ⟨0, Nat.zero_le _, rfl, rfl⟩
      case round =>
        obtain ⟨p, hp, rfl, hrec⟩ := hrel
        by_cases hlt : p < s.size
        · have hdrop := drop_list s p hlt
          by_cases ha : s[p].toNat < 128
          · have hnx : ∀ ty, (Instr.next (.pointer (some ⟨w.heap.size, 0, none⟩)) true ty).run Tryz.prog (w.iter s p) = _ := fun ty => run_next_ascii w s p ty hlt ha
            have hz := sort_range s[p].toNat
            have hso := sort_ok s[p] ha
            have hsl := sort_letter s[p].toNat
            have hsort := fun W => sort_any s[p].toNat W
            generalize sortZ s[p].toNat = z at hz hso hsl hsort
            have HSO := Lib.hid hso
            have HSL := Lib.hid hsl
            have HSR := Lib.hid hsort
            have HD := Lib.hid hdrop
            clear hso hsl hsort hdrop
            by_cases h4 : z = 4
            · have hb4 : (z == 4) = true := by simp [h4]
              have H4 := Lib.hid h4; clear h4
              go_wp2_with (go_at_call 69; refine (HSR.out _).mono ?_; rintro e w' ⟨rfl, rfl⟩)
              go_ret
              refine ⟨ret_bool ?_, (Below.refl _ _).alloc (Nat.le_refl _) _⟩
              rw [hrec.out, rest_stop _ p _ _ HD.out (by rw [HSO.out, H4.out]; rfl)]
            · have hb4 : (z == 4) = false := by simp [h4]
              have hok : okB s[p] = true := by rw [HSO.out]; simp [h4]
              have HOK := Lib.hid hok; clear hok
              clear h4
              by_cases hp0 : p = 0
              · have hbp : ((p : Int) == 0) = true := by simp [hp0]
                by_cases h1 : 1 < z
                · have hf : firstB s.toList = false := by
                    rw [first_list s (by omega)]
                    have := HSL.out
                    simp only [hp0] at this
                    rw [this]; simp; omega
                  have HF := Lib.hid hf; clear hf
                  have HP := Lib.hid hp0; clear hp0
                  go_wp2_with (go_at_call 69; refine (HSR.out _).mono ?_; rintro e w' ⟨rfl, rfl⟩)
                  go_ret
                  refine ⟨ret_bool ?_, (Below.refl _ _).alloc (Nat.le_refl _) _⟩
                  rw [rest_first _ HF.out]
                · have hf : firstB s.toList = true := by
                    rw [first_list s (by omega)]
                    have := HSL.out
                    simp only [hp0] at this
                    rw [this]; simp; omega
                  have HF := Lib.hid hf; clear hf
                  have HP := Lib.hid hp0; clear hp0
                  go_wp2_with (go_at_call 69; refine (HSR.out _).mono ?_; rintro e w' ⟨rfl, rfl⟩)
                  go_roundw
                  case rel => exact ⟨p + 1, by omega, rfl, by rw [hrec.out]; exact rest_step _ p _ HD.out HOK.out (.inr HF.out)⟩
                  case measure => simp; omega
              · have hbp : ((p : Int) == 0) = false := by simp [hp0]
                have HP := Lib.hid hp0; clear hp0
                go_wp2_with (go_at_call 69; refine (HSR.out _).mono ?_; rintro e w' ⟨rfl, rfl⟩)
                go_roundw
                case rel => exact ⟨p + 1, by omega, rfl, by rw [hrec.out]; exact rest_step _ p _ HD.out HOK.out (.inl HP.out)⟩
                case measure => simp; omega
          · have hnx : ∀ ty, (Instr.next (.pointer (some ⟨w.heap.size, 0, none⟩)) true ty).run Tryz.prog (w.iter s p) = _ := fun ty => run_next_any w s p ty hlt
            obtain ⟨hc, _⟩ := decode_high s p hlt (by omega)
            have hok := (high_not s[p] (by omega)).1
            have HD := Lib.hid hdrop
            have HOK := Lib.hid hok
            have hsort := fun W => sort_any (Utf8.decode s p).1 W
            rw [sort_high _ (by omega)] at hsort
            have HSR := Lib.hid hsort
            clear hok hdrop hsort
            go_wp2_with (go_at_call 69; refine (HSR.out _).mono ?_; rintro e w' ⟨rfl, rfl⟩)
            go_ret
            refine ⟨ret_bool ?_, (Below.refl _ _).alloc (Nat.le_refl _) _⟩
            rw [hrec.out, rest_stop _ p _ _ HD.out HOK.out]
        · have hnx : ∀ ty, (Instr.next (.pointer (some ⟨w.heap.size, 0, none⟩)) true ty).run Tryz.prog (w.iter s p) = _ := fun ty => run_next_end w s p ty hlt
          go_wp2
          go_ret
          refine ⟨ret_bool ?_, (Below.refl _ _).alloc (Nat.le_refl _) _⟩
          rw [hrec.out, rest_end _ _ (by rw [len_list]; omega) (by rw [len_list]; omega)]
    · rw [name_word _ hw]
      go_enter Tryz.func51, Tryz.ntmps51
      go_wp2_with (go_at_call 68; refine (word_any _ _).mono ?_; rintro e w' ⟨rfl, rfl⟩)
      go_ret
      exact ⟨rfl, Below.refl _ _⟩
  · rw [name_long _ (by rw [len_list]; exact h0)]
    rcases (by omega : s.size < 1 ∨ 24 < s.size) with h | h
    · have he : s.toList = [] := List.eq_nil_of_length_eq_zero (by rw [len_list]; omega)
      have hs : s = ⟨#[]⟩ := by
        cases s with | mk d => simp [ByteArray.toList_eq] at he; rw [he]
      subst hs
      clear h0 h he
      go_enter Tryz.func51, Tryz.ntmps51
      go_wp2
      go_ret
      exact ⟨rfl, Below.refl _ _⟩
    · have he : s.toList.isEmpty = false := by
        rw [List.isEmpty_eq_false_iff, ← List.length_pos_iff, len_list]; omega
      clear h0
      go_enter Tryz.func51, Tryz.ntmps51
      go_wp2
      go_ret
      exact ⟨rfl, Below.refl _ _⟩
end Go.Proofs.YtpakcicbojbonaaGreatDoor
