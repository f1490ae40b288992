/- Layer 4: words, numbers and bits that are read, by the document. No conditions. -/
import Derived.Test.YtpakcicbojbonaaGreatDoorEvtL
import Derived.Test.YtpakcicbojbonaaGreatDoorEvtS
namespace Go.Proofs.YtpakcicbojbonaaGreatDoor
open Go.RowKit
set_option maxRecDepth 10000
set_option linter.unusedVariables false
set_option linter.unusedSimpArgs false

theorem typeAt_any (s : SchemaV) (nm : ByteArray) (w : World) (h : s.ok w w.heap.size) :
    Calls Tryz.prog 17 #[s.val, .string nm] w fun e w' => e = .returned (.int .i64 (typeAt s nm.toList)) ∧ Below w.heap.size w w' := by
  obtain ⟨rd, len, each, srd, slen, _⟩ := h
  have hrec : typeAt s nm.toList = atFrom nm.toList 0 (s.types.map (·.name.toList)) := rfl
  rw [hrec]
  unfold SchemaV.val
  clear hrec each srd slen
  go_enter Tryz.func17, Tryz.ntmps17
  go_wp2
  go_loopw [4, 5, 6, 10] (fun _ _ _ i wr => ∃ k : Nat, k ≤ s.types.length ∧ i = .int .i64 k ∧ Below w.heap.size w wr ∧ Hid (atFrom nm.toList 0 (s.types.map (·.name.toList)) = atFrom nm.toList k ((s.types.drop k).map (·.name.toList)))) (fun _ _ _ i _ => s.types.length - (intOf i).toNat)
  case atStart => exact ⟨0, Nat.zero_le _, rfl, (Below.refl _ _).alloc (Nat.le_refl _) _, rfl⟩
  case round =>
    obtain ⟨k, hk, rfl, hbel, hrec⟩ := hrel
    by_cases hlt : k < s.types.length
    · obtain ⟨b, o, hfa, hb, hc⟩ := (rd.below hbel).elem (n := 2) (fun _ => rfl) (by omega) hlt
      have hc0 : wr.cell? ⟨b, o + k * 2, none⟩ = some (.string s.types[k].name) := hc 0 _ rfl
      have hc1 : wr.cell? ⟨b, o + k * 2 + 1, none⟩ = some (.slice s.types[k].fa s.types[k].fields.length s.types[k].fc) := hc 1 _ rfl
      rw [List.drop_eq_getElem_cons hlt] at hrec
      rw [hfa]
      clear hc
      go_wp2
      · go_ret
        have ht : (s.types[k].name.toList == nm.toList) = true := by assumption
        exact ⟨ret_int (by rw [hrec.out, List.map_cons, atFrom, if_pos ht]), hbel.alloc hbel.size _⟩
      · have ht : (s.types[k].name.toList == nm.toList) = false := by assumption
        go_roundw
        case rel => exact ⟨k + 1, by omega, by go_num, hbel.alloc hbel.size _, by rw [hrec.out, List.map_cons, atFrom, ht]; rfl⟩
        case measure => simp [intOf]; omega
    · go_wp2
      go_ret
      exact ⟨ret_int (by rw [hrec.out, List.drop_eq_nil_of_le (by omega)]; rfl), hbel⟩

theorem infoSt : (Tryz.prog.info? 9).map (fun i => (i.zero, i.size, i.bytes)) = some (some (.string ⟨#[]⟩), 1, 16) := by kernel_rfl
def wordsFrom (cur : List UInt8) : List UInt8 → List (List UInt8)
  | [] => [cur]
  | c :: r => if c = 32 then cur :: wordsFrom [] r else wordsFrom (cur ++ [c]) r
theorem words_split : ∀ (l cur : List UInt8), wordsFrom cur l = match split1 32 l with | x :: r => (cur ++ x) :: r | [] => [cur]
  | [], cur => by simp [wordsFrom, split1]
  | c :: l, cur => by
    have hne := split1_ne 32 l
    by_cases h : c = 32
    · subst h
      have h1 : wordsFrom cur (32 :: l) = cur :: wordsFrom [] l := if_pos rfl
      have h2 : split1 32 (32 :: l) = [] :: split1 32 l := if_pos rfl
      rw [h1, h2, words_split l []]
      cases hs : split1 32 l with
      | nil => exact absurd hs hne
      | cons x r => simp
    · have h1 : wordsFrom cur (c :: l) = wordsFrom (cur ++ [c]) l := if_neg h
      have h2 : split1 32 (c :: l) = match split1 32 l with | x :: r => (c :: x) :: r | [] => [[c]] := if_neg h
      rw [h1, h2, words_split l (cur ++ [c])]
      cases hs : split1 32 l with
      | nil => exact absurd hs hne
      | cons x r => simp
theorem words_nil (l : List UInt8) : wordsFrom [] l = split1 32 l := by
  rw [words_split]
  cases hs : split1 32 l with
  | nil => exact absurd hs (split1_ne 32 l)
  | cons x r => rfl
theorem one_byte (t : ByteArray) (k : Nat) (h : k < t.size) : (t.extract k (k + 1)).toList = [t[k]] := by
  have h1 := drop_list t k h
  rw [ByteArray.toList_eq] at h1 ⊢
  rw [Lib.extract_eq, h1]
  simp
set_option maxRecDepth 100000 in
set_option maxHeartbeats 1000000 in
theorem words_any2 (t : ByteArray) (w : World) (ht : t.size < 4294967281) :
    Calls Tryz.prog 16 #[.string t] w fun r w' => ∃ (A : Option Addr) (c : Nat), r = .returned (.slice A (split1 32 t.toList).length c) ∧ Rd w' w'.heap.size A (((split1 32 t.toList).map bytes).map Value.string) ∧ Below w.heap.size w w' := by
  obtain ⟨iS, hS, hS0, hS1, hS2⟩ := info_parts infoSt
  obtain ⟨WL, hWL⟩ : ∃ WL, split1 32 t.toList = WL := ⟨_, rfl⟩
  have HW : Hid ([] ++ wordsFrom [] (t.toList.drop 0) = WL) := Lib.hid (by rw [List.drop_zero, List.nil_append, words_nil, hWL])
  rw [hWL]
  clear hWL
  go_enter Tryz.func16, Tryz.ntmps16
  go_wp2
  go_loopw [3, 4, 5] (fun l x i wr => ∃ (k n : Nat) (A : Option Addr) (c : Nat) (don : List (List UInt8)) (cur : List UInt8), k ≤ t.size ∧ n ≤ k ∧ l = .slice A n c ∧ x = .string (bytes cur) ∧ i = .int .i64 k ∧ Below w.heap.size w wr ∧
    wr.ownsRow w.heap.size 9 1 (.slice A n c) n ((don.map bytes).map Value.string) ∧ cur.length ≤ k ∧ Hid (don.length = n) ∧ Hid (don ++ wordsFrom cur (t.toList.drop k) = WL)) (fun _ _ i _ => t.size - (intOf i).toNat)
  case atStart => exact ⟨0, 0, none, 0, [], [], Nat.zero_le _, Nat.zero_le _, rfl, rfl, rfl, Below.refl _ _, World.ownsRow_nil _ _ _ _, Nat.zero_le _, rfl, HW⟩
  case round =>
    clear HW
    obtain ⟨k, n, A, c, don, cur, hk, hn, rfl, rfl, rfl, hbel, hown, hcl, hdl, hrec⟩ := hrel
    obtain ⟨wo, rfl⟩ : ∃ wo : World, wo = wr := ⟨_, rfl⟩
    by_cases hlt : k < t.size
    · have hst : don ++ wordsFrom cur (t[k] :: t.toList.drop (k + 1)) = WL := by rw [← drop_list t k hlt]; exact hrec.out
      have hltI : (k : Int) < (t.size : Int) := by omega
      have hws := hbel.size
      by_cases h32 : t[k] = 32
      · as_aux_lemma =>
        have h32I : ((t[k].toNat : Int) == 32) = true := by rw [h32]; rfl
        have HN : Hid ((don ++ [cur]) ++ wordsFrom [] (t.toList.drop (k + 1)) = WL) := Lib.hid (by
          rw [← hst]
          have : wordsFrom cur (t[k] :: t.toList.drop (k + 1)) = cur :: wordsFrom [] (t.toList.drop (k + 1)) := if_pos h32
          rw [this]; simp)
        clear hst hrec h32
        have hzE : w.heap.size ≤ (wo.alloc (.cells #[.string (bytes cur)] 9)).heap.size := by simp; omega
        go_wp2_with (at_builtin; refine wpList_append_rd (by rfl) _ _ 23 (by rfl) w.heap.size 9 iS _ 1 16 Tryz.underlying23 hS hS0 hS1 hS2 rfl (by decide) (.slice A n c) n _ (by rfl) (hown.alloc _) (wo.heap.size + 1) (some ⟨wo.heap.size, 0, none⟩) 1 1 [.string (bytes cur)] (by rfl) (Rd.lit rfl _ _) (by rfl) ?c2 ?c3 ?c4 hzE ?_)
        case c2 => first | (intro u hu; simp at hu; subst hu; rfl) | rfl
        case c3 => unfold maxLen; omega
        case c4 => omega
        intro A4 c4 w4 hown4 hg4 _
        have hbel4 : Below w.heap.size w w4 := below_own (hbel.alloc hws _) (hown.alloc _) (Nat.le_refl _) hg4 hzE
        have hown5 : w4.ownsRow w.heap.size 9 1 (.slice A4 (n + 1) c4) (n + 1) (((don ++ [cur]).map bytes).map Value.string) := by
          rw [List.map_append, List.map_append, List.map_map]; exact hown4
        have hdl2 : Hid ((don ++ [cur]).length = n + 1) := Lib.hid (by rw [List.length_append, hdl.out]; rfl)
        clear hown4 hg4 hown hbel hzE hdl
        go_wp2
        go_roundw
        case rel => exact ⟨k + 1, n + 1, A4, c4, don ++ [cur], [], by omega, by omega, by first | rfl | trivial, by first | rfl | trivial, by go_num, hbel4, hown5, Nat.zero_le _, hdl2, HN⟩
        case measure => simp [intOf]; omega
      · as_aux_lemma =>
        have h32I : ((t[k].toNat : Int) == 32) = false := by
          rw [beq_eq_false_iff_ne]
          intro e
          apply h32
          apply UInt8.toNat_inj.1
          have : t[k].toNat = 32 := by omega
          rw [this]; rfl
        have HN : Hid (don ++ wordsFrom (cur ++ [t[k]]) (t.toList.drop (k + 1)) = WL) := Lib.hid (by
          rw [← hst]
          have : wordsFrom cur (t[k] :: t.toList.drop (k + 1)) = wordsFrom (cur ++ [t[k]]) (t.toList.drop (k + 1)) := if_neg h32
          rw [this])
        have HX : Hid (bytes cur ++ t.extract k (k + 1) = bytes (cur ++ [t[k]])) := Lib.hid (by rw [cat_bytes, bytes_list, one_byte t k hlt])
        have hmin : ¬ 9223372036854775807 < (bytes cur).size + (min (k + 1) t.size - k) := by rw [bytes_size]; omega
        have hk1 : (k : Int) + 1 ≤ (t.size : Int) := by omega
        have hcl2 : (cur ++ [t[k]]).length ≤ k + 1 := by simp; omega
        clear hst hrec h32
        generalize t[k] = b at HN HX hcl2
        go_wp2
        go_roundw
        case rel => exact ⟨k + 1, n, A, c, don, cur ++ [b], by omega, by omega, by first | rfl | trivial, by first | exact congrArg Value.string HX.out | (rw [HX.out]), by go_num, hbel, hown, hcl2, hdl, HN⟩
        case measure => simp [intOf]; omega
    · as_aux_lemma =>
      obtain rfl : k = t.size := by omega
      rw [List.drop_eq_nil_of_le (by rw [len_list]; omega)] at hrec
      have hWL : WL = don ++ [cur] := hrec.out.symm
      have hWn : WL.length = n + 1 := by rw [hWL, List.length_append, hdl.out]; rfl
      have HWL := Lib.hid hWL
      have HWN := Lib.hid hWn
      clear hrec hWL hWn
      have hws := hbel.size
      have hzE : w.heap.size ≤ (wo.alloc (.cells #[.string (bytes cur)] 9)).heap.size := by simp; omega
      go_wp2_with (at_builtin; refine wpList_append_rd (by rfl) _ _ 23 (by rfl) w.heap.size 9 iS _ 1 16 Tryz.underlying23 hS hS0 hS1 hS2 rfl (by decide) (.slice A n c) n _ (by rfl) (hown.alloc _) (wo.heap.size + 1) (some ⟨wo.heap.size, 0, none⟩) 1 1 [.string (bytes cur)] (by rfl) (Rd.lit rfl _ _) (by rfl) ?c2 ?c3 ?c4 hzE ?_)
      case c2 => first | (intro u hu; simp at hu; subst hu; rfl) | rfl
      case c3 => unfold maxLen; omega
      case c4 => omega
      intro A4 c4 w4 hown4 hg4 _
      have hbel4 : Below w.heap.size w w4 := below_own (hbel.alloc hws _) (hown.alloc _) (Nat.le_refl _) hg4 hzE
      have hrd : Rd w4 w4.heap.size A4 ((WL.map bytes).map Value.string) := by
        rw [HWL.out, List.map_append, List.map_append, List.map_map]; exact own_rd hown4
      clear hown4 hg4 hown hbel hzE hdl
      go_wp2
      go_ret
      exact ⟨A4, c4, by rw [HWN.out]; rfl, hrd, hbel4⟩
def NumDQ (z : Int) (w : World) (e : Ending) (w' : World) : Prop := ∃ b : Bool, e = .returned (.tuple #[.int .i64 z, .bool b]) ∧ Below w.heap.size w w'
def NumDIs (l : List UInt8) (w : World) (e : Ending) (w' : World) : Prop := ∃ b : Bool, e = .returned (.tuple #[.int .i64 (numD l), .bool b]) ∧ Below w.heap.size w w'
theorem dAcc_drop (t : ByteArray) (k n : Nat) (h : k < t.size) : dAcc n (t.toList.drop k) = if 48 ≤ t[k].toNat ∧ t[k].toNat ≤ 57 then dAcc (10 * n + (t[k].toNat - 48)) (t.toList.drop (k + 1)) else none := by
  rw [drop_list t k h]; rfl
theorem drop45_len : ∀ l : List UInt8, (drop45 l).length ≤ l.length
  | [] => Nat.le_refl _
  | c :: l => by
    unfold drop45
    split
    · rename_i d e
      injection e with _ e
      subst e
      simp
    · exact Nat.le_refl _
theorem drop45_neg (s : ByteArray) (h : 0 < s.size) (h45 : s[0] = 45) : drop45 s.toList = s.toList.drop 1 := by
  have h1 := drop_list s 0 h
  rw [List.drop_zero, Nat.zero_add, h45] at h1
  rw [h1]; rfl
theorem drop45_pos (s : ByteArray) (h : s.size = 0 ∨ ∃ h : 0 < s.size, ¬ s[0] = 45) : drop45 s.toList = s.toList := by
  unfold drop45
  split
  · rename_i d e
    rcases h with h | ⟨h0, h⟩
    · have := len_list s
      rw [e] at this
      simp at this; omega
    · have h1 := drop_list s 0 h0
      rw [List.drop_zero, e] at h1
      injection h1 with h1 _
      exact absurd h1.symm h
  · rfl
set_option maxRecDepth 100000 in
set_option maxHeartbeats 1000000 in
theorem rnum_any (s : ByteArray) (w : World) (hs : s.size < 4294967281) :
    Calls Tryz.prog 19 #[.string s] w (NumDIs s.toList w) := by
  obtain ⟨D, hD⟩ : ∃ D : ByteArray, D = (if h : ∃ h0 : 0 < s.size, s[0] = 45 then s.extract 1 s.size else s) := ⟨_, rfl⟩
  have hDl : D.toList = drop45 s.toList := by
    rw [hD]
    split
    · rename_i h
      obtain ⟨h0, h45⟩ := h
      rw [tail_list, drop45_neg s h0 h45]
    · rename_i h
      rw [drop45_pos]
      rcases Nat.eq_zero_or_pos s.size with h0 | h0
      · exact .inl h0
      · exact .inr ⟨h0, fun e => h ⟨h0, e⟩⟩
  have hDs : D.size ≤ s.size := by
    rw [← len_list, ← len_list, hDl]
    exact drop45_len _
  obtain ⟨RES, hres⟩ : ∃ RES, numD s.toList = RES := ⟨_, rfl⟩
  have HR : Hid ((match (if D.size ≤ 19 then dAcc 0 (D.toList.drop 0) else none) with | none => 0 | some n => if D.size < s.size then wrap64 (-(wrap64 n)) else wrap64 n) = RES) := Lib.hid (by
    rw [← hres]
    unfold numD digsD
    rw [← hDl, List.drop_zero, len_list, len_list]
    rfl)
  have HQ : Hid (∀ (b : Bool) (w' : World), Below w.heap.size w w' → NumDQ RES w (.returned (.tuple #[.int .i64 RES, .bool b])) w') := Lib.hid fun b w' h => ⟨b, rfl, h⟩
  show Calls _ _ _ _ (NumDQ (numD s.toList) w)
  rw [hres]
  clear hres hDl
  by_cases hneg : ∃ h0 : 0 < s.size, s[0] = 45
  case pos =>
    rw [dif_pos hneg] at hD
    obtain ⟨h0, h45⟩ := hneg
    have h0I : (0 : Int) < (s.size : Int) := by omega
    have h1I : (1 : Int) ≤ (s.size : Int) := by omega
    have h45I : ((s[0].toNat : Int) == 45) = true := by rw [h45]; rfl
    have hlt : D.size < s.size := by
      rw [hD, ByteArray.size_extract]; omega
    clear h45
    have HDD := Lib.hid hD
    clear hD
    go_enter Tryz.func19, Tryz.ntmps19
    go_wp2
    rw [show s.extract 1 s.size = D from HDD.out.symm]
    clear h0I h1I HDD
    go_loopw [5, 6] (fun x i wr => ∃ (k n : Nat), k ≤ D.size ∧ k ≤ 19 ∧ x = .int .u64 n ∧ i = .int .i64 k ∧ Below w.heap.size w wr ∧ Hid (n < 10 ^ k) ∧ Hid ((match (if D.size ≤ 19 then dAcc n (D.toList.drop k) else none) with | none => 0 | some n => if D.size < s.size then wrap64 (-(wrap64 n)) else wrap64 n) = RES)) (fun _ i _ => D.size - (intOf i).toNat)
    case atStart => exact ⟨0, 0, Nat.zero_le _, by omega, rfl, rfl, Below.refl _ _, Lib.hid (by decide), HR⟩
    case round =>
      clear HR
      obtain ⟨k, n, hk, hk19, rfl, rfl, hbel, hn, hrec⟩ := hrel
      by_cases hlt : k < D.size
      · as_aux_lemma =>
        have hltI : (k : Int) < (D.size : Int) := by omega
        have hst := hrec.out
        rw [dAcc_drop D k n hlt] at hst
        have hdg := digit_any (D[k].toNat : Int)
        by_cases hd : 48 ≤ D[k].toNat ∧ D[k].toNat ≤ 57
        · have hdb : digitB (D[k].toNat : Int) = true := decide_eq_true (by omega)
          rw [if_pos hd] at hst
          rw [hdb] at hdg
          have HDG := Lib.hid hdg
          have HST := Lib.hid hst
          clear hdg hst hdb hrec
          by_cases h18 : k ≤ 18
          · have hnl : n < 1000000000000000000 := by
              have h1 := Nat.pow_le_pow_right (n := 10) (by omega) h18
              have h2 := hn.out
              have h3 : (10 : Nat) ^ 18 = 1000000000000000000 := by decide
              omega
            have HP : Hid (10 * n + (D[k].toNat - 48) < 10 ^ (k + 1)) := Lib.hid (by
              have h2 := hn.out
              rw [Nat.pow_succ]; omega)
            have h18I : ¬ (18 : Int) < (k : Int) := by omega
            have h48 : (48 : Int) ≤ (D[k].toNat : Int) := by omega
            have h57 : (D[k].toNat : Int) ≤ 57 := by omega
            have hw1 : IntKind.u64.wrap (10 * (n : Int)) = 10 * (n : Int) := by rw [IntKind.wrap_u64]; omega
            have hw2 : IntKind.u64.wrap (10 * (n : Int) + ((D[k].toNat : Int) - 48)) = 10 * (n : Int) + ((D[k].toNat : Int) - 48) := by rw [IntKind.wrap_u64]; omega
            have hw3 : (10 * (n : Int)) % 18446744073709551616 = 10 * (n : Int) := by omega
            have hw4 : (10 * (n : Int) + ((D[k].toNat : Int) - 48)) % 18446744073709551616 = 10 * (n : Int) + ((D[k].toNat : Int) - 48) := by omega
            clear hn hd hnl
            go_wp2_with fail
            refine (HDG.out wr).mono ?_
            rintro r w2 ⟨rfl, rfl⟩
            go_wp2
            go_roundw
            case rel => exact ⟨k + 1, 10 * n + (D[k].toNat - 48), by omega, by omega, by first | go_num | (congr 1; omega), by go_num, hbel, HP, HST⟩
            case measure => simp [intOf]; omega
          · have hzr : (0 : Int) = RES := by
              rw [← HST.out, if_neg (by omega)]
            have HZ := Lib.hid hzr
            have h18I : (18 : Int) < (k : Int) := by omega
            clear hzr hn HST hd
            go_wp2_with fail
            refine (HDG.out wr).mono ?_
            rintro r w2 ⟨rfl, rfl⟩
            go_wp2
            go_ret2
            exact (congrArg (fun z => NumDQ RES w (.returned (.tuple #[.int .i64 z, .bool false])) _) HZ.out).mpr (HQ.out _ _ hbel)
        · have hdb : digitB (D[k].toNat : Int) = false := decide_eq_false (by omega)
          rw [if_neg hd] at hst
          rw [hdb] at hdg
          have HDG := Lib.hid hdg
          have hzr : (0 : Int) = RES := by
            rw [← hst]
            by_cases h : D.size ≤ 19
            · rw [if_pos h]
            · rw [if_neg h]
          have HZ := Lib.hid hzr
          clear hdg hst hdb hrec hzr hn hd
          go_wp2_with fail
          refine (HDG.out wr).mono ?_
          rintro r w2 ⟨rfl, rfl⟩
          go_wp2
          go_ret2
          exact (congrArg (fun z => NumDQ RES w (.returned (.tuple #[.int .i64 z, .bool false])) _) HZ.out).mpr (HQ.out _ _ hbel)
      · as_aux_lemma =>
        obtain rfl : k = D.size := by omega
        have hst := hrec.out
        have hdn : D.toList.drop D.size = [] := List.drop_eq_nil_of_le (by rw [len_list]; omega)
        rw [if_pos hk19, hdn] at hst
        have hst : (if D.size < s.size then wrap64 (-(wrap64 n)) else wrap64 n) = RES := hst
        have hrg : -9223372036854775808 ≤ RES ∧ RES ≤ 9223372036854775807 := by rw [← hst]; split <;> (unfold wrap64; omega)
        have HD := Lib.hid (dec_any RES hrg)
        clear hrec hn hdn hrg
        have hlsI : (D.size : Int) < (s.size : Int) := by omega
        rw [if_pos (by omega)] at hst
        obtain ⟨m, hm⟩ : ∃ m, wrap64 (n : Int) = m := ⟨_, rfl⟩
        rw [hm] at hst
        rcases Nat.eq_zero_or_pos D.size with h0 | h0
        · have h0I : ¬ (0 : Int) < (D.size : Int) := by omega
          clear h0
          go_wp2
          all_goals (go_ret2; exact HQ.out _ _ hbel)
        · have h0I : (0 : Int) < (D.size : Int) := by omega
          clear h0
          go_wp2_with fail
          refine (HD.out wr).mono ?_
          rintro r w2 ⟨rfl, hb2⟩
          have hfin := hbel.trans (hb2.mono hbel.size)
          clear hb2 hbel HD
          go_wp2
          go_ret2
          exact HQ.out _ _ hfin
  case neg =>
    rw [dif_neg hneg] at hD
    subst D
    rcases Nat.eq_zero_or_pos s.size with h0 | h0
    · have h0I : ¬ (0 : Int) < (s.size : Int) := by omega
      clear hneg
      go_enter Tryz.func19, Tryz.ntmps19
      go_wp2
      clear h0I h0
      go_loopw [5, 6] (fun x i wr => ∃ (k n : Nat), k ≤ s.size ∧ k ≤ 19 ∧ x = .int .u64 n ∧ i = .int .i64 k ∧ Below w.heap.size w wr ∧ Hid (n < 10 ^ k) ∧ Hid ((match (if s.size ≤ 19 then dAcc n (s.toList.drop k) else none) with | none => 0 | some n => if s.size < s.size then wrap64 (-(wrap64 n)) else wrap64 n) = RES)) (fun _ i _ => s.size - (intOf i).toNat)
      case atStart => exact ⟨0, 0, Nat.zero_le _, by omega, rfl, rfl, Below.refl _ _, Lib.hid (by decide), HR⟩
      case round =>
        clear HR
        obtain ⟨k, n, hk, hk19, rfl, rfl, hbel, hn, hrec⟩ := hrel
        by_cases hlt : k < s.size
        · as_aux_lemma =>
          have hltI : (k : Int) < (s.size : Int) := by omega
          have hst := hrec.out
          rw [dAcc_drop s k n hlt] at hst
          have hdg := digit_any (s[k].toNat : Int)
          by_cases hd : 48 ≤ s[k].toNat ∧ s[k].toNat ≤ 57
          · have hdb : digitB (s[k].toNat : Int) = true := decide_eq_true (by omega)
            rw [if_pos hd] at hst
            rw [hdb] at hdg
            have HDG := Lib.hid hdg
            have HST := Lib.hid hst
            clear hdg hst hdb hrec
            by_cases h18 : k ≤ 18
            · have hnl : n < 1000000000000000000 := by
                have h1 := Nat.pow_le_pow_right (n := 10) (by omega) h18
                have h2 := hn.out
                have h3 : (10 : Nat) ^ 18 = 1000000000000000000 := by decide
                omega
              have HP : Hid (10 * n + (s[k].toNat - 48) < 10 ^ (k + 1)) := Lib.hid (by
                have h2 := hn.out
                rw [Nat.pow_succ]; omega)
              have h18I : ¬ (18 : Int) < (k : Int) := by omega
              have h48 : (48 : Int) ≤ (s[k].toNat : Int) := by omega
              have h57 : (s[k].toNat : Int) ≤ 57 := by omega
              have hw1 : IntKind.u64.wrap (10 * (n : Int)) = 10 * (n : Int) := by rw [IntKind.wrap_u64]; omega
              have hw2 : IntKind.u64.wrap (10 * (n : Int) + ((s[k].toNat : Int) - 48)) = 10 * (n : Int) + ((s[k].toNat : Int) - 48) := by rw [IntKind.wrap_u64]; omega
              have hw3 : (10 * (n : Int)) % 18446744073709551616 = 10 * (n : Int) := by omega
              have hw4 : (10 * (n : Int) + ((s[k].toNat : Int) - 48)) % 18446744073709551616 = 10 * (n : Int) + ((s[k].toNat : Int) - 48) := by omega
              clear hn hd hnl
              go_wp2_with fail
              refine (HDG.out wr).mono ?_
              rintro r w2 ⟨rfl, rfl⟩
              go_wp2
              go_roundw
              case rel => exact ⟨k + 1, 10 * n + (s[k].toNat - 48), by omega, by omega, by first | go_num | (congr 1; omega), by go_num, hbel, HP, HST⟩
              case measure => simp [intOf]; omega
            · have hzr : (0 : Int) = RES := by
                rw [← HST.out, if_neg (by omega)]
              have HZ := Lib.hid hzr
              have h18I : (18 : Int) < (k : Int) := by omega
              clear hzr hn HST hd
              go_wp2_with fail
              refine (HDG.out wr).mono ?_
              rintro r w2 ⟨rfl, rfl⟩
              go_wp2
              go_ret2
              exact (congrArg (fun z => NumDQ RES w (.returned (.tuple #[.int .i64 z, .bool false])) _) HZ.out).mpr (HQ.out _ _ hbel)
          · have hdb : digitB (s[k].toNat : Int) = false := decide_eq_false (by omega)
            rw [if_neg hd] at hst
            rw [hdb] at hdg
            have HDG := Lib.hid hdg
            have hzr : (0 : Int) = RES := by
              rw [← hst]
              by_cases h : s.size ≤ 19
              · rw [if_pos h]
              · rw [if_neg h]
            have HZ := Lib.hid hzr
            clear hdg hst hdb hrec hzr hn hd
            go_wp2_with fail
            refine (HDG.out wr).mono ?_
            rintro r w2 ⟨rfl, rfl⟩
            go_wp2
            go_ret2
            exact (congrArg (fun z => NumDQ RES w (.returned (.tuple #[.int .i64 z, .bool false])) _) HZ.out).mpr (HQ.out _ _ hbel)
        · as_aux_lemma =>
          obtain rfl : k = s.size := by omega
          have hst := hrec.out
          have hdn : s.toList.drop s.size = [] := List.drop_eq_nil_of_le (by rw [len_list]; omega)
          rw [if_pos hk19, hdn] at hst
          have hst : (if s.size < s.size then wrap64 (-(wrap64 n)) else wrap64 n) = RES := hst
          have hrg : -9223372036854775808 ≤ RES ∧ RES ≤ 9223372036854775807 := by rw [← hst]; split <;> (unfold wrap64; omega)
          have HD := Lib.hid (dec_any RES hrg)
          clear hrec hn hdn hrg
          have hlsI : ¬ (s.size : Int) < (s.size : Int) := by omega
          rw [if_neg (by omega)] at hst
          rcases Nat.eq_zero_or_pos s.size with h0 | h0
          · have h0I : ¬ (0 : Int) < (s.size : Int) := by omega
            clear h0
            go_wp2
            all_goals (go_ret2; exact HQ.out _ _ hbel)
          · have h0I : (0 : Int) < (s.size : Int) := by omega
            clear h0
            go_wp2_with fail
            refine (HD.out wr).mono ?_
            rintro r w2 ⟨rfl, hb2⟩
            have hfin := hbel.trans (hb2.mono hbel.size)
            clear hb2 hbel HD
            go_wp2
            go_ret2
            exact HQ.out _ _ hfin
    · have h0I : (0 : Int) < (s.size : Int) := by omega
      have h45I : ((s[0].toNat : Int) == 45) = false := by
        rw [beq_eq_false_iff_ne]
        intro e
        apply hneg
        refine ⟨h0, UInt8.toNat_inj.1 ?_⟩
        have : s[0].toNat = 45 := by omega
        rw [this]; rfl
      clear hneg
      go_enter Tryz.func19, Tryz.ntmps19
      go_wp2
      clear h0I
      go_loopw [5, 6] (fun x i wr => ∃ (k n : Nat), k ≤ s.size ∧ k ≤ 19 ∧ x = .int .u64 n ∧ i = .int .i64 k ∧ Below w.heap.size w wr ∧ Hid (n < 10 ^ k) ∧ Hid ((match (if s.size ≤ 19 then dAcc n (s.toList.drop k) else none) with | none => 0 | some n => if s.size < s.size then wrap64 (-(wrap64 n)) else wrap64 n) = RES)) (fun _ i _ => s.size - (intOf i).toNat)
      case atStart => exact ⟨0, 0, Nat.zero_le _, by omega, rfl, rfl, Below.refl _ _, Lib.hid (by decide), HR⟩
      case round =>
        clear HR
        obtain ⟨k, n, hk, hk19, rfl, rfl, hbel, hn, hrec⟩ := hrel
        by_cases hlt : k < s.size
        · as_aux_lemma =>
          have hltI : (k : Int) < (s.size : Int) := by omega
          have hst := hrec.out
          rw [dAcc_drop s k n hlt] at hst
          have hdg := digit_any (s[k].toNat : Int)
          by_cases hd : 48 ≤ s[k].toNat ∧ s[k].toNat ≤ 57
          · have hdb : digitB (s[k].toNat : Int) = true := decide_eq_true (by omega)
            rw [if_pos hd] at hst
            rw [hdb] at hdg
            have HDG := Lib.hid hdg
            have HST := Lib.hid hst
            clear hdg hst hdb hrec
            by_cases h18 : k ≤ 18
            · have hnl : n < 1000000000000000000 := by
                have h1 := Nat.pow_le_pow_right (n := 10) (by omega) h18
                have h2 := hn.out
                have h3 : (10 : Nat) ^ 18 = 1000000000000000000 := by decide
                omega
              have HP : Hid (10 * n + (s[k].toNat - 48) < 10 ^ (k + 1)) := Lib.hid (by
                have h2 := hn.out
                rw [Nat.pow_succ]; omega)
              have h18I : ¬ (18 : Int) < (k : Int) := by omega
              have h48 : (48 : Int) ≤ (s[k].toNat : Int) := by omega
              have h57 : (s[k].toNat : Int) ≤ 57 := by omega
              have hw1 : IntKind.u64.wrap (10 * (n : Int)) = 10 * (n : Int) := by rw [IntKind.wrap_u64]; omega
              have hw2 : IntKind.u64.wrap (10 * (n : Int) + ((s[k].toNat : Int) - 48)) = 10 * (n : Int) + ((s[k].toNat : Int) - 48) := by rw [IntKind.wrap_u64]; omega
              have hw3 : (10 * (n : Int)) % 18446744073709551616 = 10 * (n : Int) := by omega
              have hw4 : (10 * (n : Int) + ((s[k].toNat : Int) - 48)) % 18446744073709551616 = 10 * (n : Int) + ((s[k].toNat : Int) - 48) := by omega
              clear hn hd hnl
              go_wp2_with fail
              refine (HDG.out wr).mono ?_
              rintro r w2 ⟨rfl, rfl⟩
              go_wp2
              go_roundw
              case rel => exact ⟨k + 1, 10 * n + (s[k].toNat - 48), by omega, by omega, by first | go_num | (congr 1; omega), by go_num, hbel, HP, HST⟩
              case measure => simp [intOf]; omega
            · have hzr : (0 : Int) = RES := by
                rw [← HST.out, if_neg (by omega)]
              have HZ := Lib.hid hzr
              have h18I : (18 : Int) < (k : Int) := by omega
              clear hzr hn HST hd
              go_wp2_with fail
              refine (HDG.out wr).mono ?_
              rintro r w2 ⟨rfl, rfl⟩
              go_wp2
              go_ret2
              exact (congrArg (fun z => NumDQ RES w (.returned (.tuple #[.int .i64 z, .bool false])) _) HZ.out).mpr (HQ.out _ _ hbel)
          · have hdb : digitB (s[k].toNat : Int) = false := decide_eq_false (by omega)
            rw [if_neg hd] at hst
            rw [hdb] at hdg
            have HDG := Lib.hid hdg
            have hzr : (0 : Int) = RES := by
              rw [← hst]
              by_cases h : s.size ≤ 19
              · rw [if_pos h]
              · rw [if_neg h]
            have HZ := Lib.hid hzr
            clear hdg hst hdb hrec hzr hn hd
            go_wp2_with fail
            refine (HDG.out wr).mono ?_
            rintro r w2 ⟨rfl, rfl⟩
            go_wp2
            go_ret2
            exact (congrArg (fun z => NumDQ RES w (.returned (.tuple #[.int .i64 z, .bool false])) _) HZ.out).mpr (HQ.out _ _ hbel)
        · as_aux_lemma =>
          obtain rfl : k = s.size := by omega
          have hst := hrec.out
          have hdn : s.toList.drop s.size = [] := List.drop_eq_nil_of_le (by rw [len_list]; omega)
          rw [if_pos hk19, hdn] at hst
          have hst : (if s.size < s.size then wrap64 (-(wrap64 n)) else wrap64 n) = RES := hst
          have hrg : -9223372036854775808 ≤ RES ∧ RES ≤ 9223372036854775807 := by rw [← hst]; split <;> (unfold wrap64; omega)
          have HD := Lib.hid (dec_any RES hrg)
          clear hrec hn hdn hrg
          have hlsI : ¬ (s.size : Int) < (s.size : Int) := by omega
          rw [if_neg (by omega)] at hst
          rcases Nat.eq_zero_or_pos s.size with h0 | h0
          · have h0I : ¬ (0 : Int) < (s.size : Int) := by omega
            clear h0
            go_wp2
            all_goals (go_ret2; exact HQ.out _ _ hbel)
          · have h0I : (0 : Int) < (s.size : Int) := by omega
            clear h0
            go_wp2_with fail
            refine (HD.out wr).mono ?_
            rintro r w2 ⟨rfl, hb2⟩
            have hfin := hbel.trans (hb2.mono hbel.size)
            clear hb2 hbel HD
            go_wp2
            go_ret2
            exact HQ.out _ _ hfin
theorem bitsU_snoc (c : UInt8) : ∀ (l : List UInt8) (a : Nat), bitsU a (l ++ [c]) = bitsU a l * 16 + (hexV c).getD 0
  | [], a => rfl
  | d :: l, a => bitsU_snoc c l _
theorem hex_at (c : UInt8) (k : Nat) (hk : k < 16) (h : hexD k = c) : (hexV c).getD 0 = k := by rw [← h, hexV_D k hk]; rfl
theorem hex_none (c : UInt8) (h : ∀ k, k < 16 → hexD k ≠ c) : (hexV c).getD 0 = 0 := by
  cases hv : hexV c with
  | none => rfl
  | some d => exact absurd (hexD_V hv).2 (h d (hexD_V hv).1)
set_option maxRecDepth 100000 in
set_option maxHeartbeats 1000000 in
theorem bits_any2 (t : ByteArray) (w : World) (ht : t.size < 4294967281) :
    Calls Tryz.prog 20 #[.string t] w fun e w' => e = .returned (.int .u64 (bitsD t.toList : Nat)) ∧ Below w.heap.size w w' := by
  obtain ⟨RES, hres⟩ : ∃ RES, bitsD t.toList = RES := ⟨_, rfl⟩
  have HR : Hid (∀ n, n = bitsU 0 (t.toList.drop 1) % 18446744073709551616 → canonN n = RES) := Lib.hid (by rintro n rfl; exact hres)
  rw [hres]
  clear hres
  have H0 : Hid ((0 : Nat) = bitsU 0 ((t.toList.drop 1).take 0) % 18446744073709551616) := Lib.hid rfl
  go_enter Tryz.func20, Tryz.ntmps20
  go_wp2
  go_loopw [3, 4] (fun a i wr => ∃ (k n : Nat), k ≤ t.size ∧ a = .int .u64 n ∧ i = .int .i64 ((k : Int) + 1) ∧ Below w.heap.size w wr ∧ n < 18446744073709551616 ∧ Hid (n = bitsU 0 ((t.toList.drop 1).take k) % 18446744073709551616)) (fun _ i _ => (t.size + 1 - (intOf i).toNat : Nat))
  case atStart => exact ⟨0, 0, Nat.zero_le _, rfl, rfl, Below.refl _ _, by omega, H0⟩
  case round =>
    clear H0
    obtain ⟨k, n, hk, rfl, rfl, hbel, hnl, hn⟩ := hrel
    by_cases hlt : k + 1 < t.size
    · as_aux_lemma =>
      have hltI : (k : Int) + 1 < (t.size : Int) := by omega
      have hgl : (t.toList.drop 1).length = t.size - 1 := by rw [List.length_drop, len_list]
      have hge : (t.toList.drop 1)[k]'(by omega) = t[k + 1] := by
        rw [List.getElem_drop]
        have h1 := get_list t (1 + k) (by omega)
        rw [h1]
        congr 1; omega
      have HN : Hid (∀ d, d = (hexV t[k + 1]).getD 0 → (n * 16 % 18446744073709551616 + d) % 18446744073709551616 = bitsU 0 ((t.toList.drop 1).take (k + 1)) % 18446744073709551616) := Lib.hid (by
        rintro d rfl
        rw [List.take_succ_eq_append_getElem (by omega), bitsU_snoc, hge]
        have := hn.out
        omega)
      clear hn hge hgl
      have hc0 : ∀ x y, x < 16 → y < 16 → hexD x = t[k + 1] → hexD y = t[k + 1] → x = y := fun x y h1 h2 h3 h4 => by
        have e := hexV_D x h1
        rw [h3, ← h4, hexV_D y h2] at e
        injection e with e; exact e.symm
      have HCU := Lib.hid hc0
      have HCA := Lib.hid (hex_at t[k + 1])
      have HCN := Lib.hid (hex_none t[k + 1])
      clear hc0
      go_wp2
      go_loopw [5, 6] (fun d j wr' => ∃ (q dd : Nat), q ≤ 16 ∧ d = .int .u64 dd ∧ j = .int .i64 q ∧ Below w.heap.size w wr' ∧ dd < 16 ∧ Hid ((∃ x, x < q ∧ hexD x = t[k + 1] ∧ dd = x) ∨ ((∀ x, x < q → hexD x ≠ t[k + 1]) ∧ dd = 0))) (fun _ j _ => 16 - (intOf j).toNat)
      case atStart => exact ⟨0, 0, by omega, rfl, rfl, hbel, by omega, Lib.hid (.inr ⟨fun x h => by omega, rfl⟩)⟩
      case round =>
        clear hbel
        obtain ⟨q, dd, hq, rfl, rfl, hbel, hdd, hinv⟩ := hrel
        by_cases hq16 : q < 16
        · as_aux_lemma =>
          have hqI : (q : Int) < 16 := by omega
          have hq0 : (0 : Int) ≤ (q : Int) := by omega
          have hk0 : (0 : Int) ≤ (k : Int) + 1 := by omega
          have hkt : ((k : Int) + 1).toNat = k + 1 := by omega
          have hX : ((⟨#[48, 49, 50, 51, 52, 53, 54, 55, 56, 57, 97, 98, 99, 100, 101, 102]⟩ : ByteArray)[q]'hq16).toNat = (hexD q).toNat := congrArg UInt8.toNat (hexS_at q hq16)
          by_cases he : hexD q = t[k + 1]
          · have hEq : (((hexD q).toNat : Int) == (t[k + 1].toNat : Int)) = true := by rw [he]; exact beq_self_eq_true _
            have HI : Hid ((∃ x, x < q + 1 ∧ hexD x = t[k + 1] ∧ q = x) ∨ ((∀ x, x < q + 1 → hexD x ≠ t[k + 1]) ∧ q = 0)) := Lib.hid (.inl ⟨q, by omega, he, rfl⟩)
            clear he hinv
            go_wp2
            go_region
            go_wp2
            go_roundw
            case rel => exact ⟨q + 1, q, by omega, by first | rfl | trivial, by go_num, by first | exact hbel | exact hbel.trans ⟨rfl, rfl, rfl, Nat.le_refl _, fun _ _ => rfl⟩, by omega, HI⟩
            case measure => simp [intOf]; omega
          · have hEq : (((hexD q).toNat : Int) == (t[k + 1].toNat : Int)) = false := by
              rw [beq_eq_false_iff_ne]
              intro e
              exact he (UInt8.toNat_inj.1 (by omega))
            have HI : Hid ((∃ x, x < q + 1 ∧ hexD x = t[k + 1] ∧ dd = x) ∨ ((∀ x, x < q + 1 → hexD x ≠ t[k + 1]) ∧ dd = 0)) := Lib.hid (by
              rcases hinv.out with ⟨x, h1, h2, h3⟩ | ⟨h1, h2⟩
              · exact .inl ⟨x, by omega, h2, h3⟩
              · refine .inr ⟨fun x hx => ?_, h2⟩
                rcases Nat.lt_or_ge x q with h | h
                · exact h1 x h
                · obtain rfl : x = q := by omega
                  exact he)
            clear he hinv
            go_wp2
            go_region
            go_wp2
            go_roundw
            case rel => exact ⟨q + 1, dd, by omega, by first | rfl | trivial, by go_num, by first | exact hbel | exact hbel.trans ⟨rfl, rfl, rfl, Nat.le_refl _, fun _ _ => rfl⟩, hdd, HI⟩
            case measure => simp [intOf]; omega
        · as_aux_lemma =>
          obtain rfl : q = 16 := by omega
          have hd9 : dd = (hexV t[k + 1]).getD 0 := by
            rcases hinv.out with ⟨x, h1, h2, h3⟩ | ⟨h1, h2⟩
            · rw [h3, HCA.out x h1 h2]
            · rw [h2, HCN.out h1]
          have HY := Lib.hid (HN.out dd hd9)
          obtain ⟨y, hy⟩ : ∃ y, (n * 16 % 18446744073709551616 + dd) % 18446744073709551616 = y := ⟨_, rfl⟩
          rw [hy] at HY
          have hyl : y < 18446744073709551616 := by rw [← hy]; exact Nat.mod_lt _ (by omega)
          have hyI : (y : Int) = IntKind.u64.wrap (IntKind.u64.wrap ((n : Int) * 16) + (dd : Int)) := by rw [IntKind.wrap_u64, IntKind.wrap_u64]; omega
          have HYI := Lib.hid hyI
          have HYL := Lib.hid hyl
          clear hd9 hinv HN HCA HCN HCU hy hyl hyI hnl
          go_wp2
          go_roundw
          case rel => exact ⟨k + 1, y, by omega, by first | exact congrArg (Value.int .u64) HYI.out.symm | (rw [HYI.out]), by first | go_num | (congr 1; omega), hbel, HYL.out, HY⟩
          case measure => simp [intOf]; omega
    · as_aux_lemma =>
      have hge : t.toList.drop 1 = (t.toList.drop 1).take k := (List.take_of_length_le (by rw [List.length_drop, len_list]; omega)).symm
      have HZ := Lib.hid (HR.out n (by rw [hge]; exact hn.out))
      have hltI : ¬ (k : Int) + 1 < (t.size : Int) := by omega
      have HC := Lib.hid (rcanon_any n hnl)
      rw [HZ.out] at HC
      clear hge hn
      go_wp2_with fail
      refine (HC.out wr).mono ?_
      rintro r w2 ⟨rfl, rfl⟩
      go_wp2
      go_ret
      exact ⟨rfl, hbel⟩
end Go.Proofs.YtpakcicbojbonaaGreatDoor
