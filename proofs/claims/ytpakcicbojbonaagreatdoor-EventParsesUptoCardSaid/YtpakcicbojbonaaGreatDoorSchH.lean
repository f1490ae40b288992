/- Contract of the program's names of layer 3 (a map counts what was there): are all of them names, and none twice? No conditions. -/
import Derived.Test.YtpakcicbojbonaaGreatDoorSchG
import Derived.Maps.OwnOps
namespace Go.Proofs.YtpakcicbojbonaaGreatDoor
set_option maxRecDepth 10000
open Go.RowKit Go.WideMaps Go.Maps

theorem smap : Keyed Tryz.prog 9 := string_keyed Tryz.underlying9
theorem zeroI (w : World) : (zeroValue 3).run Tryz.prog w = .ok (.int .i64 0) w := by kernel_rfl

/-- Is one of the rest no name, or there twice (what stood ahead counts)? -/
def badFrom (pre : List (List UInt8)) : List (List UInt8) → Bool
  | [] => false
  | x :: r => if nameB x then (if pre.contains x then true else badFrom (pre ++ [x]) r) else true
def badB (l : List (List UInt8)) : Bool := badFrom [] l

def cnt (pre : List (List UInt8)) (x : List UInt8) : Int := if pre.contains x then 1 else 0
/-- The map D counts just what stands in pre. -/
def Counts (D : DataW Unit) (pre : List (List UInt8)) : Prop := IsMap D ∧ ∀ s : ByteArray, D.atKey (.string s.data.toList) (.lit (.int .i64 0)) = .lit (.int .i64 (cnt pre s.toList))
theorem counts_nil : Counts (.map []) [] := ⟨⟨[], rfl⟩, fun _ => rfl⟩
theorem counts_put {D : DataW Unit} {pre : List (List UInt8)} (h : Counts D pre) (x : ByteArray): Counts (D.put (.string x.data.toList) (.lit (.int .i64 1))) (pre ++ [x.toList]) := by
  obtain ⟨⟨es, rfl⟩, hc⟩ := h
  refine ⟨⟨_, rfl⟩, fun s => ?_⟩
  by_cases he : s.toList = x.toList
  · have hd : s.data.toList = x.data.toList := by rw [← ByteArray.toList_eq, ← ByteArray.toList_eq, he]
    rw [hd, atKey_put_same ⟨es, rfl⟩ (show WideAt.IsKeyLit (.string x.data.toList) from trivial)]
    simp [cnt, he]
  · have hd : (Lit.string s.data.toList) ≠ .string x.data.toList := by
      intro h
      injection h with h
      exact he (by rw [ByteArray.toList_eq, ByteArray.toList_eq, h])
    rw [atKey_put_other hd, hc s]
    simp [cnt, he]
theorem grown_of {w w' : World} (h : Below w.heap.size w w') (row : Option Nat) : w.grownBy w' row := ⟨h.os, h.tape, h.output, h.size, fun k hk _ => h.block k hk⟩

theorem namesType (l : List ByteArray) (p : Addr) (B n : Nat) (w : World) (hn : n = l.length) (hm : l.length ≤ 8796093021952) (hs : ∀ x ∈ l, x.size ≤ 140737488351232) (hB : B ≤ w.heap.size)
    (hcall : ∀ (i : Nat) (hi : i < l.length) (wr : World), Below B w wr → Calls Tryz.prog 29 #[.int .i64 i, .pointer (some p)] wr fun e w' => e = .returned (.string l[i]) ∧ wr = w') :
    Calls Tryz.prog 28 #[.int .i64 n, .func (.func 29) #[] #[.pointer (some p)]] w fun e w' => e = .returned (.bool (!badB (l.map (·.toList)))) ∧ Below w.heap.size w w' := by
  subst hn
  have H := Lib.hid hcall; clear hcall
  have hmm := @run_makeMap Tryz.prog
  go_enter Tryz.func28, Tryz.ntmps28
  go_wp2
  clear hmm
  go_loopw [10] (fun i wr => ∃ (k : Nat) (D : DataW Unit), k ≤ l.length ∧ i = .int .i64 k ∧ Below w.heap.size w wr ∧ wr.ownsMap Tryz.prog 9 (plainElem Tryz.prog 3) w.heap.size k D ∧ Counts D ((l.take k).map (·.toList)) ∧
      Hid (badB (l.map (·.toList)) = badFrom ((l.take k).map (·.toList)) ((l.drop k).map (·.toList)))) (fun i _ => l.length - (intOf i).toNat)
  case atStart => exact ⟨0, .map [], Nat.zero_le _, rfl, (Below.refl _ _).alloc (Nat.le_refl _) _, World.ownsMap_made _ _ _ _, counts_nil, rfl⟩
  case round =>
    obtain ⟨k, D, hk, rfl, hbel, hown, hcnt, hrec⟩ := hrel
    by_cases hlt : k < l.length
    · rw [List.drop_eq_getElem_cons hlt, List.map_cons, badFrom] at hrec
      go_wp2_with fail
      refine (H.out k hlt _ (hbel.mono hB)).mono ?_
      rintro e w' ⟨rfl, rfl⟩
      obtain ⟨x, hx⟩ : ∃ x, x = l[k] := ⟨_, rfl⟩
      rw [← hx]
      rw [← hx] at hrec
      have hsz : x.size ≤ 140737488351232 := by rw [hx]; exact hs _ (List.getElem_mem _)
      have HX := Lib.hid hx; clear hx
      have hkey : keyOf Tryz.prog 9 (.string x) = some (.string x.data.toList) := keyOf_string_mk Tryz.underlying9 (by unfold maxLen; omega)
      obtain ⟨c, hrun, hat, _⟩ := hown.lookup_int smap Tryz.underlying106 Tryz.underlying3 (zeroI _) hkey
      have hc : c = cnt ((l.take k).map (·.toList)) x.toList := by
        have := (hcnt.2 x).symm.trans hat
        simp only [DataW.lit.injEq, Lit.int.injEq, true_and] at this
        exact this.symm
      have hc0 : 0 ≤ c := by rw [hc]; unfold cnt; split <;> decide
      have hc1 : c ≤ 1 := by rw [hc]; unfold cnt; split <;> decide
      have HC := Lib.hid hc; clear hc
      go_wp2_with (at_mapUpdate; refine wpList_mapUpdate_own _ rfl _ _ _ 106 rfl 9 3 smap Tryz.underlying106 _ w.heap.size k D rfl hown (by unfold maxLen; omega) (.string x) (.int .i64 (c + 1)) (.string x.data.toList) rfl rfl hkey (.lit (.int .i64 (c + 1))) [] (plainElem_int Tryz.underlying3 ?hwf) ?_)
      case hwf => simp [Lit.wf, IntKind.min, IntKind.max, IntKind.signed, IntKind.bits]; omega
      intro w1 hown1 hg1
      have hbel1 : Below w.heap.size w w1 := hbel.grown hg1 hbel.size (fun j hj => by cases hj; exact Nat.le_refl _)
      clear hrun hat hown hg1
      go_wp2_with fail
      refine (pname_any _ _).mono ?_
      rintro e w2 ⟨rfl, hb2⟩
      have hown2 := hown1.kept (grown_of hb2 none) (by simp)
      have hbel2 := hbel1.trans (hb2.mono hbel1.size)
      clear hb2 hown1 hbel1
      obtain ⟨c2, hrun, hat, _⟩ := hown2.lookup_int smap Tryz.underlying106 Tryz.underlying3 (zeroI _) hkey
      have hc2 : c2 = c + 1 := by
        rw [atKey_put_same hcnt.1 (show WideAt.IsKeyLit (.string x.data.toList) from trivial)] at hat
        simp only [DataW.lit.injEq, Lit.int.injEq, true_and] at hat
        exact hat.symm
      subst hc2
      cases hnm : nameB x.toList
      · go_wp2
        go_ret
        exact ⟨ret_bool (by rw [hrec.out, hnm]; rfl), hbel2⟩
      · by_cases hin : ((l.take k).map (·.toList)).contains x.toList = true
        · obtain rfl : c = 1 := by rw [HC.out, cnt, if_pos hin]
          have HI := Lib.hid hin; clear hin
          go_wp2
          go_ret
          exact ⟨ret_bool (by rw [hrec.out, hnm, if_pos rfl, if_pos HI.out]; rfl), hbel2⟩
        · obtain rfl : c = 0 := by rw [HC.out, cnt, if_neg hin]
          have hin : ((l.take k).map (·.toList)).contains x.toList = false := by simpa using hin
          have HI := Lib.hid hin; clear hin
          go_wp2
          go_roundw
          case rel =>
            have e : (l.take (k + 1)).map (·.toList) = (l.take k).map (·.toList) ++ [x.toList] := by rw [List.take_succ_eq_append_getElem hlt, List.map_append, ← HX.out]; rfl
            refine ⟨k + 1, _, by omega, by go_num, hbel2, hown2, ?_, ?_⟩
            · rw [e]; exact counts_put hcnt x
            · rw [e]
              have h := hrec.out
              rw [hnm, if_pos rfl, HI.out] at h
              exact h
          case measure => simp [intOf]; omega
    · go_wp2
      go_ret
      exact ⟨ret_bool (by rw [hrec.out, List.drop_eq_nil_of_le (by omega)]; rfl), hbel⟩
theorem namesSym (l : List ByteArray) (p : Addr) (B n : Nat) (w : World) (hn : n = l.length) (hm : l.length ≤ 8796093021952) (hs : ∀ x ∈ l, x.size ≤ 140737488351232) (hB : B ≤ w.heap.size)
    (hcall : ∀ (i : Nat) (hi : i < l.length) (wr : World), Below B w wr → Calls Tryz.prog 30 #[.int .i64 i, .pointer (some p)] wr fun e w' => e = .returned (.string l[i]) ∧ wr = w') :
    Calls Tryz.prog 28 #[.int .i64 n, .func (.func 30) #[] #[.pointer (some p)]] w fun e w' => e = .returned (.bool (!badB (l.map (·.toList)))) ∧ Below w.heap.size w w' := by
  subst hn
  have H := Lib.hid hcall; clear hcall
  have hmm := @run_makeMap Tryz.prog
  go_enter Tryz.func28, Tryz.ntmps28
  go_wp2
  clear hmm
  go_loopw [10] (fun i wr => ∃ (k : Nat) (D : DataW Unit), k ≤ l.length ∧ i = .int .i64 k ∧ Below w.heap.size w wr ∧ wr.ownsMap Tryz.prog 9 (plainElem Tryz.prog 3) w.heap.size k D ∧ Counts D ((l.take k).map (·.toList)) ∧
      Hid (badB (l.map (·.toList)) = badFrom ((l.take k).map (·.toList)) ((l.drop k).map (·.toList)))) (fun i _ => l.length - (intOf i).toNat)
  case atStart => exact ⟨0, .map [], Nat.zero_le _, rfl, (Below.refl _ _).alloc (Nat.le_refl _) _, World.ownsMap_made _ _ _ _, counts_nil, rfl⟩
  case round =>
    obtain ⟨k, D, hk, rfl, hbel, hown, hcnt, hrec⟩ := hrel
    by_cases hlt : k < l.length
    · rw [List.drop_eq_getElem_cons hlt, List.map_cons, badFrom] at hrec
      go_wp2_with fail
      refine (H.out k hlt _ (hbel.mono hB)).mono ?_
      rintro e w' ⟨rfl, rfl⟩
      obtain ⟨x, hx⟩ : ∃ x, x = l[k] := ⟨_, rfl⟩
      rw [← hx]
      rw [← hx] at hrec
      have hsz : x.size ≤ 140737488351232 := by rw [hx]; exact hs _ (List.getElem_mem _)
      have HX := Lib.hid hx; clear hx
      have hkey : keyOf Tryz.prog 9 (.string x) = some (.string x.data.toList) := keyOf_string_mk Tryz.underlying9 (by unfold maxLen; omega)
      obtain ⟨c, hrun, hat, _⟩ := hown.lookup_int smap Tryz.underlying106 Tryz.underlying3 (zeroI _) hkey
      have hc : c = cnt ((l.take k).map (·.toList)) x.toList := by
        have := (hcnt.2 x).symm.trans hat
        simp only [DataW.lit.injEq, Lit.int.injEq, true_and] at this
        exact this.symm
      have hc0 : 0 ≤ c := by rw [hc]; unfold cnt; split <;> decide
      have hc1 : c ≤ 1 := by rw [hc]; unfold cnt; split <;> decide
      have HC := Lib.hid hc; clear hc
      go_wp2_with (at_mapUpdate; refine wpList_mapUpdate_own _ rfl _ _ _ 106 rfl 9 3 smap Tryz.underlying106 _ w.heap.size k D rfl hown (by unfold maxLen; omega) (.string x) (.int .i64 (c + 1)) (.string x.data.toList) rfl rfl hkey (.lit (.int .i64 (c + 1))) [] (plainElem_int Tryz.underlying3 ?hwf) ?_)
      case hwf => simp [Lit.wf, IntKind.min, IntKind.max, IntKind.signed, IntKind.bits]; omega
      intro w1 hown1 hg1
      have hbel1 : Below w.heap.size w w1 := hbel.grown hg1 hbel.size (fun j hj => by cases hj; exact Nat.le_refl _)
      clear hrun hat hown hg1
      go_wp2_with fail
      refine (pname_any _ _).mono ?_
      rintro e w2 ⟨rfl, hb2⟩
      have hown2 := hown1.kept (grown_of hb2 none) (by simp)
      have hbel2 := hbel1.trans (hb2.mono hbel1.size)
      clear hb2 hown1 hbel1
      obtain ⟨c2, hrun, hat, _⟩ := hown2.lookup_int smap Tryz.underlying106 Tryz.underlying3 (zeroI _) hkey
      have hc2 : c2 = c + 1 := by
        rw [atKey_put_same hcnt.1 (show WideAt.IsKeyLit (.string x.data.toList) from trivial)] at hat
        simp only [DataW.lit.injEq, Lit.int.injEq, true_and] at hat
        exact hat.symm
      subst hc2
      cases hnm : nameB x.toList
      · go_wp2
        go_ret
        exact ⟨ret_bool (by rw [hrec.out, hnm]; rfl), hbel2⟩
      · by_cases hin : ((l.take k).map (·.toList)).contains x.toList = true
        · obtain rfl : c = 1 := by rw [HC.out, cnt, if_pos hin]
          have HI := Lib.hid hin; clear hin
          go_wp2
          go_ret
          exact ⟨ret_bool (by rw [hrec.out, hnm, if_pos rfl, if_pos HI.out]; rfl), hbel2⟩
        · obtain rfl : c = 0 := by rw [HC.out, cnt, if_neg hin]
          have hin : ((l.take k).map (·.toList)).contains x.toList = false := by simpa using hin
          have HI := Lib.hid hin; clear hin
          go_wp2
          go_roundw
          case rel =>
            have e : (l.take (k + 1)).map (·.toList) = (l.take k).map (·.toList) ++ [x.toList] := by rw [List.take_succ_eq_append_getElem hlt, List.map_append, ← HX.out]; rfl
            refine ⟨k + 1, _, by omega, by go_num, hbel2, hown2, ?_, ?_⟩
            · rw [e]; exact counts_put hcnt x
            · rw [e]
              have h := hrec.out
              rw [hnm, if_pos rfl, HI.out] at h
              exact h
          case measure => simp [intOf]; omega
    · go_wp2
      go_ret
      exact ⟨ret_bool (by rw [hrec.out, List.drop_eq_nil_of_le (by omega)]; rfl), hbel⟩
theorem namesField (l : List ByteArray) (p : Addr) (B n : Nat) (w : World) (hn : n = l.length) (hm : l.length ≤ 8796093021952) (hs : ∀ x ∈ l, x.size ≤ 140737488351232) (hB : B ≤ w.heap.size)
    (hcall : ∀ (i : Nat) (hi : i < l.length) (wr : World), Below B w wr → Calls Tryz.prog 31 #[.int .i64 i, .pointer (some p)] wr fun e w' => e = .returned (.string l[i]) ∧ wr = w') :
    Calls Tryz.prog 28 #[.int .i64 n, .func (.func 31) #[] #[.pointer (some p)]] w fun e w' => e = .returned (.bool (!badB (l.map (·.toList)))) ∧ Below w.heap.size w w' := by
  subst hn
  have H := Lib.hid hcall; clear hcall
  have hmm := @run_makeMap Tryz.prog
  go_enter Tryz.func28, Tryz.ntmps28
  go_wp2
  clear hmm
  go_loopw [10] (fun i wr => ∃ (k : Nat) (D : DataW Unit), k ≤ l.length ∧ i = .int .i64 k ∧ Below w.heap.size w wr ∧ wr.ownsMap Tryz.prog 9 (plainElem Tryz.prog 3) w.heap.size k D ∧ Counts D ((l.take k).map (·.toList)) ∧
      Hid (badB (l.map (·.toList)) = badFrom ((l.take k).map (·.toList)) ((l.drop k).map (·.toList)))) (fun i _ => l.length - (intOf i).toNat)
  case atStart => exact ⟨0, .map [], Nat.zero_le _, rfl, (Below.refl _ _).alloc (Nat.le_refl _) _, World.ownsMap_made _ _ _ _, counts_nil, rfl⟩
  case round =>
    obtain ⟨k, D, hk, rfl, hbel, hown, hcnt, hrec⟩ := hrel
    by_cases hlt : k < l.length
    · rw [List.drop_eq_getElem_cons hlt, List.map_cons, badFrom] at hrec
      go_wp2_with fail
      refine (H.out k hlt _ (hbel.mono hB)).mono ?_
      rintro e w' ⟨rfl, rfl⟩
      obtain ⟨x, hx⟩ : ∃ x, x = l[k] := ⟨_, rfl⟩
      rw [← hx]
      rw [← hx] at hrec
      have hsz : x.size ≤ 140737488351232 := by rw [hx]; exact hs _ (List.getElem_mem _)
      have HX := Lib.hid hx; clear hx
      have hkey : keyOf Tryz.prog 9 (.string x) = some (.string x.data.toList) := keyOf_string_mk Tryz.underlying9 (by unfold maxLen; omega)
      obtain ⟨c, hrun, hat, _⟩ := hown.lookup_int smap Tryz.underlying106 Tryz.underlying3 (zeroI _) hkey
      have hc : c = cnt ((l.take k).map (·.toList)) x.toList := by
        have := (hcnt.2 x).symm.trans hat
        simp only [DataW.lit.injEq, Lit.int.injEq, true_and] at this
        exact this.symm
      have hc0 : 0 ≤ c := by rw [hc]; unfold cnt; split <;> decide
      have hc1 : c ≤ 1 := by rw [hc]; unfold cnt; split <;> decide
      have HC := Lib.hid hc; clear hc
      go_wp2_with (at_mapUpdate; refine wpList_mapUpdate_own _ rfl _ _ _ 106 rfl 9 3 smap Tryz.underlying106 _ w.heap.size k D rfl hown (by unfold maxLen; omega) (.string x) (.int .i64 (c + 1)) (.string x.data.toList) rfl rfl hkey (.lit (.int .i64 (c + 1))) [] (plainElem_int Tryz.underlying3 ?hwf) ?_)
      case hwf => simp [Lit.wf, IntKind.min, IntKind.max, IntKind.signed, IntKind.bits]; omega
      intro w1 hown1 hg1
      have hbel1 : Below w.heap.size w w1 := hbel.grown hg1 hbel.size (fun j hj => by cases hj; exact Nat.le_refl _)
      clear hrun hat hown hg1
      go_wp2_with fail
      refine (pname_any _ _).mono ?_
      rintro e w2 ⟨rfl, hb2⟩
      have hown2 := hown1.kept (grown_of hb2 none) (by simp)
      have hbel2 := hbel1.trans (hb2.mono hbel1.size)
      clear hb2 hown1 hbel1
      obtain ⟨c2, hrun, hat, _⟩ := hown2.lookup_int smap Tryz.underlying106 Tryz.underlying3 (zeroI _) hkey
      have hc2 : c2 = c + 1 := by
        rw [atKey_put_same hcnt.1 (show WideAt.IsKeyLit (.string x.data.toList) from trivial)] at hat
        simp only [DataW.lit.injEq, Lit.int.injEq, true_and] at hat
        exact hat.symm
      subst hc2
      cases hnm : nameB x.toList
      · go_wp2
        go_ret
        exact ⟨ret_bool (by rw [hrec.out, hnm]; rfl), hbel2⟩
      · by_cases hin : ((l.take k).map (·.toList)).contains x.toList = true
        · obtain rfl : c = 1 := by rw [HC.out, cnt, if_pos hin]
          have HI := Lib.hid hin; clear hin
          go_wp2
          go_ret
          exact ⟨ret_bool (by rw [hrec.out, hnm, if_pos rfl, if_pos HI.out]; rfl), hbel2⟩
        · obtain rfl : c = 0 := by rw [HC.out, cnt, if_neg hin]
          have hin : ((l.take k).map (·.toList)).contains x.toList = false := by simpa using hin
          have HI := Lib.hid hin; clear hin
          go_wp2
          go_roundw
          case rel =>
            have e : (l.take (k + 1)).map (·.toList) = (l.take k).map (·.toList) ++ [x.toList] := by rw [List.take_succ_eq_append_getElem hlt, List.map_append, ← HX.out]; rfl
            refine ⟨k + 1, _, by omega, by go_num, hbel2, hown2, ?_, ?_⟩
            · rw [e]; exact counts_put hcnt x
            · rw [e]
              have h := hrec.out
              rw [hnm, if_pos rfl, HI.out] at h
              exact h
          case measure => simp [intOf]; omega
    · go_wp2
      go_ret
      exact ⟨ret_bool (by rw [hrec.out, List.drop_eq_nil_of_le (by omega)]; rfl), hbel⟩

/-- The document's bad: is one of a list no name, or there twice? -/
theorem bad_any (A : Option Addr) (c : Nat) (l : List ByteArray) (B : Nat) (w : World) (h : Rd w B A (l.map .string)) (hB : B ≤ w.heap.size) (hm : l.length ≤ maxLen) :
    Calls Tryz.prog 38 #[.slice A l.length c] w fun e w' => e = .returned (.bool (badB (l.map (·.toList)))) ∧ Below w.heap.size w w' := by
  unfold maxLen at hm
  go_enter Tryz.func38, Tryz.ntmps38
  go_wp2
  go_loopw [8] (fun i wr => ∃ k : Nat, k ≤ l.length ∧ i = .int .i64 k ∧ Below w.heap.size w wr ∧ Hid (badB (l.map (·.toList)) = badFrom ((l.take k).map (·.toList)) ((l.drop k).map (·.toList)))) (fun i _ => l.length - (intOf i).toNat)
  case atStart => exact ⟨0, Nat.zero_le _, rfl, Below.refl _ _, rfl⟩
  case round =>
    obtain ⟨k, hk, rfl, hbel, hrec⟩ := hrel
    obtain ⟨wo, rfl⟩ : ∃ wo : World, wo = wr := ⟨_, rfl⟩
    by_cases hlt : k < l.length
    · obtain ⟨b, o, hA, hb, hc⟩ := (h.below (hbel.mono hB)).elem1 hlt
      rw [List.drop_eq_getElem_cons hlt, List.map_cons, badFrom] at hrec
      obtain ⟨x, hx⟩ : ∃ x, x = l[k] := ⟨_, rfl⟩
      rw [← hx] at hrec hc
      have HX := Lib.hid hx; clear hx
      have hA0 := hA
      rw [hA]
      have HA := Lib.hid hA; clear hA hA0
      go_wp2_with fail
      refine (rname_any _ _).mono ?_
      rintro e w2 ⟨rfl, hb2⟩
      have hbel2 := hbel.trans (hb2.mono hbel.size)
      clear hb2 hc
      cases hnm : nameB x.toList
      · go_wp2
        go_ret
        exact ⟨ret_bool (by rw [hrec.out, hnm]; rfl), hbel2⟩
      · rw [hnm, if_pos rfl] at hrec
        clear hnm
        go_wp2
        go_loop [5] (fun i => ∃ j : Nat, j ≤ k ∧ i = .int .i64 j ∧ Hid (((l.take k).map (·.toList)).contains x.toList = (((l.take k).drop j).map (·.toList)).contains x.toList)) (fun i => k - (intOf i).toNat)
        case atStart => exact ⟨0, Nat.zero_le _, rfl, rfl⟩
        case round =>
          obtain ⟨j, hj, rfl, hin⟩ := hrel
          by_cases hlj : j < k
          · obtain ⟨b2, o2, hA2, hb2, hc2⟩ := (h.below (hbel2.mono hB)).elem1 (k := j) (by omega)
            rw [HA.out] at hA2
            injection hA2 with hA2
            injection hA2 with e1 e2
            subst e1; subst e2
            have hjl : j < (l.take k).length := by rw [List.length_take]; omega
            rw [List.drop_eq_getElem_cons hjl, List.map_cons, List.contains_cons, List.getElem_take] at hin
            obtain ⟨y, hy⟩ : ∃ y, y = l[j] := ⟨_, rfl⟩
            rw [← hy] at hin hc2
            clear hy
            have hlk : (j : Int) < (l.length : Int) := by omega
            go_wp2
            · go_ret
              have ht : (y.toList == x.toList) = true := by assumption
              have ht2 : (x.toList == y.toList) = true := by rw [beq_iff_eq] at ht ⊢; exact ht.symm
              refine ⟨ret_bool ?_, hbel2⟩
              rw [hrec.out, hin.out, ht2, Bool.true_or]
              rfl
            · have ht : (y.toList == x.toList) = false := by assumption
              have ht2 : (x.toList == y.toList) = false := by rw [beq_eq_false_iff_ne] at ht ⊢; exact ht.symm
              go_round
              case rel => exact ⟨j + 1, by omega, by go_num, by rw [hin.out, ht2, Bool.false_or]; rfl⟩
              case measure => simp [intOf]; omega
          · go_wp2
            have hno : ((l.take k).map (·.toList)).contains x.toList = false := by
              rw [hin.out, List.drop_eq_nil_of_le (by rw [List.length_take]; omega)]; rfl
            have HN := Lib.hid hno; clear hno
            go_roundw
            case rel =>
              refine ⟨k + 1, by omega, by go_num, hbel2, ?_⟩
              have e : (l.take (k + 1)).map (·.toList) = (l.take k).map (·.toList) ++ [x.toList] := by rw [List.take_succ_eq_append_getElem hlt, List.map_append, ← HX.out]; rfl
              have h := hrec.out
              rw [HN.out] at h
              rw [e]
              exact h
            case measure => simp [intOf]; omega
    · go_wp2
      go_ret
      exact ⟨ret_bool (by rw [hrec.out, List.drop_eq_nil_of_le (by omega)]; rfl), hbel⟩
end Go.Proofs.YtpakcicbojbonaaGreatDoor
