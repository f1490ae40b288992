/- Contracts of the program's functions of layer 3: places and kinds. No conditions. -/
import Derived.Test.YtpakcicbojbonaaGreatDoorSchC
namespace Go.Proofs.YtpakcicbojbonaaGreatDoor
set_option maxRecDepth 10000
open Go.RowKit

/-- A place among n names, told by the closure of Type, each told by a closure that captured one variable. -/
theorem findType (l : List ByteArray) (p : Addr) (s : ByteArray) (B n : Nat) (w : World) (hn : n = l.length) (hm : l.length ≤ maxLen)
    (hcall : ∀ (i : Nat) (hi : i < l.length) (wr : World), Below B w wr → Calls Tryz.prog 27 #[.int .i64 i, .pointer (some p)] wr fun e w' => e = .returned (.string l[i]) ∧ wr = w') :
    Calls Tryz.prog 26 #[.int .i64 n, .func (.func 27) #[] #[.pointer (some p)], .string s] w fun e w' => e = .returned (.int .i64 (atFrom s.toList 0 (l.map (·.toList)))) ∧ w = w' := by
  subst hn
  unfold maxLen at hm
  have H := Lib.hid hcall; clear hcall
  go_enter Tryz.func26, Tryz.ntmps26
  go_wp2
  go_loop [6, 7, 9] (fun _ _ i => ∃ k : Nat, k ≤ l.length ∧ i = .int .i64 k ∧ Hid (atFrom s.toList 0 (l.map (·.toList)) = atFrom s.toList k ((l.drop k).map (·.toList)))) (fun _ _ i => l.length - (intOf i).toNat)
  case atStart => exact ⟨0, Nat.zero_le _, rfl, rfl⟩
  case round =>
    obtain ⟨k, hk, rfl, hrec⟩ := hrel
    by_cases hlt : k < l.length
    · rw [List.drop_eq_getElem_cons hlt] at hrec
      go_wp2_with (go_at_call 27; refine (H.out k hlt _ (Below.refl _ _)).mono ?_; rintro e w' ⟨rfl, rfl⟩)
      · go_ret
        have ht : (l[k].toList == s.toList) = true := by assumption
        exact ⟨ret_int (by rw [hrec.out, List.map_cons, atFrom, if_pos ht]), rfl⟩
      · have ht : (l[k].toList == s.toList) = false := by assumption
        go_round
        case rel => exact ⟨k + 1, by omega, by go_num, by rw [hrec.out, List.map_cons, atFrom, ht]; rfl⟩
        case measure => simp [intOf]; omega
    · go_wp2
      go_ret
      refine ⟨ret_int ?_, rfl⟩
      rw [hrec.out, List.drop_eq_nil_of_le (by omega)]; rfl
/-- A place among n names, told by the closure of Sym, each told by a closure that captured one variable. -/
theorem findSym (l : List ByteArray) (p : Addr) (s : ByteArray) (B n : Nat) (w : World) (hn : n = l.length) (hm : l.length ≤ maxLen)
    (hcall : ∀ (i : Nat) (hi : i < l.length) (wr : World), Below B w wr → Calls Tryz.prog 55 #[.int .i64 i, .pointer (some p)] wr fun e w' => e = .returned (.string l[i]) ∧ wr = w') :
    Calls Tryz.prog 26 #[.int .i64 n, .func (.func 55) #[] #[.pointer (some p)], .string s] w fun e w' => e = .returned (.int .i64 (atFrom s.toList 0 (l.map (·.toList)))) ∧ w = w' := by
  subst hn
  unfold maxLen at hm
  have H := Lib.hid hcall; clear hcall
  go_enter Tryz.func26, Tryz.ntmps26
  go_wp2
  go_loop [6, 7, 9] (fun _ _ i => ∃ k : Nat, k ≤ l.length ∧ i = .int .i64 k ∧ Hid (atFrom s.toList 0 (l.map (·.toList)) = atFrom s.toList k ((l.drop k).map (·.toList)))) (fun _ _ i => l.length - (intOf i).toNat)
  case atStart => exact ⟨0, Nat.zero_le _, rfl, rfl⟩
  case round =>
    obtain ⟨k, hk, rfl, hrec⟩ := hrel
    by_cases hlt : k < l.length
    · rw [List.drop_eq_getElem_cons hlt] at hrec
      go_wp2_with (go_at_call 55; refine (H.out k hlt _ (Below.refl _ _)).mono ?_; rintro e w' ⟨rfl, rfl⟩)
      · go_ret
        have ht : (l[k].toList == s.toList) = true := by assumption
        exact ⟨ret_int (by rw [hrec.out, List.map_cons, atFrom, if_pos ht]), rfl⟩
      · have ht : (l[k].toList == s.toList) = false := by assumption
        go_round
        case rel => exact ⟨k + 1, by omega, by go_num, by rw [hrec.out, List.map_cons, atFrom, ht]; rfl⟩
        case measure => simp [intOf]; omega
    · go_wp2
      go_ret
      refine ⟨ret_int ?_, rfl⟩
      rw [hrec.out, List.drop_eq_nil_of_le (by omega)]; rfl

theorem ptype_any (s : SchemaV) (nm : ByteArray) (w : World) (h : s.ok w w.heap.size) :
    Calls Tryz.prog 11 #[s.val, .string nm] w fun e w' => e = .returned (.int .i64 (typeAt s nm.toList)) ∧ Below w.heap.size w w' := by
  obtain ⟨rd, len, each, srd, slen, _⟩ := h
  have hcall : ∀ (i : Nat) (hi : i < (s.types.map (·.name)).length) (wr : World), Below (w.heap.size + 1) (w.alloc (.cells #[.slice s.ta s.types.length s.tc, .slice s.sa s.syms.length s.sc] 33)) wr →
      Calls Tryz.prog 27 #[.int .i64 i, .pointer (some ⟨w.heap.size, 0, none⟩)] wr fun e w' => e = .returned (.string (s.types.map (·.name))[i]) ∧ wr = w' := by
    intro i hi wr hbel
    have hlt : i < s.types.length := by simpa using hi
    obtain ⟨b, o, hfa, hb, hc⟩ := rd.elem (n := 2) (fun _ => rfl) (by omega) hlt
    have hc0 : wr.cell? ⟨b, o + i * 2, none⟩ = some (.string s.types[i].name) := by
      rw [hbel.cell (by simp; omega), World.cell?_alloc_lt _ _ _ (by simpa using hb)]; exact hc 0 _ rfl
    have hs : wr.cell? ⟨w.heap.size, 0, none⟩ = some (.slice s.ta s.types.length s.tc) := by
      rw [hbel.cell (by simp)]; go_simp
    rw [hfa] at hs
    simp only [List.getElem_map]
    clear hc
    go_enter Tryz.func27, Tryz.ntmps27
    go_wp2
    go_ret
    exact ⟨rfl, rfl⟩
  have H := Lib.hid hcall; clear hcall
  have hm : (s.types.map (·.name)).length ≤ maxLen := by simp [maxLen]; omega
  unfold SchemaV.val
  go_enter Tryz.func11, Tryz.ntmps11
  go_wp2_with (go_at_call 26; refine (findType (s.types.map (·.name)) _ nm (w.heap.size + 1) _ _ (by simp) hm H.out).mono ?_; rintro e w' ⟨rfl, rfl⟩)
  go_ret
  exact ⟨ret_int rfl, (Below.refl _ _).alloc (Nat.le_refl _) _⟩

theorem psym_any (s : SchemaV) (nm : ByteArray) (w : World) (h : s.ok w w.heap.size) :
    Calls Tryz.prog 34 #[s.val, .string nm] w fun e w' => e = .returned (.int .i64 (atFrom nm.toList 0 (s.syms.map (·.toList)))) ∧ Below w.heap.size w w' := by
  obtain ⟨rd, len, each, srd, slen, _⟩ := h
  have hcall : ∀ (i : Nat) (hi : i < s.syms.length) (wr : World), Below (w.heap.size + 1) (w.alloc (.cells #[.slice s.ta s.types.length s.tc, .slice s.sa s.syms.length s.sc] 33)) wr →
      Calls Tryz.prog 55 #[.int .i64 i, .pointer (some ⟨w.heap.size, 0, none⟩)] wr fun e w' => e = .returned (.string s.syms[i]) ∧ wr = w' := by
    intro i hlt wr hbel
    obtain ⟨b, o, hfa, hb, hc⟩ := srd.elem1 hlt
    have hc0 : wr.cell? ⟨b, o + i, none⟩ = some (.string s.syms[i]) := by
      rw [hbel.cell (by simp; omega), World.cell?_alloc_lt _ _ _ (by simpa using hb)]; exact hc
    have hs : wr.cell? ⟨w.heap.size, 1, none⟩ = some (.slice s.sa s.syms.length s.sc) := by
      rw [hbel.cell (by simp)]; go_simp
    rw [hfa] at hs
    clear hc
    go_enter Tryz.func55, Tryz.ntmps55
    go_wp2
    go_ret
    exact ⟨rfl, rfl⟩
  have H := Lib.hid hcall; clear hcall
  have hm : s.syms.length ≤ maxLen := by simp [maxLen]; omega
  unfold SchemaV.val
  go_enter Tryz.func34, Tryz.ntmps34
  go_wp2_with (go_at_call 26; refine (findSym s.syms _ nm (w.heap.size + 1) _ _ rfl hm H.out).mono ?_; rintro e w' ⟨rfl, rfl⟩)
  go_ret
  exact ⟨rfl, (Below.refl _ _).alloc (Nat.le_refl _) _⟩

end Go.Proofs.YtpakcicbojbonaaGreatDoor
