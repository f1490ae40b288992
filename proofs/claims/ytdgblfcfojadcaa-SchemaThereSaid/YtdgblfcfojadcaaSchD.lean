/- Contracts of the program's functions of layer 3: places and kinds. No conditions. -/
import Derived.Test.YtdgblfcfojadcaaSchC
namespace Go.Proofs.Ytdgblfcfojadcaa
open Go.RowKit

theorem pkind_any (s : SchemaV) (t a : Int) (w : World) (h : s.ok w w.heap.size) :
    Calls Try.prog 23 #[s.val, .int .i64 t, .int .i64 a] w fun e w' => e = .returned (.int .i64 (kindAt s t a)) ∧ Below w.heap.size w w' := by
  obtain ⟨rd, len, each, srd, slen, _⟩ := h
  by_cases h0 : 0 ≤ t ∧ t < s.types.length
  · obtain ⟨t, rfl⟩ := Int.eq_ofNat_of_zero_le h0.1
    have h1 : t < s.types.length := by omega
    obtain ⟨b, o, ht, hb, hc⟩ := rd.elem (n := 2) (fun _ => rfl) (by omega) h1
    have hc1 : w.cell? ⟨b, o + t * 2 + 1, none⟩ = some (.slice s.types[t].fa s.types[t].fields.length s.types[t].fc) := hc 1 _ rfl
    obtain ⟨frd, flen, _, _⟩ := each s.types[t] (by simp)
    rw [kindAt_some s t a h1]
    clear hc each rd srd h0
    unfold SchemaV.val
    rw [ht]
    generalize s.types[t] = T at *
    by_cases ha : a = -1
    · rw [if_pos ha]
      subst ha
      go_enter Try.func23, Try.ntmps23
      go_wp2
      go_ret
      exact ⟨rfl, (Below.refl _ _).alloc (Nat.le_refl _) _⟩
    · rw [if_neg ha]
      by_cases ha0 : 0 ≤ a
      · obtain ⟨a, rfl⟩ := Int.eq_ofNat_of_zero_le ha0
        rw [if_pos ha0]
        by_cases ha1 : a < T.fields.length
        · obtain ⟨b2, o2, ht2, hb2, hc2⟩ := frd.elem (n := 2) (fun _ => rfl) (by omega) ha1
          have hc3 : w.cell? ⟨b2, o2 + a * 2 + 1, none⟩ = some (.int .i64 T.fields[a].kind) := hc2 1 _ rfl
          rw [ht2] at hc1
          clear hc2 frd
          simp only [Int.toNat_natCast, List.getElem?_eq_getElem ha1]
          go_enter Try.func23, Try.ntmps23
          go_wp2
          go_ret
          exact ⟨rfl, (Below.refl _ _).alloc (Nat.le_refl _) _⟩
        · simp only [Int.toNat_natCast, List.getElem?_eq_none (Nat.le_of_not_lt ha1)]
          go_enter Try.func23, Try.ntmps23
          go_wp2
          go_ret
          exact ⟨rfl, (Below.refl _ _).alloc (Nat.le_refl _) _⟩
      · rw [if_neg ha0]
        go_enter Try.func23, Try.ntmps23
        go_wp2
        go_ret
        exact ⟨rfl, (Below.refl _ _).alloc (Nat.le_refl _) _⟩
  · rw [kindAt_none s t a h0]
    unfold SchemaV.val
    by_cases h1 : t < 0
    · go_enter Try.func23, Try.ntmps23
      go_wp2
      go_ret
      exact ⟨rfl, (Below.refl _ _).alloc (Nat.le_refl _) _⟩
    · have h2 : (s.types.length : Int) ≤ t := by omega
      clear h0
      go_enter Try.func23, Try.ntmps23
      go_wp2
      go_ret
      exact ⟨rfl, (Below.refl _ _).alloc (Nat.le_refl _) _⟩

/-- A place among n names, told by the closure of Type, each told by a closure that captured one variable. -/
theorem findType (l : List ByteArray) (p : Addr) (s : ByteArray) (B n : Nat) (w : World) (hn : n = l.length) (hm : l.length ≤ maxLen)
    (hcall : ∀ (i : Nat) (hi : i < l.length) (wr : World), Below B w wr → Calls Try.prog 32 #[.int .i64 i, .pointer (some p)] wr fun e w' => e = .returned (.string l[i]) ∧ wr = w') :
    Calls Try.prog 31 #[.int .i64 n, .func (.func 32) #[] #[.pointer (some p)], .string s] w fun e w' => e = .returned (.int .i64 (atFrom s.toList 0 (l.map (·.toList)))) ∧ w = w' := by
  subst hn
  unfold maxLen at hm
  have H := Lib.hid hcall; clear hcall
  go_enter Try.func31, Try.ntmps31
  go_wp2
  go_loop [6, 7, 9] (fun _ _ i => ∃ k : Nat, k ≤ l.length ∧ i = .int .i64 k ∧ Hid (atFrom s.toList 0 (l.map (·.toList)) = atFrom s.toList k ((l.drop k).map (·.toList)))) (fun _ _ i => l.length - (intOf i).toNat)
  case atStart => exact ⟨0, Nat.zero_le _, rfl, rfl⟩
  case round =>
    obtain ⟨k, hk, rfl, hrec⟩ := hrel
    by_cases hlt : k < l.length
    · rw [List.drop_eq_getElem_cons hlt] at hrec
      go_wp2_with (go_at_call 32; refine (H.out k hlt _ (Below.refl _ _)).mono ?_; rintro e w' ⟨rfl, rfl⟩)
      · go_ret
        have ht : (l[k].toList == s.toList) = true := by assumption
        exact ⟨ret_int (by rw [hrec.out, List.map_cons, atFrom, if_pos ht]), rfl⟩
      · have ht : (l[k].toList == s.toList) = false := by assumption
        go_round
        case rel => exact ⟨k + 1, by omega, by go_num, by rw [hrec.out, List.map_cons, atFrom, ht]; rfl⟩
        case measure => simp [intOf]; omega
    · go_wp2
      go_ret
      refine ⟨ret_int ?_, rfl⟩
      rw [hrec.out, List.drop_eq_nil_of_le (by omega)]; rfl
/-- A place among n names, told by the closure of Attr, each told by a closure that captured one variable. -/
theorem findAttr (l : List ByteArray) (p : Addr) (s : ByteArray) (B n : Nat) (w : World) (hn : n = l.length) (hm : l.length ≤ maxLen)
    (hcall : ∀ (i : Nat) (hi : i < l.length) (wr : World), Below B w wr → Calls Try.prog 33 #[.int .i64 i, .pointer (some p)] wr fun e w' => e = .returned (.string l[i]) ∧ wr = w') :
    Calls Try.prog 31 #[.int .i64 n, .func (.func 33) #[] #[.pointer (some p)], .string s] w fun e w' => e = .returned (.int .i64 (atFrom s.toList 0 (l.map (·.toList)))) ∧ w = w' := by
  subst hn
  unfold maxLen at hm
  have H := Lib.hid hcall; clear hcall
  go_enter Try.func31, Try.ntmps31
  go_wp2
  go_loop [6, 7, 9] (fun _ _ i => ∃ k : Nat, k ≤ l.length ∧ i = .int .i64 k ∧ Hid (atFrom s.toList 0 (l.map (·.toList)) = atFrom s.toList k ((l.drop k).map (·.toList)))) (fun _ _ i => l.length - (intOf i).toNat)
  case atStart => exact ⟨0, Nat.zero_le _, rfl, rfl⟩
  case round =>
    obtain ⟨k, hk, rfl, hrec⟩ := hrel
    by_cases hlt : k < l.length
    · rw [List.drop_eq_getElem_cons hlt] at hrec
      go_wp2_with (go_at_call 33; refine (H.out k hlt _ (Below.refl _ _)).mono ?_; rintro e w' ⟨rfl, rfl⟩)
      · go_ret
        have ht : (l[k].toList == s.toList) = true := by assumption
        exact ⟨ret_int (by rw [hrec.out, List.map_cons, atFrom, if_pos ht]), rfl⟩
      · have ht : (l[k].toList == s.toList) = false := by assumption
        go_round
        case rel => exact ⟨k + 1, by omega, by go_num, by rw [hrec.out, List.map_cons, atFrom, ht]; rfl⟩
        case measure => simp [intOf]; omega
    · go_wp2
      go_ret
      refine ⟨ret_int ?_, rfl⟩
      rw [hrec.out, List.drop_eq_nil_of_le (by omega)]; rfl
/-- A place among n names, told by the closure of Sym, each told by a closure that captured one variable. -/
theorem findSym (l : List ByteArray) (p : Addr) (s : ByteArray) (B n : Nat) (w : World) (hn : n = l.length) (hm : l.length ≤ maxLen)
    (hcall : ∀ (i : Nat) (hi : i < l.length) (wr : World), Below B w wr → Calls Try.prog 34 #[.int .i64 i, .pointer (some p)] wr fun e w' => e = .returned (.string l[i]) ∧ wr = w') :
    Calls Try.prog 31 #[.int .i64 n, .func (.func 34) #[] #[.pointer (some p)], .string s] w fun e w' => e = .returned (.int .i64 (atFrom s.toList 0 (l.map (·.toList)))) ∧ w = w' := by
  subst hn
  unfold maxLen at hm
  have H := Lib.hid hcall; clear hcall
  go_enter Try.func31, Try.ntmps31
  go_wp2
  go_loop [6, 7, 9] (fun _ _ i => ∃ k : Nat, k ≤ l.length ∧ i = .int .i64 k ∧ Hid (atFrom s.toList 0 (l.map (·.toList)) = atFrom s.toList k ((l.drop k).map (·.toList)))) (fun _ _ i => l.length - (intOf i).toNat)
  case atStart => exact ⟨0, Nat.zero_le _, rfl, rfl⟩
  case round =>
    obtain ⟨k, hk, rfl, hrec⟩ := hrel
    by_cases hlt : k < l.length
    · rw [List.drop_eq_getElem_cons hlt] at hrec
      go_wp2_with (go_at_call 34; refine (H.out k hlt _ (Below.refl _ _)).mono ?_; rintro e w' ⟨rfl, rfl⟩)
      · go_ret
        have ht : (l[k].toList == s.toList) = true := by assumption
        exact ⟨ret_int (by rw [hrec.out, List.map_cons, atFrom, if_pos ht]), rfl⟩
      · have ht : (l[k].toList == s.toList) = false := by assumption
        go_round
        case rel => exact ⟨k + 1, by omega, by go_num, by rw [hrec.out, List.map_cons, atFrom, ht]; rfl⟩
        case measure => simp [intOf]; omega
    · go_wp2
      go_ret
      refine ⟨ret_int ?_, rfl⟩
      rw [hrec.out, List.drop_eq_nil_of_le (by omega)]; rfl

theorem ptype_any (s : SchemaV) (nm : ByteArray) (w : World) (h : s.ok w w.heap.size) :
    Calls Try.prog 16 #[s.val, .string nm] w fun e w' => e = .returned (.int .i64 (typeAt s nm.toList)) ∧ Below w.heap.size w w' := by
  obtain ⟨rd, len, each, srd, slen, _⟩ := h
  have hcall : ∀ (i : Nat) (hi : i < (s.types.map (·.name)).length) (wr : World), Below (w.heap.size + 1) (w.alloc (.cells #[.slice s.ta s.types.length s.tc, .slice s.sa s.syms.length s.sc] 33)) wr →
      Calls Try.prog 32 #[.int .i64 i, .pointer (some ⟨w.heap.size, 0, none⟩)] wr fun e w' => e = .returned (.string (s.types.map (·.name))[i]) ∧ wr = w' := by
    intro i hi wr hbel
    have hlt : i < s.types.length := by simpa using hi
    obtain ⟨b, o, hfa, hb, hc⟩ := rd.elem (n := 2) (fun _ => rfl) (by omega) hlt
    have hc0 : wr.cell? ⟨b, o + i * 2, none⟩ = some (.string s.types[i].name) := by
      rw [hbel.cell (by simp; omega), World.cell?_alloc_lt _ _ _ (by simpa using hb)]; exact hc 0 _ rfl
    have hs : wr.cell? ⟨w.heap.size, 0, none⟩ = some (.slice s.ta s.types.length s.tc) := by
      rw [hbel.cell (by simp)]; go_simp
    rw [hfa] at hs
    simp only [List.getElem_map]
    clear hc
    go_enter Try.func32, Try.ntmps32
    go_wp2
    go_ret
    exact ⟨rfl, rfl⟩
  have H := Lib.hid hcall; clear hcall
  have hm : (s.types.map (·.name)).length ≤ maxLen := by simp [maxLen]; omega
  unfold SchemaV.val
  go_enter Try.func16, Try.ntmps16
  go_wp2_with (go_at_call 31; refine (findType (s.types.map (·.name)) _ nm (w.heap.size + 1) _ _ (by simp) hm H.out).mono ?_; rintro e w' ⟨rfl, rfl⟩)
  go_ret
  exact ⟨ret_int rfl, (Below.refl _ _).alloc (Nat.le_refl _) _⟩

theorem psym_any (s : SchemaV) (nm : ByteArray) (w : World) (h : s.ok w w.heap.size) :
    Calls Try.prog 20 #[s.val, .string nm] w fun e w' => e = .returned (.int .i64 (atFrom nm.toList 0 (s.syms.map (·.toList)))) ∧ Below w.heap.size w w' := by
  obtain ⟨rd, len, each, srd, slen, _⟩ := h
  have hcall : ∀ (i : Nat) (hi : i < s.syms.length) (wr : World), Below (w.heap.size + 1) (w.alloc (.cells #[.slice s.ta s.types.length s.tc, .slice s.sa s.syms.length s.sc] 33)) wr →
      Calls Try.prog 34 #[.int .i64 i, .pointer (some ⟨w.heap.size, 0, none⟩)] wr fun e w' => e = .returned (.string s.syms[i]) ∧ wr = w' := by
    intro i hlt wr hbel
    obtain ⟨b, o, hfa, hb, hc⟩ := srd.elem1 hlt
    have hc0 : wr.cell? ⟨b, o + i, none⟩ = some (.string s.syms[i]) := by
      rw [hbel.cell (by simp; omega), World.cell?_alloc_lt _ _ _ (by simpa using hb)]; exact hc
    have hs : wr.cell? ⟨w.heap.size, 1, none⟩ = some (.slice s.sa s.syms.length s.sc) := by
      rw [hbel.cell (by simp)]; go_simp
    rw [hfa] at hs
    clear hc
    go_enter Try.func34, Try.ntmps34
    go_wp2
    go_ret
    exact ⟨rfl, rfl⟩
  have H := Lib.hid hcall; clear hcall
  have hm : s.syms.length ≤ maxLen := by simp [maxLen]; omega
  unfold SchemaV.val
  go_enter Try.func20, Try.ntmps20
  go_wp2_with (go_at_call 31; refine (findSym s.syms _ nm (w.heap.size + 1) _ _ rfl hm H.out).mono ?_; rintro e w' ⟨rfl, rfl⟩)
  go_ret
  exact ⟨rfl, (Below.refl _ _).alloc (Nat.le_refl _) _⟩

theorem pattr_any (s : SchemaV) (t : Int) (nm : ByteArray) (w : World) (h : s.ok w w.heap.size) :
    Calls Try.prog 18 #[s.val, .int .i64 t, .string nm] w fun e w' => e = .returned (.int .i64 (attrAt s t nm.toList)) ∧ Below w.heap.size w w' := by
  obtain ⟨rd, len, each, srd, slen, _⟩ := h
  by_cases h0 : 0 ≤ t ∧ t < s.types.length
  · obtain ⟨t, rfl⟩ := Int.eq_ofNat_of_zero_le h0.1
    have h1 : t < s.types.length := by omega
    obtain ⟨b, o, ht, hb, hc⟩ := rd.elem (n := 2) (fun _ => rfl) (by omega) h1
    have hc1 : w.cell? ⟨b, o + t * 2 + 1, none⟩ = some (.slice s.types[t].fa s.types[t].fields.length s.types[t].fc) := hc 1 _ rfl
    obtain ⟨frd, flen, _, _⟩ := each s.types[t] (by simp)
    have hspec : attrAt s (t : Int) nm.toList = fieldFrom nm.toList 0 s.types[t].fields := by simp [attrAt, h1]
    rw [hspec]
    clear hc each rd srd hspec h0
    unfold SchemaV.val
    rw [ht]
    generalize s.types[t] = T at *
    have hcall : ∀ (i : Nat) (hi : i < (T.fields.map (·.name)).length) (wr : World), Below (w.heap.size + 2) ((w.alloc (.cells #[.slice (some ⟨b, o, none⟩) s.types.length s.tc, .slice s.sa s.syms.length s.sc] 33)).alloc (.cells #[.slice T.fa T.fields.length T.fc] 59)) wr →
        Calls Try.prog 33 #[.int .i64 i, .pointer (some ⟨w.heap.size + 1, 0, none⟩)] wr fun e w' => e = .returned (.string (T.fields.map (·.name))[i]) ∧ wr = w' := by
      intro i hi wr hbel
      have hlt : i < T.fields.length := by simpa using hi
      obtain ⟨b, o, hfa, hb, hc⟩ := frd.elem (n := 2) (fun _ => rfl) (by omega) hlt
      have hc0 : wr.cell? ⟨b, o + i * 2, none⟩ = some (.string T.fields[i].name) := by
        rw [hbel.cell (by simp; omega), World.cell?_alloc_lt _ _ _ (by simp; omega), World.cell?_alloc_lt _ _ _ (by simpa using hb)]; exact hc 0 _ rfl
      have hs : wr.cell? ⟨w.heap.size + 1, 0, none⟩ = some (.slice T.fa T.fields.length T.fc) := by
        rw [hbel.cell (by simp)]; go_simp
      rw [hfa] at hs
      simp only [List.getElem_map]
      clear hc
      go_enter Try.func33, Try.ntmps33
      go_wp2
      go_ret
      exact ⟨rfl, rfl⟩
    have H := Lib.hid hcall; clear hcall
    have hm : (T.fields.map (·.name)).length ≤ maxLen := by simp [maxLen]; omega
    go_enter Try.func18, Try.ntmps18
    go_wp2_with (go_at_call 31; refine (findAttr (T.fields.map (·.name)) _ nm (w.heap.size + 2) _ _ (by simp) hm H.out).mono ?_; rintro e w' ⟨rfl, rfl⟩)
    go_ret
    exact ⟨ret_int rfl, ((Below.refl _ _).alloc (Nat.le_refl _) _).alloc (by simp) _⟩
  · have hspec : attrAt s t nm.toList = -1 := by
      unfold attrAt
      split
      · rw [List.getElem?_eq_none (by omega)]
      · rfl
    rw [hspec]
    clear hspec
    unfold SchemaV.val
    by_cases h1 : t < 0
    · go_enter Try.func18, Try.ntmps18
      go_wp2
      go_ret
      exact ⟨rfl, (Below.refl _ _).alloc (Nat.le_refl _) _⟩
    · have h2 : (s.types.length : Int) ≤ t := by omega
      clear h0
      go_enter Try.func18, Try.ntmps18
      go_wp2
      go_ret
      exact ⟨rfl, (Below.refl _ _).alloc (Nat.le_refl _) _⟩
end Go.Proofs.Ytdgblfcfojadcaa
