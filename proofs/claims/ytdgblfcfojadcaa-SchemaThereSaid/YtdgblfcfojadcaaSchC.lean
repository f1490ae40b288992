/- Contracts of the functions of layer 3 that go through a schema. No conditions. -/
import Derived.Test.YtdgblfcfojadcaaSchB
namespace Go.Proofs.Ytdgblfcfojadcaa
open Go.RowKit

structure FieldV where
  name : ByteArray
  kind : Int
structure TypeV where
  name : ByteArray
  fa : Option Addr
  fc : Nat
  fields : List FieldV
structure SchemaV where
  ta : Option Addr
  tc : Nat
  types : List TypeV
  sa : Option Addr
  sc : Nat
  syms : List ByteArray
def FieldV.cells (f : FieldV) : List Value := [.string f.name, .int .i64 f.kind]
def TypeV.cells (t : TypeV) : List Value := [.string t.name, .slice t.fa t.fields.length t.fc]
def SchemaV.val (s : SchemaV) : Value := .agg #[.slice s.ta s.types.length s.tc, .slice s.sa s.syms.length s.sc]
structure TypeV.ok (t : TypeV) (w : World) (B : Nat) : Prop where
  rd : Rd w B t.fa (t.fields.flatMap FieldV.cells)
  len : t.fields.length ≤ 5864062014634
  nsize : t.name.size ≤ 140737488351232
  fsize : ∀ f ∈ t.fields, f.name.size ≤ 140737488351232
structure SchemaV.ok (s : SchemaV) (w : World) (B : Nat) : Prop where
  rd : Rd w B s.ta (s.types.flatMap TypeV.cells)
  len : s.types.length ≤ 3518437208780
  each : ∀ t ∈ s.types, t.ok w B
  syms : Rd w B s.sa (s.syms.map .string)
  slen : s.syms.length ≤ 8796093021952
  ssize : ∀ x ∈ s.syms, x.size ≤ 140737488351232

/-- The place of the attribute of a name among attributes; -1. -/
def fieldFrom (s : List UInt8) (k : Nat) (l : List FieldV) : Int := atFrom s k (l.map (·.name.toList))
def attrAt (s : SchemaV) (t : Int) (nm : List UInt8) : Int := if 0 ≤ t then (match s.types[t.toNat]? with | some x => fieldFrom nm 0 x.fields | none => -1) else -1

theorem fieldFrom_drop (nm : List UInt8) (l : List FieldV) (k : Nat) (h : k < l.length) : fieldFrom nm k (l.drop k) = if (l[k].name.toList == nm) = true then (k : Int) else fieldFrom nm (k + 1) (l.drop (k + 1)) := by
  rw [List.drop_eq_getElem_cons h]; rfl
def typeAt (s : SchemaV) (nm : List UInt8) : Int := atFrom nm 0 (s.types.map (·.name.toList))

theorem typeAt_any (s : SchemaV) (nm : ByteArray) (w : World) (h : s.ok w w.heap.size) :
    Calls Try.prog 17 #[s.val, .string nm] w fun e w' => e = .returned (.int .i64 (typeAt s nm.toList)) ∧ Below w.heap.size w w' := by
  obtain ⟨rd, len, each, srd, slen, _⟩ := h
  have hrec : typeAt s nm.toList = atFrom nm.toList 0 (s.types.map (·.name.toList)) := rfl
  rw [hrec]
  unfold SchemaV.val
  clear hrec each srd slen
  go_enter Try.func17, Try.ntmps17
  go_wp2
  go_loopw [4, 5, 6, 10] (fun _ _ _ i wr => ∃ k : Nat, k ≤ s.types.length ∧ i = .int .i64 k ∧ Below w.heap.size w wr ∧ Hid (atFrom nm.toList 0 (s.types.map (·.name.toList)) = atFrom nm.toList k ((s.types.drop k).map (·.name.toList)))) (fun _ _ _ i _ => s.types.length - (intOf i).toNat)
  case atStart => exact ⟨0, Nat.zero_le _, rfl, (Below.refl _ _).alloc (Nat.le_refl _) _, rfl⟩
  case round =>
    obtain ⟨k, hk, rfl, hbel, hrec⟩ := hrel
    by_cases hlt : k < s.types.length
    · obtain ⟨b, o, hfa, hb, hc⟩ := (rd.below hbel).elem (n := 2) (fun _ => rfl) (by omega) hlt
      have hc0 : wr.cell? ⟨b, o + k * 2, none⟩ = some (.string s.types[k].name) := hc 0 _ rfl
      have hc1 : wr.cell? ⟨b, o + k * 2 + 1, none⟩ = some (.slice s.types[k].fa s.types[k].fields.length s.types[k].fc) := hc 1 _ rfl
      rw [List.drop_eq_getElem_cons hlt] at hrec
      rw [hfa]
      clear hc
      go_wp2
      · go_ret
        have ht : (s.types[k].name.toList == nm.toList) = true := by assumption
        exact ⟨ret_int (by rw [hrec.out, List.map_cons, atFrom, if_pos ht]), hbel.alloc hbel.size _⟩
      · have ht : (s.types[k].name.toList == nm.toList) = false := by assumption
        go_roundw
        case rel => exact ⟨k + 1, by omega, by go_num, hbel.alloc hbel.size _, by rw [hrec.out, List.map_cons, atFrom, ht]; rfl⟩
        case measure => simp [intOf]; omega
    · go_wp2
      go_ret
      exact ⟨ret_int (by rw [hrec.out, List.drop_eq_nil_of_le (by omega)]; rfl), hbel⟩

theorem attrAt_any (s : SchemaV) (t : Int) (nm : ByteArray) (w : World) (h : s.ok w w.heap.size) :
    Calls Try.prog 19 #[s.val, .int .i64 t, .string nm] w fun e w' => e = .returned (.int .i64 (attrAt s t nm.toList)) ∧ Below w.heap.size w w' := by
  obtain ⟨rd, len, each, srd, slen, _⟩ := h
  by_cases h0 : 0 ≤ t
  · by_cases h1 : t < s.types.length
    · obtain ⟨t, rfl⟩ := Int.eq_ofNat_of_zero_le h0
      have h1 : t < s.types.length := by omega
      obtain ⟨b, o, ht, hb, hc⟩ := rd.elem (n := 2) (fun _ => rfl) (by omega) h1
      have hc1 : w.cell? ⟨b, o + t * 2 + 1, none⟩ = some (.slice s.types[t].fa s.types[t].fields.length s.types[t].fc) := hc 1 _ rfl
      obtain ⟨frd, flen, _, _⟩ := each s.types[t] (by simp)
      have hspec : attrAt s (t : Int) nm.toList = fieldFrom nm.toList 0 s.types[t].fields := by simp [attrAt, h1]
      rw [hspec]
      clear hc each rd srd hspec
      unfold SchemaV.val
      rw [ht]
      generalize s.types[t] = T at *
      go_enter Try.func19, Try.ntmps19
      go_wp2
      go_loopw [6, 7, 8, 25] (fun _ _ _ i wr => ∃ k : Nat, k ≤ T.fields.length ∧ i = .int .i64 k ∧ Below w.heap.size w wr ∧ Hid (fieldFrom nm.toList 0 T.fields = fieldFrom nm.toList k (T.fields.drop k))) (fun _ _ _ i _ => T.fields.length - (intOf i).toNat)
      case atStart => exact ⟨0, Nat.zero_le _, rfl, (Below.refl _ _).alloc (Nat.le_refl _) _, rfl⟩
      case round =>
        obtain ⟨k, hk, rfl, hbel, hrec⟩ := hrel
        by_cases hlt : k < T.fields.length
        · obtain ⟨b, o, hfa, hb, hc⟩ := (frd.below hbel).elem (n := 2) (fun _ => rfl) (by omega) hlt
          have hc0 : wr.cell? ⟨b, o + k * 2, none⟩ = some (.string T.fields[k].name) := hc 0 _ rfl
          have hc1 : wr.cell? ⟨b, o + k * 2 + 1, none⟩ = some (.int .i64 T.fields[k].kind) := hc 1 _ rfl
          rw [hfa]
          go_wp2
          · go_ret
            have ht : (T.fields[k].name.toList == nm.toList) = true := by assumption
            exact ⟨ret_int (by rw [hrec.out, fieldFrom_drop _ _ _ hlt, if_pos ht]), hbel.alloc hbel.size _⟩
          · have ht : (T.fields[k].name.toList == nm.toList) = false := by assumption
            go_roundw
            case rel => exact ⟨k + 1, by omega, by go_num, hbel.alloc hbel.size _, by rw [hrec.out, fieldFrom_drop _ _ _ hlt, ht]; rfl⟩
            case measure => simp [intOf]; omega
        · go_wp2
          go_ret
          exact ⟨ret_int (by rw [hrec.out, List.drop_eq_nil_of_le (by omega)]; rfl), hbel⟩
    · have hspec : attrAt s t nm.toList = -1 := by
        rw [attrAt, if_pos h0, List.getElem?_eq_none (by omega)]
      have H := Lib.hid hspec; clear hspec
      unfold SchemaV.val
      go_enter Try.func19, Try.ntmps19
      go_wp2
      go_ret
      exact ⟨ret_int H.out.symm, (Below.refl _ _).alloc (Nat.le_refl _) _⟩
  · unfold SchemaV.val
    go_enter Try.func19, Try.ntmps19
    go_wp2
    go_ret
    exact ⟨ret_int (by rw [attrAt, if_neg (by omega)]), (Below.refl _ _).alloc (Nat.le_refl _) _⟩

/-- The kind of an attribute, or of the time. -/
def kindAt (s : SchemaV) (t a : Int) : Int :=
  if 0 ≤ t then (match s.types[t.toNat]? with
    | some x => if a = -1 then 1 else if 0 ≤ a then (match x.fields[a.toNat]? with | some f => f.kind | none => 0) else 0
    | none => 0) else 0
theorem kindAt_none (s : SchemaV) (t a : Int) (h : ¬ (0 ≤ t ∧ t < s.types.length)) : kindAt s t a = 0 := by
  unfold kindAt
  split
  · rw [List.getElem?_eq_none (by omega)]
  · rfl
theorem kindAt_some (s : SchemaV) (t : Nat) (a : Int) (h : t < s.types.length) : kindAt s t a = if a = -1 then 1 else if 0 ≤ a then (match s.types[t].fields[a.toNat]? with | some f => f.kind | none => 0) else 0 := by
  simp [kindAt, h]

theorem kind_any (s : SchemaV) (t a : Int) (w : World) (h : s.ok w w.heap.size) :
    Calls Try.prog 24 #[s.val, .int .i64 t, .int .i64 a] w fun e w' => e = .returned (.int .i64 (kindAt s t a)) ∧ Below w.heap.size w w' := by
  obtain ⟨rd, len, each, srd, slen, _⟩ := h
  by_cases h0 : 0 ≤ t ∧ t < s.types.length
  · obtain ⟨t, rfl⟩ := Int.eq_ofNat_of_zero_le h0.1
    have h1 : t < s.types.length := by omega
    obtain ⟨b, o, ht, hb, hc⟩ := rd.elem (n := 2) (fun _ => rfl) (by omega) h1
    have hc1 : w.cell? ⟨b, o + t * 2 + 1, none⟩ = some (.slice s.types[t].fa s.types[t].fields.length s.types[t].fc) := hc 1 _ rfl
    obtain ⟨frd, flen, _, _⟩ := each s.types[t] (by simp)
    rw [kindAt_some s t a h1]
    clear hc each rd srd h0
    unfold SchemaV.val
    rw [ht]
    generalize s.types[t] = T at *
    by_cases ha : a = -1
    · rw [if_pos ha]
      subst ha
      go_enter Try.func24, Try.ntmps24
      go_wp2
      go_ret
      exact ⟨rfl, (Below.refl _ _).alloc (Nat.le_refl _) _⟩
    · rw [if_neg ha]
      by_cases ha0 : 0 ≤ a
      · obtain ⟨a, rfl⟩ := Int.eq_ofNat_of_zero_le ha0
        rw [if_pos ha0]
        by_cases ha1 : a < T.fields.length
        · obtain ⟨b2, o2, ht2, hb2, hc2⟩ := frd.elem (n := 2) (fun _ => rfl) (by omega) ha1
          have hc3 : w.cell? ⟨b2, o2 + a * 2 + 1, none⟩ = some (.int .i64 T.fields[a].kind) := hc2 1 _ rfl
          rw [ht2] at hc1
          clear hc2 frd
          simp only [Int.toNat_natCast, List.getElem?_eq_getElem ha1]
          go_enter Try.func24, Try.ntmps24
          go_wp2
          go_ret
          exact ⟨rfl, (Below.refl _ _).alloc (Nat.le_refl _) _⟩
        · simp only [Int.toNat_natCast, List.getElem?_eq_none (Nat.le_of_not_lt ha1)]
          go_enter Try.func24, Try.ntmps24
          go_wp2
          go_ret
          exact ⟨rfl, (Below.refl _ _).alloc (Nat.le_refl _) _⟩
      · rw [if_neg ha0]
        go_enter Try.func24, Try.ntmps24
        go_wp2
        go_ret
        exact ⟨rfl, (Below.refl _ _).alloc (Nat.le_refl _) _⟩
  · rw [kindAt_none s t a h0]
    unfold SchemaV.val
    by_cases h1 : t < 0
    · go_enter Try.func24, Try.ntmps24
      go_wp2
      go_ret
      exact ⟨rfl, (Below.refl _ _).alloc (Nat.le_refl _) _⟩
    · have h2 : (s.types.length : Int) ≤ t := by omega
      clear h0
      go_enter Try.func24, Try.ntmps24
      go_wp2
      go_ret
      exact ⟨rfl, (Below.refl _ _).alloc (Nat.le_refl _) _⟩
end Go.Proofs.Ytdgblfcfojadcaa
