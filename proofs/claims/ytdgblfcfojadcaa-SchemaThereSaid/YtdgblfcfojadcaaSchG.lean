/- Contract of awake of layer 3: it is true. No conditions. -/
import Derived.Test.YtdgblfcfojadcaaSchD
import Derived.Test.YtdgblfcfojadcaaSchF
import Derived.Test.YtdgblfcfojadcaaSchTo
namespace Go.Proofs.Ytdgblfcfojadcaa
open Go.RowKit

theorem SchemaV.ok.old {s : SchemaV} {w w' : World} (h : s.ok w w.heap.size) (hb : Below w.heap.size w w') : s.ok w' w'.heap.size :=
  ⟨(h.rd.below hb).more hb.size, h.len, fun t ht => ⟨((h.each t ht).rd.below hb).more hb.size, (h.each t ht).len, (h.each t ht).nsize, (h.each t ht).fsize⟩, (h.syms.below hb).more hb.size, h.slen, h.ssize⟩

theorem SchemaV.ok.step {s : SchemaV} {W w' : World} {R : Prop} (h : s.ok W W.heap.size) (hb : Below W.heap.size W w' ∧ R) : s.ok w' w'.heap.size := h.old hb.1

def sig (t : TypeV) : ByteArray × List FieldV := (t.name, t.fields)
def typeSig (l : List (ByteArray × List FieldV)) (nm : List UInt8) : Int := atFrom nm 0 (l.map (·.1.toList))
def attrSig (l : List (ByteArray × List FieldV)) (t : Int) (nm : List UInt8) : Int := if 0 ≤ t then (match l[t.toNat]? with | some x => fieldFrom nm 0 x.2 | none => -1) else -1
def kindSig (l : List (ByteArray × List FieldV)) (t a : Int) : Int :=
  if 0 ≤ t then (match l[t.toNat]? with
    | some x => if a = -1 then 1 else if 0 ≤ a then (match x.2[a.toNat]? with | some f => f.kind | none => 0) else 0
    | none => 0) else 0
theorem typeAt_sig (s : SchemaV) (nm : List UInt8) : typeAt s nm = typeSig (s.types.map sig) nm := by simp [typeAt, typeSig, List.map_map, Function.comp_def, sig]
theorem attrAt_sig (s : SchemaV) (t : Int) (nm : List UInt8) : attrAt s t nm = attrSig (s.types.map sig) t nm := by
  unfold attrAt attrSig
  rw [List.getElem?_map]
  cases s.types[t.toNat]? <;> rfl
theorem kindAt_sig (s : SchemaV) (t a : Int) : kindAt s t a = kindSig (s.types.map sig) t a := by
  unfold kindAt kindSig
  rw [List.getElem?_map]
  cases s.types[t.toNat]? <;> rfl

/-- The types of the example. -/
def oneSig : List (ByteArray × List FieldV) := [(⟨#[84]⟩, [⟨⟨#[120]⟩, 1⟩]), (⟨#[85]⟩, [])]
def oneSyms : List ByteArray := [⟨#[97, 110, 110]⟩]

theorem one_any (w : World) :
    Calls Try.prog 27 #[] w fun e w' => ∃ s : SchemaV, e = .returned s.val ∧ s.ok w' w'.heap.size ∧ s.types.map sig = oneSig ∧ s.syms = oneSyms ∧ Below w.heap.size w w' := by
  go_enter Try.func27, Try.ntmps27
  go_wp2
  refine bodyPost_ret (v := .agg #[.slice (some ⟨w.heap.size + 1 + 1, 0, none⟩) 2 2, .slice (some ⟨w.heap.size + 1 + 1 + 1, 0, none⟩) 1 1]) (by simp [results, Try.results27, go_sem]) rfl ?_
  have h1 : Bk (((w.alloc (.cells #[.slice (some ⟨w.heap.size + 1 + 1, 0, none⟩) 2 2, .slice (some ⟨w.heap.size + 1 + 1 + 1, 0, none⟩) 1 1] 30)).alloc (.cells #[.string ⟨#[120]⟩, .int .i64 1] 55)).alloc
      (.cells #[.string ⟨#[84]⟩, .slice (some ⟨w.heap.size + 1, 0, none⟩) 1 1, .string ⟨#[85]⟩, .slice none 0 0] 53)) (w.heap.size + 1) 55 #[.string ⟨#[120]⟩, .int .i64 1] := (Bk.newAt (by simp) _ _).alloc _
  refine ⟨⟨some ⟨w.heap.size + 1 + 1, 0, none⟩, 2, [⟨⟨#[84]⟩, some ⟨w.heap.size + 1, 0, none⟩, 1, [⟨⟨#[120]⟩, 1⟩]⟩, ⟨⟨#[85]⟩, none, 0, []⟩], some ⟨w.heap.size + 1 + 1 + 1, 0, none⟩, 1, oneSyms⟩, rfl, ⟨?_, by simp, ?_, ?_, by simp [oneSyms], by intro x hx; obtain rfl := List.mem_singleton.1 hx; decide⟩, rfl, rfl, ?_⟩
  · exact Rd.bk (Bk.alloc (Bk.newAt (by simp) _ _) _) (by simp)
  · intro t ht
    simp only [List.mem_cons, List.not_mem_nil, or_false] at ht
    rcases ht with rfl | rfl
    · exact ⟨Rd.bk (h1.alloc _) (by simp), by simp, (by decide : (1 : Nat) ≤ 140737488351232), by intro x hx; obtain rfl := List.mem_singleton.1 hx; exact (by decide : (1 : Nat) ≤ 140737488351232)⟩
    · exact ⟨Rd.nil, by simp, (by decide : (1 : Nat) ≤ 140737488351232), by simp⟩
  · exact Rd.bk (Bk.newAt (by simp) _ _) (by simp)
  · exact ((((Below.refl _ _).alloc (Nat.le_refl _) _).alloc (by simp) _).alloc (by simp; omega) _).alloc (by simp; omega) _

theorem awake_any (w : World) : Calls Try.prog 9 #[] w fun e w' => e = .returned (.bool true) ∧ Below w.heap.size w w' := by
  have n1 : nameB [97, 95, 49] = true := by decide
  go_enter Try.func9, Try.ntmps9
  go_wp2_with fail
  refine (one_any _).mono ?_
  rintro e w1 ⟨s, rfl, hok, hsig, hsyms, hb⟩
  have HS := Lib.hid hsig
  have HY := Lib.hid hsyms
  clear hsig hsyms
  go_wp2_with fail
  refine (to_any s _ hok).mono ?_
  rintro e w2 ⟨s', rfl, hok', hsig', hsyms', hb'⟩
  have HS' : Hid (s'.types.map sig = oneSig) := (show s'.types.map sig = s.types.map sig from hsig').trans HS.out
  have HY' : Hid (s'.syms = oneSyms) := hsyms'.trans HY.out
  clear hsig' hsyms' hok HS HY
  have n2 : typeAt s' [85] = 1 := by rw [typeAt_sig, HS'.out]; simp [typeSig, oneSig, atFrom, ByteArray.toList_eq]
  have n3 : attrAt s' 0 [120] = 0 := by rw [attrAt_sig, HS'.out]; simp [attrSig, oneSig, fieldFrom, atFrom, ByteArray.toList_eq]
  have n4 : kindAt s' 0 0 = 1 := by rw [kindAt_sig, HS'.out]; simp [kindSig, oneSig]
  have n5 : atFrom [98, 111, 98] 0 (s'.syms.map (·.toList)) = -1 := by rw [HY'.out]; simp [oneSyms, atFrom, ByteArray.toList_eq]
  unfold SchemaV.val
  go_wp2_with fail
  have k2 := Bk.new w2 33 #[.slice s'.ta s'.types.length s'.tc, .slice s'.sa s'.syms.length s'.sc]
  have ok2 := hok'.old ((Below.refl _ _).alloc (Nat.le_refl _) (.cells #[.slice s'.ta s'.types.length s'.tc, .slice s'.sa s'.syms.length s'.sc] 33))
  have hb2 := (hb.trans (hb'.mono hb.size)).alloc (Nat.le_trans hb.size hb'.size) (.cells #[.slice s'.ta s'.types.length s'.tc, .slice s'.sa s'.syms.length s'.sc] 33)
  clear hb hb' hok'
  refine (pname_any _ _).mono ?_
  rintro e w3 ⟨rfl, hb3⟩
  have k3 := k2.old hb3
  have ok3 := ok2.old hb3
  have hb2 := hb2.trans (hb3.mono hb2.size)
  clear k2 ok2 hb3
  have c0 : w3.cell? ⟨w2.heap.size, 0, none⟩ = some (.slice s'.ta s'.types.length s'.tc) := k3.cell 0
  have c1 : w3.cell? ⟨w2.heap.size, 1, none⟩ = some (.slice s'.sa s'.syms.length s'.sc) := k3.cell 1
  go_wp2_with fail
  clear c0 c1
  refine (ptype_any s' _ _ ok3).mono ?_
  rintro e w4 ⟨rfl, hb3⟩
  have k4 := k3.old hb3
  have ok4 := ok3.old hb3
  have hb2 := hb2.trans (hb3.mono hb2.size)
  clear k3 ok3 hb3
  have c0 : w4.cell? ⟨w2.heap.size, 0, none⟩ = some (.slice s'.ta s'.types.length s'.tc) := k4.cell 0
  have c1 : w4.cell? ⟨w2.heap.size, 1, none⟩ = some (.slice s'.sa s'.syms.length s'.sc) := k4.cell 1
  go_wp2_with fail
  clear c0 c1
  refine (pattr_any s' _ _ _ ok4).mono ?_
  rintro e w5 ⟨rfl, hb3⟩
  have k5 := k4.old hb3
  have ok5 := ok4.old hb3
  have hb2 := hb2.trans (hb3.mono hb2.size)
  clear k4 ok4 hb3
  have c0 : w5.cell? ⟨w2.heap.size, 0, none⟩ = some (.slice s'.ta s'.types.length s'.tc) := k5.cell 0
  have c1 : w5.cell? ⟨w2.heap.size, 1, none⟩ = some (.slice s'.sa s'.syms.length s'.sc) := k5.cell 1
  go_wp2_with fail
  clear c0 c1
  refine (pkind_any s' _ _ _ ok5).mono ?_
  rintro e w6 ⟨rfl, hb3⟩
  have k6 := k5.old hb3
  have ok6 := ok5.old hb3
  have hb2 := hb2.trans (hb3.mono hb2.size)
  clear k5 ok5 hb3
  have c0 : w6.cell? ⟨w2.heap.size, 0, none⟩ = some (.slice s'.ta s'.types.length s'.tc) := k6.cell 0
  have c1 : w6.cell? ⟨w2.heap.size, 1, none⟩ = some (.slice s'.sa s'.syms.length s'.sc) := k6.cell 1
  go_wp2_with fail
  clear c0 c1
  refine (psym_any s' _ _ ok6).mono ?_
  rintro e w7 ⟨rfl, hb3⟩
  have hb2 := hb2.trans (hb3.mono hb2.size)
  clear k6 ok6 hb3
  go_wp2
  go_ret
  exact ⟨rfl, hb2⟩
end Go.Proofs.Ytdgblfcfojadcaa
