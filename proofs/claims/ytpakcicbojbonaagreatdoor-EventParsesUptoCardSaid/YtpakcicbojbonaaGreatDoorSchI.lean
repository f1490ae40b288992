/- Contract of the program's Check of layer 3. No conditions. -/
import Derived.Test.YtpakcicbojbonaaGreatDoorSchH
namespace Go.Proofs.YtpakcicbojbonaaGreatDoor
set_option maxRecDepth 10000
open Go.RowKit

abbrev TSig := ByteArray × List FieldV
def fieldsOf (t : TSig) : List (List UInt8) := t.2.map (·.name.toList)
def kindBadB (f : FieldV) : Bool := decide (f.kind < 1) || decide (4 < f.kind)
def longT (t : TSig) : Bool := decide (8 < t.2.length)
def kindT (t : TSig) : Bool := t.2.any kindBadB
def nameT (t : TSig) : Bool := badB (fieldsOf t)
def eZ (b : Bool) : Int := if b = true then 11 else 0
/-- What is wrong with a schema: 0, 2, 10, 11. -/
def checkSig (T : List TSig) (Y : List ByteArray) : Int :=
  if (decide (16 < T.length) || decide (64 < Y.length) || T.any longT) = true then 2
  else if (T.any nameT || badB (T.map (·.1.toList)) || badB (Y.map (·.toList))) = true then 10
  else eZ (T.any kindT)

theorem drop_sig (s : SchemaV) (k : Nat) (h : k < s.types.length) : (s.types.map sig).drop k = sig s.types[k] :: (s.types.map sig).drop (k + 1) := by
  rw [List.drop_eq_getElem_cons (by simpa using h)]; simp

theorem pcheck_any (s : SchemaV) (w : World) (h : s.ok w w.heap.size) :
    Calls Tryz.prog 12 #[s.val] w fun e w' => e = .returned (.int .i64 (checkSig (s.types.map sig) s.syms)) ∧ Below w.heap.size w w' := by
  obtain ⟨rd, len, each, srd, slen, ssize⟩ := h
  unfold SchemaV.val
  by_cases h16 : 16 < s.types.length
  · have hr : checkSig (s.types.map sig) s.syms = 2 := by simp [checkSig, h16]
    rw [hr]
    clear hr
    go_enter Tryz.func12, Tryz.ntmps12
    go_wp2
    go_ret
    exact ⟨rfl, (Below.refl _ _).alloc (Nat.le_refl _) _⟩
  by_cases h64 : 64 < s.syms.length
  · have hr : checkSig (s.types.map sig) s.syms = 2 := by simp [checkSig, h64]
    rw [hr]
    clear hr
    go_enter Tryz.func12, Tryz.ntmps12
    go_wp2
    go_ret
    exact ⟨rfl, (Below.refl _ _).alloc (Nat.le_refl _) _⟩
  have hlong : (decide (16 < (s.types.map sig).length) || decide (64 < s.syms.length)) = false := by simp; omega
  have HL := Lib.hid hlong; clear hlong
  go_enter Tryz.func12, Tryz.ntmps12
  go_wp2
  go_loopw [23] (fun i wr => ∃ k : Nat, k ≤ s.types.length ∧ i = .int .i64 k ∧ Below w.heap.size w wr ∧ Bk wr w.heap.size 33 #[.slice s.ta s.types.length s.tc, .slice s.sa s.syms.length s.sc] ∧ Hid ((s.types.map sig).any longT = ((s.types.map sig).drop k).any longT)) (fun i _ => s.types.length - (intOf i).toNat)
  case atStart => exact ⟨0, Nat.zero_le _, rfl, (Below.refl _ _).alloc (Nat.le_refl _) _, Bk.new _ _ _, rfl⟩
  case round =>
    obtain ⟨k, hk, rfl, hbel, hb0, hrec⟩ := hrel
    by_cases hlt : k < s.types.length
    · obtain ⟨b, o, hfa, hb, hc⟩ := (rd.below hbel).elem (n := 2) (fun _ => rfl) (by omega) hlt
      have hc0 : wr.cell? ⟨b, o + k * 2, none⟩ = some (.string s.types[k].name) := hc 0 _ rfl
      have hc1 : wr.cell? ⟨b, o + k * 2 + 1, none⟩ = some (.slice s.types[k].fa s.types[k].fields.length s.types[k].fc) := hc 1 _ rfl
      rw [drop_sig s k hlt, List.any_cons] at hrec
      clear hc
      have hfa0 := hfa
      rw [hfa]
      have HF := Lib.hid hfa; clear hfa hfa0
      by_cases h8 : 8 < s.types[k].fields.length
      · go_wp2
        go_ret
        refine ⟨ret_int ?_, hbel.alloc hbel.size _⟩
        have : (s.types.map sig).any longT = true := by rw [hrec.out]; simp [longT, sig, h8]
        simp [checkSig, this]
      · go_wp2
        go_roundw
        case rel =>
          rw [← HF.out]
          exact ⟨k + 1, by omega, by go_num, hbel.alloc hbel.size _, hb0.alloc _, by rw [hrec.out, show longT (sig s.types[k]) = false from decide_eq_false h8]; rfl⟩
        case measure => simp [intOf]; omega
    · have hno : (s.types.map sig).any longT = false := by rw [hrec.out, List.drop_eq_nil_of_le (by simp; omega)]; rfl
      have hspec : checkSig (s.types.map sig) s.syms = if ((s.types.map sig).any nameT || badB ((s.types.map sig).map (·.1.toList)) || badB (s.syms.map (·.toList))) = true then 10 else eZ ((s.types.map sig).any kindT) := by
        unfold checkSig
        rw [HL.out, hno]; rfl
      have HS := Lib.hid hspec; clear hspec hno hrec
      have hc0 : wr.cell? ⟨w.heap.size, 0, none⟩ = some (.slice s.ta s.types.length s.tc) := hb0.cell 0
      have hc1 : wr.cell? ⟨w.heap.size, 1, none⟩ = some (.slice s.sa s.syms.length s.sc) := hb0.cell 1
      have hcall1 : ∀ (i : Nat) (hi : i < (s.types.map (·.name)).length) (w3 : World), Below wr.heap.size wr w3 → Calls Tryz.prog 29 #[.int .i64 i, .pointer (some ⟨w.heap.size, 0, none⟩)] w3 fun e w' => e = .returned (.string (s.types.map (·.name))[i]) ∧ w3 = w' := by
        intro i hi w3 hb3
        have hlt : i < s.types.length := by simpa using hi
        obtain ⟨b, o, hfa, hb, hc⟩ := (rd.below (hbel.trans (hb3.mono hbel.size))).elem (n := 2) (fun _ => rfl) (by omega) hlt
        have hc0 : w3.cell? ⟨b, o + i * 2, none⟩ = some (.string s.types[i].name) := hc 0 _ rfl
        have hs : w3.cell? ⟨w.heap.size, 0, none⟩ = some (.slice s.ta s.types.length s.tc) := (hb0.old hb3).cell 0
        rw [hfa] at hs
        simp only [List.getElem_map]
        clear hc
        go_enter Tryz.func29, Tryz.ntmps29
        go_wp2
        go_ret
        exact ⟨rfl, rfl⟩
      have H1 := Lib.hid hcall1; clear hcall1
      have hn1 : ((s.types.map sig).map (·.1.toList)) = (s.types.map (·.name)).map (·.toList) := by simp only [List.map_map]; rfl
      have hz1 : ∀ x ∈ s.types.map (·.name), x.size ≤ 140737488351232 := by
        intro x hx
        obtain ⟨t, ht, rfl⟩ := List.mem_map.1 hx
        exact (each t ht).nsize
      have HN1 := Lib.hid hn1; clear hn1
      have HZ1 := Lib.hid hz1; clear hz1
      have HZ2 := Lib.hid ssize; clear ssize
      go_wp2_with fail
      refine (namesType (s.types.map (·.name)) _ wr.heap.size s.types.length _ (by simp) (by simp; omega) HZ1.out (Nat.le_refl _) H1.out).mono ?_
      rintro e w2 ⟨rfl, hb2⟩
      have hb0 := hb0.old hb2
      have hbel := hbel.trans (hb2.mono hbel.size)
      clear hc0 hc1 hb2
      rw [← HN1.out]
      cases hT : badB ((s.types.map sig).map (·.1.toList))
      · have HT := Lib.hid hT; clear hT
        have hc0 : w2.cell? ⟨w.heap.size, 0, none⟩ = some (.slice s.ta s.types.length s.tc) := hb0.cell 0
        have hc1 : w2.cell? ⟨w.heap.size, 1, none⟩ = some (.slice s.sa s.syms.length s.sc) := hb0.cell 1
        have hcall2 : ∀ (i : Nat) (hi : i < s.syms.length) (w3 : World), Below w2.heap.size w2 w3 → Calls Tryz.prog 30 #[.int .i64 i, .pointer (some ⟨w.heap.size, 0, none⟩)] w3 fun e w' => e = .returned (.string s.syms[i]) ∧ w3 = w' := by
          intro i hlt w3 hb3
          obtain ⟨b, o, hfa, hb, hc⟩ := (srd.below (hbel.trans (hb3.mono hbel.size))).elem1 hlt
          have hs : w3.cell? ⟨w.heap.size, 1, none⟩ = some (.slice s.sa s.syms.length s.sc) := (hb0.old hb3).cell 1
          rw [hfa] at hs
          go_enter Tryz.func30, Tryz.ntmps30
          go_wp2
          go_ret
          exact ⟨rfl, rfl⟩
        have H2 := Lib.hid hcall2; clear hcall2
        go_wp2_with fail
        refine (namesSym s.syms _ w2.heap.size s.syms.length _ rfl (by omega) HZ2.out (Nat.le_refl _) H2.out).mono ?_
        rintro e w3 ⟨rfl, hb2⟩
        have hb0 := hb0.old hb2
        have hbel := hbel.trans (hb2.mono hbel.size)
        clear hc0 hc1 hb2
        cases hY : badB (s.syms.map (·.toList))
        · have HY := Lib.hid hY; clear hY
          have hc0 : w3.cell? ⟨w.heap.size, 0, none⟩ = some (.slice s.ta s.types.length s.tc) := hb0.cell 0
          have hc1 : w3.cell? ⟨w.heap.size, 1, none⟩ = some (.slice s.sa s.syms.length s.sc) := hb0.cell 1
          clear hb0
          go_wp2
          go_loopw [5, 49] (fun ee i wr => ∃ k : Nat, k ≤ s.types.length ∧ i = .int .i64 k ∧ Below w.heap.size w wr ∧
              Hid ((s.types.map sig).any nameT = ((s.types.map sig).drop k).any nameT) ∧ ee = .int .i64 (eZ (((s.types.map sig).take k).any kindT))) (fun _ i _ => s.types.length - (intOf i).toNat)
          case atStart => exact ⟨0, Nat.zero_le _, rfl, hbel, rfl, rfl⟩
          case round =>
            clear hc0 hc1 hbel
            obtain ⟨k, hk, rfl, hbel, hrec, rfl⟩ := hrel
            obtain ⟨wo, rfl⟩ : ∃ wo : World, wo = wr := ⟨_, rfl⟩
            by_cases hlt : k < s.types.length
            · obtain ⟨b, o, hfa, hb, hc⟩ := (rd.below hbel).elem (n := 2) (fun _ => rfl) (by omega) hlt
              have hc0 : wo.cell? ⟨b, o + k * 2, none⟩ = some (.string s.types[k].name) := hc 0 _ rfl
              have hc1 : wo.cell? ⟨b, o + k * 2 + 1, none⟩ = some (.slice s.types[k].fa s.types[k].fields.length s.types[k].fc) := hc 1 _ rfl
              rw [drop_sig s k hlt, List.any_cons] at hrec
              obtain ⟨frd, flen, _, fsz⟩ := each s.types[k] (by simp)
              have htk : (s.types.map sig).take (k + 1) = (s.types.map sig).take k ++ [sig s.types[k]] := by rw [List.take_succ_eq_append_getElem (by simpa using hlt)]; simp
              have HTK := Lib.hid htk
              clear hc htk
              rw [hfa]
              have HF := Lib.hid hfa; clear hfa
              generalize s.types[k] = T at *
              go_wp2_with fail
              have kt := Bk.new wo 50 #[.string T.name, .slice T.fa T.fields.length T.fc]
              have hbel1 := hbel.alloc hbel.size (.cells #[.string T.name, .slice T.fa T.fields.length T.fc] 50)
              have hcall3 : ∀ (i : Nat) (hi : i < (T.fields.map (·.name)).length) (w4 : World), Below (wo.heap.size + 1) (wo.alloc (.cells #[.string T.name, .slice T.fa T.fields.length T.fc] 50)) w4 → Calls Tryz.prog 31 #[.int .i64 i, .pointer (some ⟨wo.heap.size, 0, none⟩)] w4 fun e w' => e = .returned (.string (T.fields.map (·.name))[i]) ∧ w4 = w' := by
                intro i hi w4 hb3
                have hlt : i < T.fields.length := by simpa using hi
                obtain ⟨b, o, hfa, hb, hc⟩ := (frd.below (hbel1.trans (hb3.mono (by have := hbel.size; omega)))).elem (n := 2) (fun _ => rfl) (by omega) hlt
                have hc0 : w4.cell? ⟨b, o + i * 2, none⟩ = some (.string T.fields[i].name) := hc 0 _ rfl
                have hs : w4.cell? ⟨wo.heap.size, 1, none⟩ = some (.slice T.fa T.fields.length T.fc) := (kt.below hb3 (by omega)).cell 1
                rw [hfa] at hs
                simp only [List.getElem_map]
                clear hc
                go_enter Tryz.func31, Tryz.ntmps31
                go_wp2
                go_ret
                exact ⟨rfl, rfl⟩
              have H3 := Lib.hid hcall3; clear hcall3
              have hfl : (T.fields.map (·.name)).length ≤ 8796093021952 := by simp; omega
              have hfs : ∀ x ∈ T.fields.map (·.name), x.size ≤ 140737488351232 := by
                intro x hx
                obtain ⟨f, hf, rfl⟩ := List.mem_map.1 hx
                exact fsz f hf
              have HFS := Lib.hid hfs; clear hfs
              refine (namesField (T.fields.map (·.name)) _ (wo.heap.size + 1) T.fields.length _ (by simp) hfl HFS.out (by simp) H3.out).mono ?_
              rintro e w4 ⟨rfl, hb2⟩
              have kt4 := kt.old hb2
              have hbel4 := hbel1.trans (hb2.mono hbel1.size)
              have hnt : badB ((T.fields.map (·.name)).map (·.toList)) = nameT (sig T) := by unfold nameT fieldsOf; rw [List.map_map]; rfl
              rw [hnt]
              clear hc0 hc1 hb2 kt hbel1 hnt
              cases hN : nameT (sig T)
              · have HN := Lib.hid hN; clear hN
                have hc1 : w4.cell? ⟨wo.heap.size, 1, none⟩ = some (.slice T.fa T.fields.length T.fc) := kt4.cell 1
                go_wp2
                go_loopw [5, 62] (fun ee i wr => ∃ j : Nat, j ≤ T.fields.length ∧ i = .int .i64 j ∧ Below w.heap.size w wr ∧ ee = .int .i64 (eZ (((s.types.map sig).take k).any kindT || (T.fields.take j).any kindBadB))) (fun _ i _ => T.fields.length - (intOf i).toNat)
                case atStart => exact ⟨0, Nat.zero_le _, rfl, hbel4, by simp⟩
                case round =>
                  clear hbel4 hc1 kt4
                  obtain ⟨j, hj, rfl, hbel4, rfl⟩ := hrel
                  by_cases hlj : j < T.fields.length
                  · obtain ⟨b, o, hfa, hb, hc⟩ := (frd.below hbel4).elem (n := 2) (fun _ => rfl) (by omega) hlj
                    have hc0 : wr.cell? ⟨b, o + j * 2, none⟩ = some (.string T.fields[j].name) := hc 0 _ rfl
                    have hc1 : wr.cell? ⟨b, o + j * 2 + 1, none⟩ = some (.int .i64 T.fields[j].kind) := hc 1 _ rfl
                    have htj : T.fields.take (j + 1) = T.fields.take j ++ [T.fields[j]] := List.take_succ_eq_append_getElem hlj
                    have HTJ := Lib.hid htj
                    clear hc htj
                    rw [hfa]
                    clear hfa
                    generalize T.fields[j] = f at *
                    by_cases hf1 : f.kind < 1
                    · have HB : Hid (kindBadB f = true) := (by simp [kindBadB, hf1] : kindBadB f = true)
                      go_wp2
                      go_roundw
                      case rel => exact ⟨j + 1, by omega, by go_num, hbel4.alloc hbel4.size _, by rw [HTJ.out, List.any_append]; simp [HB.out, eZ]⟩
                      case measure => simp [intOf]; omega
                    · by_cases hf2 : 4 < f.kind
                      · have HB : Hid (kindBadB f = true) := (by simp [kindBadB, hf2] : kindBadB f = true)
                        go_wp2
                        go_roundw
                        case rel => exact ⟨j + 1, by omega, by go_num, hbel4.alloc hbel4.size _, by rw [HTJ.out, List.any_append]; simp [HB.out, eZ]⟩
                        case measure => simp [intOf]; omega
                      · have HB : Hid (kindBadB f = false) := (by simp [kindBadB, hf1, hf2] : kindBadB f = false)
                        go_wp2
                        go_roundw
                        case rel => exact ⟨j + 1, by omega, by go_num, hbel4.alloc hbel4.size _, by rw [HTJ.out, List.any_append]; simp [HB.out]⟩
                        case measure => simp [intOf]; omega
                  · go_wp2
                    go_roundw
                    case rel =>
                      refine ⟨k + 1, by omega, by go_num, hbel4, by rw [hrec.out, HN.out]; rfl, ?_⟩
                      rw [HTK.out, List.any_append, List.take_of_length_le (by omega : T.fields.length ≤ j)]
                      simp [kindT, sig]
                    case measure => simp [intOf]; omega
              · have HN := Lib.hid hN; clear hN
                go_wp2
                go_ret
                exact ⟨ret_int (by rw [HS.out, hrec.out, HN.out]; simp), hbel4⟩
            · have hno : (s.types.map sig).any nameT = false := by rw [hrec.out, List.drop_eq_nil_of_le (by simp; omega)]; rfl
              have hta : (s.types.map sig).take k = s.types.map sig := List.take_of_length_le (by simp; omega)
              rw [hta]
              have HNo := Lib.hid hno; clear hno hta
              go_wp2
              go_ret
              exact ⟨ret_int (by rw [HS.out, HT.out, HY.out, HNo.out]; simp), hbel⟩
        · have HY := Lib.hid hY; clear hY
          go_wp2
          go_ret
          exact ⟨ret_int (by rw [HS.out, HT.out, HY.out]; simp), hbel⟩
      · have HT := Lib.hid hT; clear hT
        go_wp2
        go_ret
        exact ⟨ret_int (by rw [HS.out, HT.out]; simp), hbel⟩
end Go.Proofs.YtpakcicbojbonaaGreatDoor
