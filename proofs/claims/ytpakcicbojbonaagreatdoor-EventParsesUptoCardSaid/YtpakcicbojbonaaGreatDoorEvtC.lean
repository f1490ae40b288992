/- Layer 4: the kinds of a schema's attributes, by the program. No conditions. -/
import Derived.Test.YtpakcicbojbonaaGreatDoorEvtB
namespace Go.Proofs.YtpakcicbojbonaaGreatDoor
open Go.RowKit
set_option maxRecDepth 10000
set_option linter.unusedVariables false
set_option linter.unusedSimpArgs false

theorem infoI : (Tryz.prog.info? 3).map (fun i => (i.zero, i.size, i.bytes)) = some (some (.int .i64 0), 1, 8) := by kernel_rfl
theorem infoIs : (Tryz.prog.info? 110).map (fun i => (i.zero, i.size, i.bytes)) = some (some (.slice none 0 0), 1, 24) := by kernel_rfl
def tkinds (t : TypeV) : List Int := t.fields.map (·.kind)
theorem kindsOf_types (s : SchemaV) : kindsOf (s.types.map sig) = s.types.map tkinds := by
  unfold kindsOf
  rw [List.map_map]
  rfl
/-- What the kinds are. -/
def KindsOk (K : List (List Int)) (w : World) (r : Ending) (w' : World) : Prop :=
  ∃ (A : Option Addr) (c : Nat) (rows : List RowV), r = .returned (.slice A K.length c) ∧ rows.map (·.l) = K ∧
    w'.ownsRow w.heap.size 110 1 (.slice A K.length c) K.length (rows.flatMap RowV.cells) ∧
    (∀ r ∈ rows, w'.ownsRow w.heap.size 3 1 (.slice r.A r.l.length r.c) r.l.length (ints r.l)) ∧ Below w.heap.size w w'

set_option maxHeartbeats 4000000 in
theorem kinds_any (s : SchemaV) (w : World) (h : s.ok w w.heap.size) :
    Calls Tryz.prog 37 #[s.val] w (KindsOk (kindsOf (s.types.map sig)) w) := by
  obtain ⟨rd, len, each, srd, slen, ssize⟩ := h
  obtain ⟨iI, hI, hI0, hI1, hI2⟩ := info_parts infoI
  obtain ⟨iS, hS, hS0, hS1, hS2⟩ := info_parts infoIs
  rw [kindsOf_types]
  have RD := Lib.hid rd
  have EA := Lib.hid each
  clear rd each srd ssize
  unfold SchemaV.val
  go_enter Tryz.func37, Tryz.ntmps37
  go_wp2
  go_loopw [3, 12] (fun v i wr => ∃ (k : Nat) (A : Option Addr) (c : Nat) (rows : List RowV), k ≤ s.types.length ∧ v = .slice A k c ∧ i = .int .i64 k ∧ Below w.heap.size w wr ∧ Hid (rows.map (·.l) = (s.types.take k).map tkinds) ∧
      wr.ownsRow w.heap.size 110 1 (.slice A k c) k (rows.flatMap RowV.cells) ∧
      Hid (∀ r ∈ rows, wr.ownsRow w.heap.size 3 1 (.slice r.A r.l.length r.c) r.l.length (ints r.l))) (fun _ i _ => s.types.length - (intOf i).toNat)
  case atStart => exact ⟨0, none, 0, [], Nat.zero_le _, rfl, rfl, (Below.refl _ _).alloc (Nat.le_refl _) _, rfl, World.ownsRow_nil _ _ _ _, Lib.hid (by simp)⟩
  case round =>
    obtain ⟨k, A, c, rows, hk, rfl, rfl, hbel, hsig, hown, heach⟩ := hrel
    obtain ⟨wo, rfl⟩ : ∃ wo : World, wo = wr := ⟨_, rfl⟩
    by_cases hlt : k < s.types.length
    · as_aux_lemma =>
      obtain ⟨b, o, hfa, hb, hc⟩ := (RD.out.below hbel).elem (n := 2) (fun _ => rfl) (by omega) hlt
      have hx := EA.out s.types[k] (List.getElem_mem _)
      have hnx : (s.types.take (k + 1)).map tkinds = (s.types.take k).map tkinds ++ [tkinds s.types[k]] := by rw [List.take_succ_eq_append_getElem hlt, List.map_append]; rfl
      have HNX := Lib.hid hnx
      clear hnx
      generalize s.types[k] = T at *
      have e0 : wo.cell? ⟨b, o + k * 2, none⟩ = some (.string T.name) := hc 0 _ rfl
      have e1 : wo.cell? ⟨b, o + k * 2 + 1, none⟩ = some (.slice T.fa T.fields.length T.fc) := hc 1 _ rfl
      rw [hfa]
      have frd := hx.rd
      have flen := hx.len
      have FR := Lib.hid frd
      have hz := hbel.size
      clear hc hx frd
      go_wp2
      clear e0 e1
      go_loopw [6, 19] (fun v i wr => ∃ (j : Nat) (A' : Option Addr) (c' : Nat), j ≤ T.fields.length ∧ v = .slice A' j c' ∧ i = .int .i64 j ∧ Below wo.heap.size wo wr ∧
          wr.ownsRow (wo.heap.size + 1) 3 1 (.slice A' j c') j (ints ((tkinds T).take j))) (fun _ i _ => T.fields.length - (intOf i).toNat)
      case atStart => exact ⟨0, none, 0, Nat.zero_le _, rfl, rfl, (Below.refl _ _).alloc (Nat.le_refl _) _, World.ownsRow_nil _ _ _ _⟩
      case round =>
        obtain ⟨j, A', c', hj, rfl, rfl, hbi, howni⟩ := hrel
        by_cases hlj : j < T.fields.length
        · as_aux_lemma =>
          obtain ⟨b', o', hfa', hb', hc'⟩ := ((FR.out.below hbel).below (hbi.mono hbel.size)).elem (n := 2) (fun _ => rfl) (by omega) hlj
          have hd0 : wr.cell? ⟨b', o' + j * 2, none⟩ = some (.string T.fields[j].name) := hc' 0 _ rfl
          have hd1 : wr.cell? ⟨b', o' + j * 2 + 1, none⟩ = some (.int .i64 T.fields[j].kind) := hc' 1 _ rfl
          have hnx : ints ((tkinds T).take (j + 1)) = ints ((tkinds T).take j) ++ [.int .i64 T.fields[j].kind] := by rw [List.take_succ_eq_append_getElem (by simpa [tkinds] using hlj)]; simp [ints, tkinds]
          have HN2 := Lib.hid hnx
          clear hnx hc'
          generalize T.fields[j] = f at *
          rw [hfa']
          have hz2 := hbi.size
          go_wp2_with (at_builtin; refine wpList_append_rd (by rfl) _ _ 110 (by rfl) (wo.heap.size + 1) 3 iI _ 1 8 Tryz.underlying110 hI hI0 hI1 hI2 rfl (by decide) (.slice A' j c') j _ (by rfl) ((howni.alloc _).alloc _) (wr.heap.size + 1 + 1) (some ⟨wr.heap.size + 1, 0, none⟩) 1 1 [.int .i64 f.kind] (by rfl) (Rd.lit (by simp) _ _) (by rfl) ?c2 ?c3 ?c4 ?c5 ?_)
          case c2 => first | rfl | (intro u hu; simp at hu; subst hu; rfl)
          case c3 => unfold maxLen; omega
          case c4 => omega
          case c5 => first | omega | (simp; omega)
          intro A3 c3 w3 hown3 hg hat
          have hbi3 : Below wo.heap.size wo w3 := below_own ((hbi.alloc hz2 _).alloc (by simp; omega) _) ((howni.alloc _).alloc _) (by omega) hg (by simp; omega)
          clear hg hat howni
          rw [← HN2.out] at hown3
          go_wp2
          go_roundw
          case rel => exact ⟨j + 1, A3, c3, by omega, rfl, by go_num, hbi3, hown3⟩
          case measure => simp [intOf]; omega
        · as_aux_lemma =>
          obtain rfl : j = T.fields.length := by omega
          rw [List.take_of_length_le (by simp [tkinds])] at howni
          have hownO := own_old hown hbi
          have hbe2 : Below w.heap.size w wr := hbel.trans (hbi.mono hbel.size)
          have hz2 := hbi.size
          have HE : Hid (∀ r ∈ rows, wr.ownsRow w.heap.size 3 1 (.slice r.A r.l.length r.c) r.l.length (ints r.l)) := Lib.hid fun r hr => own_old (heach.out r hr) hbi
          have hownN : wr.ownsRow w.heap.size 3 1 (.slice A' T.fields.length c') T.fields.length (ints (tkinds T)) := own_mono howni (by omega)
          go_wp2_with (at_builtin; refine wpList_append_rd (by rfl) _ _ 86 (by rfl) w.heap.size 110 iS _ 1 24 Tryz.underlying86 hS hS0 hS1 hS2 rfl (by decide) (.slice A k c) k _ (by rfl) (hownO.alloc _) (wr.heap.size + 1) (some ⟨wr.heap.size, 0, none⟩) 1 1 [.slice A' T.fields.length c'] (by rfl) (Rd.lit rfl _ _) (by rfl) ?c2 ?c3 ?c4 ?c5 ?_)
          case c2 => first | rfl | (intro u hu; simp at hu; subst hu; rfl)
          case c3 => unfold maxLen; omega
          case c4 => omega
          case c5 => first | omega | (simp; omega)
          intro A3 c3 w3 hown3 hg hat
          have hbe3 : Below w.heap.size w w3 := below_own (hbe2.alloc (by omega) _) (hownO.alloc _) (Nat.le_refl _) hg (by simp; omega)
          have hlk : (tkinds T).length = T.fields.length := by simp [tkinds]
          have HE3 : Hid (∀ r ∈ rows ++ [(⟨A', c', tkinds T⟩ : RowV)], w3.ownsRow w.heap.size 3 1 (.slice r.A r.l.length r.c) r.l.length (ints r.l)) := by
            refine Lib.hid fun r hr => ?_
            rcases List.mem_append.1 hr with hr | hr
            · exact own_keep ((HE.out r hr).alloc _) (hownO.alloc _) (by decide) hg
            · obtain rfl := List.mem_singleton.1 hr
              show w3.ownsRow w.heap.size 3 1 (.slice A' (tkinds T).length c') (tkinds T).length (ints (tkinds T))
              rw [hlk]
              exact own_keep (hownN.alloc _) (hownO.alloc _) (by decide) hg
          have hown4 : w3.ownsRow w.heap.size 110 1 (.slice A3 (k + 1) c3) (k + 1) ((rows ++ [(⟨A', c', tkinds T⟩ : RowV)]).flatMap RowV.cells) := by
            rw [List.flatMap_append]
            show w3.ownsRow w.heap.size 110 1 (.slice A3 (k + 1) c3) (k + 1) (rows.flatMap RowV.cells ++ [.slice A' (tkinds T).length c'])
            rw [hlk]
            exact hown3
          have HS : Hid ((rows ++ [(⟨A', c', tkinds T⟩ : RowV)]).map (·.l) = (s.types.take (k + 1)).map tkinds) := Lib.hid (by rw [List.map_append, hsig.out, HNX.out]; rfl)
          clear hown3 hg hat hown hownO hownN HE hsig HNX howni hlk
          go_wp2
          go_roundw
          case rel => exact ⟨k + 1, A3, c3, rows ++ [(⟨A', c', tkinds T⟩ : RowV)], by omega, rfl, by go_num, hbe3, HS, hown4, HE3⟩
          case measure => simp [intOf]; omega
    · as_aux_lemma =>
      obtain rfl : k = s.types.length := by omega
      rw [List.take_length] at hsig
      go_wp2
      go_ret
      have hl : (s.types.map tkinds).length = s.types.length := by simp
      refine ⟨A, c, rows, by simp only [List.length_map]; rfl, hsig.out, by rw [hl]; exact hown, heach.out, hbel⟩
theorem kinds_ok {K : List (List Int)} {rows : List RowV} {A : Option Addr} {c B : Nat} {w' : World} (hs : rows.map (·.l) = K) (hw : w'.ownsRow B 110 1 (.slice A K.length c) K.length (rows.flatMap RowV.cells))
    (he : ∀ r ∈ rows, w'.ownsRow B 3 1 (.slice r.A r.l.length r.c) r.l.length (ints r.l)) (hk : ∀ l ∈ K, l.length ≤ 17592186043904) : rows.length = K.length ∧ Rd w' w'.heap.size A (rows.flatMap RowV.cells) ∧ ∀ r ∈ rows, r.ok w' w'.heap.size :=
  ⟨by rw [← hs, List.length_map], own_rd hw, fun r hr => ⟨own_rd (he r hr), hk _ (by rw [← hs]; exact List.mem_map_of_mem hr)⟩⟩
end Go.Proofs.YtpakcicbojbonaaGreatDoor
