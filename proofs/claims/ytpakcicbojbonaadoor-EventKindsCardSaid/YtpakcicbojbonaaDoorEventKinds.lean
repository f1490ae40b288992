/- EventKinds holds. No conditions. -/
import Derived.Test.YtpakcicbojbonaaDoorEvtT
namespace Go.Proofs.YtpakcicbojbonaaDoor.eventKinds
open Go.ChangeShapes Go.WideShapes Go.ChangeAt Go.RowKit
open Go.ChangeMaps (open_string shut_string)
set_option linter.unusedSimpArgs false
set_option linter.unusedVariables false

def ekR7 (s : SchemaV) (T : TypeV) (kb ko kc k : Nat) (rA : Option Addr) (rc : Nat) (wl : World) : List Spec := [.is (.slice (some ⟨kb, ko, none⟩) s.types.length kc),
  .is (.int .i64 (k : Nat)),
  .is (.pointer (some ⟨kb, ko + k, none⟩)),
  .is (.slice rA T.fields.length rc),
  .is (.int .i64 (T.fields.length : Nat)),
  .is (.pointer (some ⟨wl.heap.size, 1, none⟩)),
  .is (.slice T.fa T.fields.length T.fc),
  .is (.int .i64 (T.fields.length : Nat)),
  .is (.bool false)]
def ekR12 (s : SchemaV) (T : TypeV) (kb ko kc k rb ro rc j : Nat) (f : FieldV) (wj : World) : List Spec := [.is (.slice (some ⟨kb, ko, none⟩) s.types.length kc),
  .is (.int .i64 (k : Nat)),
  .is (.pointer (some ⟨kb, ko + k, none⟩)),
  .is (.slice (some ⟨rb, ro, none⟩) T.fields.length rc),
  .is (.int .i64 (j : Nat)),
  .is (.pointer (some ⟨rb, ro + j, none⟩)),
  .is (.int .i64 f.kind),
  .is (.pointer (some ⟨wj.heap.size, 1, none⟩)),
  .is (.int .i64 f.kind),
  .is (.bool false)]
set_option maxRecDepth 100000 in
set_option maxHeartbeats 1000000 in
theorem walk (w : World) (ht : Tab w) (s : SchemaV) (hs : s.ok w w.heap.size) :
    Calls Tryd.prog 4 #[s.val] w fun e w' => e = .returned (.bool true) ∧ Below w.heap.size w w' := by
  have hW : Below w.heap.size w (w.alloc (.cells #[.slice s.ta s.types.length s.tc, .slice s.sa s.syms.length s.sc] 29)) := (Below.refl _ _).alloc (Nat.le_refl _) _
  have kb := Bk.new w 29 #[.slice s.ta s.types.length s.tc, .slice s.sa s.syms.length s.sc]
  have hsW := hs.old hW
  have htW := ht.old hW
  have HW := Lib.hid hW
  have H1 := Lib.hid (sTo_any s _ hsW)
  have HS := Lib.hid hsW
  have HT := Lib.hid htW
  have hlen := hs.len
  clear hs ht hW hsW htW
  unfold SchemaV.val
  unfold SchemaV.val at H1
  go_enter Tryd.func4, Tryd.ntmps4
  go_wp2_with fail
  generalize w.alloc (.cells #[.slice s.ta s.types.length s.tc, .slice s.sa s.syms.length s.sc] 29) = W at *
  refine H1.out.mono ?_
  rintro r w1 ⟨v1, rfl, ⟨s', rfl, hs', hT', hY'⟩, hb1⟩
  have H2 := Lib.hid (kinds_any s' w1 hs')
  rw [hT', kindsOf_types] at H2
  clear hs' hT' hY' H1
  go_wp2_with fail
  refine H2.out.mono ?_
  rintro r w2 ⟨KA, kc, rows, rfl, hrows, hown, heach, hb2⟩
  have hln : (s.types.map tkinds).length = s.types.length := List.length_map ..
  rw [hln] at hown
  have hrl : rows.length = s.types.length := by rw [← hln, ← hrows, List.length_map]
  have hb12 := hb1.trans (hb2.mono hb1.size)
  have hkr : Rd w2 w2.heap.size KA (rows.flatMap RowV.cells) := own_rd hown
  have HKR := Lib.hid hkr
  have HEA : Hid (∀ r ∈ rows, Rd w2 w2.heap.size r.A (ints r.l)) := Lib.hid fun r hr => own_rd (heach r hr)
  have HROW := Lib.hid hrows
  have HRL := Lib.hid hrl
  have HLN := Lib.hid hln
  have k0 := (kb.old hb12).cell 0
  have k1 := (kb.old hb12).cell 1
  clear hown heach hb1 hb2 H2 hkr hrows hrl hln
  rw [HLN.out]
  have hnn : ((s.types.length : Int) != (s.types.length : Int)) = false := by simp
  go_wp2
  clear hnn k0 k1
  go_loopw [20] (fun i wr => ∃ k : Nat, k ≤ s.types.length ∧ i = .int .i64 k ∧ Below w2.heap.size w2 wr) (fun i _ => s.types.length - (intOf i).toNat)
  case atStart => exact ⟨0, Nat.zero_le _, rfl, Below.refl _ _⟩
  case round =>
    obtain ⟨k, hk, rfl, hbel⟩ := hrel
    obtain ⟨wl, rfl⟩ : ∃ wl : World, wl = wr := ⟨_, rfl⟩
    by_cases hlt : k < s.types.length
    · as_aux_lemma =>
      have hbW := hb12.trans (hbel.mono hb12.size)
      obtain ⟨tb, tO, hta, htb, htc⟩ := (HS.out.rd.below hbW).elem (n := 2) (fun _ => rfl) (by omega) hlt
      have hrk : k < rows.length := by rw [HRL.out]; exact hlt
      obtain ⟨kb, ko, rfl, hkb, hkc⟩ := (HKR.out.below hbel).elem (n := 1) (fun _ => rfl) (by omega) hrk
      have hx := HS.out.each s.types[k] (List.getElem_mem _)
      have hre : rows[k].l = tkinds s.types[k] := by
        have h : (rows.map (·.l))[k]? = (s.types.map tkinds)[k]? := by rw [HROW.out]
        rw [List.getElem?_map, List.getElem?_map, List.getElem?_eq_getElem hrk, List.getElem?_eq_getElem hlt] at h
        exact Option.some.inj h
      have hrd := HEA.out rows[k] (List.getElem_mem _)
      generalize s.types[k] = T at *
      generalize rows[k] = row at *
      obtain ⟨rA, rc, rl⟩ := row
      obtain rfl : rl = tkinds T := hre
      have htl : (tkinds T).length = T.fields.length := by simp [tkinds]
      have t0 : wl.cell? ⟨tb, tO + k * 2, none⟩ = some (.string T.name) := htc 0 _ rfl
      have t1 : wl.cell? ⟨tb, tO + k * 2 + 1, none⟩ = some (.slice T.fa T.fields.length T.fc) := htc 1 _ rfl
      have ck0 : wl.cell? ⟨kb, ko + k * 1, none⟩ = some (.slice rA (tkinds T).length rc) := hkc 0 _ rfl
      rw [Nat.mul_one, htl] at ck0
      have RR : Hid (Rd w2 w2.heap.size rA (ints (tkinds T))) := Lib.hid hrd
      have FR := Lib.hid (hx.rd.below hbW)
      have hfl : T.fields.length ≤ 5864062014634 := hx.len
      have hkI : (k : Int) < (s.types.length : Int) := by omega
      have hbA : Below wl.heap.size wl (wl.alloc (.cells #[.string T.name, .slice T.fa T.fields.length T.fc] 34)) := (Below.refl _ _).alloc (Nat.le_refl _) _
      have kt := Bk.new wl 34 #[.string T.name, .slice T.fa T.fields.length T.fc]
      have HTL := Lib.hid htl
      rw [hta]
      have HTA := Lib.hid hta
      clear htc hkc hx hrd htl hta
      go_wp2_with fail
      generalize wl.alloc (.cells #[.string T.name, .slice T.fa T.fields.length T.fc] 34) = W2 at *
      have ck := (bcell hbA _ _ (World.block_lt_of_cell? _ _ ck0)).trans ck0
      clear t0 t1 ck0
      have t1 := kt.cell 1
      refine wp_region_b (by kernel_rfl) (fun qk => (ekR7 s T kb ko kc k rA rc wl).getD qk .any) (by kernel_rfl) ?_ ?_
      · refine BOk.cons rfl [] [3] rfl rfl (by kernel_rfl) (by kernel_rfl) (fun qK qa wr hB qO qF hK => ?_) ?_
        · have e3 : qa.tmps[3]? = some (.slice (some ⟨kb, ko, none⟩) s.types.length kc) := qO.1.trans rfl
          clear qO qF
          go_simp
          exact hK _ _ (Below.refl _ _) rfl
        refine BOk.cons rfl [] [4] rfl rfl (by kernel_rfl) (by kernel_rfl) (fun qK qa wr hB qO qF hK => ?_) ?_
        · have e4 : qa.tmps[4]? = some (.int .i64 (k : Nat)) := qO.1.trans rfl
          clear qO qF
          go_simp
          exact hK _ _ (Below.refl _ _) rfl
        refine BOk.cons rfl [0, 1] [] rfl rfl (by kernel_rfl) (by kernel_rfl) (fun qK qa wr hB qO qF hK => ?_) ?_
        · have e25 : qa.tmps[25]? = some (.slice (some ⟨kb, ko, none⟩) s.types.length kc) := fis qF.1 rfl rfl
          have e26 : qa.tmps[26]? = some (.int .i64 (k : Nat)) := fis qF.2.1 rfl rfl
          clear qO qF
          go_simp
          exact hK _ _ (Below.refl _ _) rfl
        refine BOk.cons rfl [2] [] rfl rfl (by kernel_rfl) (by kernel_rfl) (fun qK qa wr hB qO qF hK => ?_) ?_
        · have e27 : qa.tmps[27]? = some (.pointer (some ⟨kb, ko + k, none⟩)) := fis qF.1 rfl rfl
          clear qO qF
          have hck := (bcell hB _ _ (World.block_lt_of_cell? _ _ ck)).trans ck
          go_simp
          exact hK _ _ (Below.refl _ _) rfl
        refine BOk.cons rfl [3] [] rfl rfl (by kernel_rfl) (by kernel_rfl) (fun qK qa wr hB qO qF hK => ?_) ?_
        · have e28 : qa.tmps[28]? = some (.slice rA T.fields.length rc) := fis qF.1 rfl rfl
          clear qO qF
          go_simp
          exact hK _ _ (Below.refl _ _) rfl
        refine BOk.cons rfl [] [5] rfl rfl (by kernel_rfl) (by kernel_rfl) (fun qK qa wr hB qO qF hK => ?_) ?_
        · have e5 : qa.tmps[5]? = some (.pointer (some ⟨wl.heap.size, 0, none⟩)) := qO.1.trans rfl
          clear qO qF
          go_simp
          exact hK _ _ (Below.refl _ _) rfl
        refine BOk.cons rfl [5] [] rfl rfl (by kernel_rfl) (by kernel_rfl) (fun qK qa wr hB qO qF hK => ?_) ?_
        · have e30 : qa.tmps[30]? = some (.pointer (some ⟨wl.heap.size, 1, none⟩)) := fis qF.1 rfl rfl
          clear qO qF
          have ht1 := (bcell hB _ _ (World.block_lt_of_cell? _ _ t1)).trans t1
          go_simp
          exact hK _ _ (Below.refl _ _) rfl
        refine BOk.cons rfl [6] [] rfl rfl (by kernel_rfl) (by kernel_rfl) (fun qK qa wr hB qO qF hK => ?_) ?_
        · have e31 : qa.tmps[31]? = some (.slice T.fa T.fields.length T.fc) := fis qF.1 rfl rfl
          clear qO qF
          go_simp
          exact hK _ _ (Below.refl _ _) rfl
        refine BOk.cons rfl [4, 7] [] rfl rfl (by kernel_rfl) (by kernel_rfl) (fun qK qa wr hB qO qF hK => ?_) ?_
        · have e29 : qa.tmps[29]? = some (.int .i64 (T.fields.length : Nat)) := fis qF.1 rfl rfl
          have e32 : qa.tmps[32]? = some (.int .i64 (T.fields.length : Nat)) := fis qF.2.1 rfl rfl
          clear qO qF
          go_simp
          exact hK _ _ (Below.refl _ _) (by show (_ : Value) = _; first | rfl | (simp; done))
        exact BOk.nil
      intro vals wr hl hB hR
      match vals, hl with
      | [z25, z26, z27, z28, z29, z30, z31, z32, z33], _ =>
      have r8 : z33 = .bool false := hR 8 _ rfl
      subst r8
      clear hR
      simp only [List.cons_append, List.nil_append, putAll, Act.put, List.setIfInBounds_toArray, List.set_cons_zero, List.set_cons_succ]
      obtain ⟨wz, rfl⟩ : ∃ wz : World, wz = wr := ⟨_, rfl⟩
      have hbz := hbA.trans (hB.mono hbA.size)
      have kt2 := kt.old hB
      have ckz := (bcell hB _ _ (World.block_lt_of_cell? _ _ ck)).trans ck
      have hbe2 := hbel.trans (hbz.mono hbel.size)
      clear t1 ck hB hbA kt
      have t1 := kt2.cell 1
      go_wp2
      clear t1
      go_loopw [37] (fun i wr => ∃ j : Nat, j ≤ T.fields.length ∧ i = .int .i64 j ∧ Below wz.heap.size wz wr) (fun i _ => T.fields.length - (intOf i).toNat)
      case atStart => exact ⟨0, Nat.zero_le _, rfl, Below.refl _ _⟩
      case round =>
        obtain ⟨j, hj, rfl, hbi⟩ := hrel
        obtain ⟨wj, rfl⟩ : ∃ wj : World, wj = wr := ⟨_, rfl⟩
        by_cases hlj : j < T.fields.length
        · as_aux_lemma =>
          obtain ⟨fb, fo, hfa, hfb, hfc⟩ := ((FR.out.below (hbz.mono (by have := hbW.size; omega))).below (hbi.mono (by have := hbW.size; have := hbz.size; omega))).elem (n := 2) (fun _ => rfl) (by omega) hlj
          have hjt : j < (tkinds T).length := by rw [HTL.out]; exact hlj
          obtain ⟨rb, ro, rfl, hrb, hrc⟩ := (show Rd wj w2.heap.size rA ((tkinds T).map fun n : Int => Value.int .i64 n) from RR.out.below (hbe2.trans (hbi.mono hbe2.size))).elem1 hjt
          have hkk : (tkinds T)[j] = T.fields[j].kind := by simp [tkinds]
          rw [hkk] at hrc
          generalize T.fields[j] = f at *
          have f0 : wj.cell? ⟨fb, fo + j * 2, none⟩ = some (.string f.name) := hfc 0 _ rfl
          have f1 : wj.cell? ⟨fb, fo + j * 2 + 1, none⟩ = some (.int .i64 f.kind) := hfc 1 _ rfl
          have ckj0 := (bcell hbi _ _ (World.block_lt_of_cell? _ _ ckz)).trans ckz
          have hbA : Below wj.heap.size wj (wj.alloc (.cells #[.string f.name, .int .i64 f.kind] 36)) := (Below.refl _ _).alloc (Nat.le_refl _) _
          have kf := Bk.new wj 36 #[.string f.name, .int .i64 f.kind]
          have hjI : (j : Int) < (T.fields.length : Int) := by omega
          rw [hfa]
          have HFA := Lib.hid hfa
          clear hfc hfa hkk
          go_wp2_with fail
          generalize wj.alloc (.cells #[.string f.name, .int .i64 f.kind] 36) = W3 at *
          have ckj := (bcell hbA _ _ (World.block_lt_of_cell? _ _ ckj0)).trans ckj0
          have cr := (bcell hbA _ _ (World.block_lt_of_cell? _ _ hrc)).trans hrc
          clear f0 f1 ckj0 hrc
          have f1 := kf.cell 1
          refine wp_region_b (by kernel_rfl) (fun qk => (ekR12 s T kb ko kc k rb ro rc j f wj).getD qk .any) (by kernel_rfl) ?_ ?_
          · refine BOk.cons rfl [] [3] rfl rfl (by kernel_rfl) (by kernel_rfl) (fun qK qa wr hB qO qF hK => ?_) ?_
            · have e3 : qa.tmps[3]? = some (.slice (some ⟨kb, ko, none⟩) s.types.length kc) := qO.1.trans rfl
              clear qO qF
              go_simp
              exact hK _ _ (Below.refl _ _) rfl
            refine BOk.cons rfl [] [4] rfl rfl (by kernel_rfl) (by kernel_rfl) (fun qK qa wr hB qO qF hK => ?_) ?_
            · have e4 : qa.tmps[4]? = some (.int .i64 (k : Nat)) := qO.1.trans rfl
              clear qO qF
              go_simp
              exact hK _ _ (Below.refl _ _) rfl
            refine BOk.cons rfl [0, 1] [] rfl rfl (by kernel_rfl) (by kernel_rfl) (fun qK qa wr hB qO qF hK => ?_) ?_
            · have e42 : qa.tmps[42]? = some (.slice (some ⟨kb, ko, none⟩) s.types.length kc) := fis qF.1 rfl rfl
              have e43 : qa.tmps[43]? = some (.int .i64 (k : Nat)) := fis qF.2.1 rfl rfl
              clear qO qF
              go_simp
              exact hK _ _ (Below.refl _ _) rfl
            refine BOk.cons rfl [2] [] rfl rfl (by kernel_rfl) (by kernel_rfl) (fun qK qa wr hB qO qF hK => ?_) ?_
            · have e44 : qa.tmps[44]? = some (.pointer (some ⟨kb, ko + k, none⟩)) := fis qF.1 rfl rfl
              clear qO qF
              have hckj := (bcell hB _ _ (World.block_lt_of_cell? _ _ ckj)).trans ckj
              go_simp
              exact hK _ _ (Below.refl _ _) rfl
            refine BOk.cons rfl [] [6] rfl rfl (by kernel_rfl) (by kernel_rfl) (fun qK qa wr hB qO qF hK => ?_) ?_
            · have e6 : qa.tmps[6]? = some (.int .i64 (j : Nat)) := qO.1.trans rfl
              clear qO qF
              go_simp
              exact hK _ _ (Below.refl _ _) rfl
            refine BOk.cons rfl [3, 4] [] rfl rfl (by kernel_rfl) (by kernel_rfl) (fun qK qa wr hB qO qF hK => ?_) ?_
            · have e45 : qa.tmps[45]? = some (.slice (some ⟨rb, ro, none⟩) T.fields.length rc) := fis qF.1 rfl rfl
              have e46 : qa.tmps[46]? = some (.int .i64 (j : Nat)) := fis qF.2.1 rfl rfl
              clear qO qF
              go_simp
              exact hK _ _ (Below.refl _ _) rfl
            refine BOk.cons rfl [5] [] rfl rfl (by kernel_rfl) (by kernel_rfl) (fun qK qa wr hB qO qF hK => ?_) ?_
            · have e47 : qa.tmps[47]? = some (.pointer (some ⟨rb, ro + j, none⟩)) := fis qF.1 rfl rfl
              clear qO qF
              have hcr := (bcell hB _ _ (World.block_lt_of_cell? _ _ cr)).trans cr
              go_simp
              exact hK _ _ (Below.refl _ _) rfl
            refine BOk.cons rfl [] [7] rfl rfl (by kernel_rfl) (by kernel_rfl) (fun qK qa wr hB qO qF hK => ?_) ?_
            · have e7 : qa.tmps[7]? = some (.pointer (some ⟨wj.heap.size, 0, none⟩)) := qO.1.trans rfl
              clear qO qF
              go_simp
              exact hK _ _ (Below.refl _ _) rfl
            refine BOk.cons rfl [7] [] rfl rfl (by kernel_rfl) (by kernel_rfl) (fun qK qa wr hB qO qF hK => ?_) ?_
            · have e49 : qa.tmps[49]? = some (.pointer (some ⟨wj.heap.size, 1, none⟩)) := fis qF.1 rfl rfl
              clear qO qF
              have hf1 := (bcell hB _ _ (World.block_lt_of_cell? _ _ f1)).trans f1
              go_simp
              exact hK _ _ (Below.refl _ _) rfl
            refine BOk.cons rfl [6, 8] [] rfl rfl (by kernel_rfl) (by kernel_rfl) (fun qK qa wr hB qO qF hK => ?_) ?_
            · have e48 : qa.tmps[48]? = some (.int .i64 f.kind) := fis qF.1 rfl rfl
              have e50 : qa.tmps[50]? = some (.int .i64 f.kind) := fis qF.2.1 rfl rfl
              clear qO qF
              go_simp
              exact hK _ _ (Below.refl _ _) (by show (_ : Value) = _; first | rfl | (simp; done))
            exact BOk.nil
          intro vals wr hl hB hR
          match vals, hl with
          | [y42, y43, y44, y45, y46, y47, y48, y49, y50, y51], _ =>
          have r9 : y51 = .bool false := hR 9 _ rfl
          subst r9
          clear hR
          simp only [List.cons_append, List.nil_append, putAll, Act.put, List.setIfInBounds_toArray, List.set_cons_zero, List.set_cons_succ]
          have hbf := hbi.trans ((hbA.trans (hB.mono hbA.size)).mono hbi.size)
          clear ckj cr f1 hB hbA kf
          go_wp2
          go_roundw
          case rel => exact ⟨j + 1, by omega, by go_num, hbf⟩
          case measure => simp [intOf]; omega
        · as_aux_lemma =>
          have hbf := hbe2.trans (hbi.mono hbe2.size)
          go_wp2
          go_roundw
          case rel => exact ⟨k + 1, by omega, by go_num, hbf⟩
          case measure => simp [intOf]; omega
    · as_aux_lemma =>
      have hbW := hb12.trans (hbel.mono hb12.size)
      have H5 := Lib.hid (awake_any wl (HT.out.old hbW))
      go_wp2_with fail
      refine H5.out.mono ?_
      rintro r w5 ⟨rfl, hb6⟩
      have hb7 := HW.out.trans ((hbW.trans (hb6.mono hbW.size)).mono HW.out.size)
      clear H5 hb6
      go_wp2
      go_ret
      exact ⟨rfl, hb7⟩

theorem laid_met (os : Os) : laidMet Tryd.prog Rows.eventKindsRow.laid ((laidWorld os #[.agg #[.slice none 0 0, .slice none 0 0]]).forCall (fun _ _ => 0) ⟨#[], #[.agg #[.slice none 0 0, .slice none 0 0]], []⟩).memory := laidMet_of_run' 8 (by kernel_rfl) (by kernel_rfl)
theorem reads (os : Os) {H : Type} (enc : TypeId × Value → H) : ∃ places, DataW.whole enc Tryd.prog ((laidWorld os #[.agg #[.slice none 0 0, .slice none 0 0]]).forCall (fun _ _ => 0) ⟨#[], #[.agg #[.slice none 0 0, .slice none 0 0]], []⟩).memory Tryd.f4.params.toList Rows.eventKindsSpec.vars false (#[.agg #[.slice none 0 0, .slice none 0 0]] : Array Value).toList 8 = some ([.agg [.nil, .nil]], [], places) := ⟨[], by kernel_rfl⟩
theorem rec0 : (Tryd.f4.params.toList.all fun t => Tryd.prog.readableRec t && decide (t < Tryd.prog.types.size)) = true := by kernel_rfl
set_option maxRecDepth 100000 in
theorem lifted (os : Os) (started : os.Started) (H : Type) (enc : TypeId × Value → H) (F : Stop.Interp) :
    ReturnsInHanded {} Tryd.checked os 4 .any ((OpenSpec.ofChange Rows.eventKindsSpec).preRow enc Tryd.prog Tryd.f4 Rows.eventKindsRow.domain false Rows.eventKindsRow.laid) (((OpenSpec.ofChange Rows.eventKindsSpec).at F).post enc Tryd.prog Tryd.f4 false true false false) := by
  obtain ⟨places, hx⟩ := reads os enc
  refine law_stepC (C := Tryd.checked) (s := Rows.eventKindsSpec) (tb := 4) own started (by kernel_rfl) Tryd.func4
    (witness_row_at (enc := enc) (C := Tryd.checked) false (laidWorld os #[.agg #[.slice none 0 0, .slice none 0 0]]) #[.agg #[.slice none 0 0, .slice none 0 0]] rfl (by kernel_rfl) (by kernel_rfl) (by kernel_rfl)
      (OpenSpec.preRow_of_cond 8 hx (by kernel_rfl) (fun k hk => by cases hk) (by kernel_rfl) (laid_met os))) laidOut ?_ rfl Tryd.underlying4 rfl ?_ ?_
  · intro t ht
    have := List.all_eq_true.1 rec0 t ht
    simp only [Bool.and_eq_true, decide_eq_true_eq] at this
    exact this
  · intro ds hd
    match ds, hd with
    | [d0], _ => exact ⟨rfl, rfl, rfl⟩
  intro W base args ds p hval hA hsz hL hsh
  have htab := tab_of hL
  rw [Tryd.params4] at hA hval hsz
  obtain ⟨v0, vs0, d0, ds0, p0, q0, hargs, rfl, rfl, h0, r0⟩ := trodAll_cons hA
  obtain ⟨rfl, rfl, rfl⟩ := trodAll_nil r0
  obtain rfl : args = #[v0] := by cases args; simp_all
  obtain ⟨s0, rfl, hs0⟩ := open_schema (hval 0 29 v0 rfl rfl) h0 (weights_each (i := 0) hsz rfl rfl)
  exact walk W htab s0 hs0

theorem said : Rows.EventKindsSaid :=
  OpenClaim.holds_of_cond 4 Tryd.f4 rfl rfl rfl rfl rfl rfl rfl ⟨rfl, rfl, rfl, rfl, rfl⟩ rfl rfl rfl rfl rfl (by kernel_rfl) Tryd.func4 (by kernel_rfl)
    (of_decide_eq_true (by kernel_rfl)) (by unfold Func.isWrapper; first | (rw [if_pos (by decide +kernel)]; kernel_rfl) | (rw [if_neg (by decide +kernel)]; exact ⟨rfl, rfl⟩))
    (fun os started H enc _ F => by rw [OpenClaim.pre_eq_preRow]; exact lifted os started H enc F)
theorem noStand : (Tryd.f4.params.toList.all fun t => !(Tryd.prog.wantsStandIn t)) = true := by kernel_rfl
theorem plain (f : FuncId) (fn : Func) (hf : Tryd.pinned.checked.prog.funcNamed "auspice/auspicelaw04.EventKinds" = some f) (hfn : Tryd.pinned.checked.prog.funcs[f]? = some fn) :
    true = Tryd.pinned.checked.prog.looks [] ∧ ∀ (j : Nat) t, fn.params[j]? = some t → Tryd.pinned.checked.prog.wantsStandIn t = false := by
  obtain rfl : f = 4 := Option.some.inj ((show Tryd.prog.funcNamed "auspice/auspicelaw04.EventKinds" = some 4 by kernel_rfl).symm.trans hf) |>.symm
  obtain rfl : fn = Tryd.f4 := (Option.some.inj (Tryd.func4.symm.trans hfn)).symm
  refine ⟨by kernel_rfl, fun j t ht => ?_⟩
  have hm : t ∈ Tryd.f4.params.toList := by rw [Array.mem_toList_iff]; exact Array.mem_of_getElem? ht
  have := List.all_eq_true.1 noStand t hm
  exact (by simpa using this : Tryd.prog.wantsStandIn t = false)
theorem eventKinds_holds : Rows.EventKindsCardSaid :=
  Claim7.holds_tied_plain_at .later [] _ _ _ _ said (fun _ h => by cases h) (by kernel_rfl) (fun _ h => by cases h) eventKinds_row_tie rfl ⟨rfl, rfl⟩ (by kernel_rfl) rfl plain (by kernel_rfl)
#print axioms eventKinds_holds
end Go.Proofs.YtpakcicbojbonaaDoor.eventKinds
