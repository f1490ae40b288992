/- Layer 4: the line of any event, by the document. No conditions. -/
import Derived.Test.YtpakcicbojbonaaGreatDoorEvtQ
import Derived.Test.YtpakcicbojbonaaGreatDoorEvtF
namespace Go.Proofs.YtpakcicbojbonaaGreatDoor
open Go.RowKit
set_option maxRecDepth 10000
set_option linter.unusedVariables false
set_option linter.unusedSimpArgs false

theorem cat2 (a b : List UInt8) : bytes a ++ bytes b = bytes (a ++ b) := by rw [cat_bytes, bytes_list, bytes_list]
theorem bytes_of (s : ByteArray) : s = bytes s.toList := by rw [ByteArray.toList_eq]; exact of_bytes s
theorem flat_take (f : V → List UInt8) (l : List V) (k : Nat) : ((l.take k).flatMap f).length ≤ (l.flatMap f).length := by
  have h := congrArg List.length (congrArg (List.flatMap f) (List.take_append_drop k l))
  rw [List.flatMap_append, List.length_append] at h
  omega
def rlnR3 (s : SchemaV) (tb tO tn : Nat) (nm : ByteArray) (etm : Int) (w : World) : List Spec := [.is (.pointer (some ⟨w.heap.size, 0, none⟩)),
  .is (.slice (some ⟨tb, tO, none⟩) s.types.length s.tc),
  .is (.pointer (some ⟨w.heap.size + 1, 0, none⟩)),
  .is (.int .i64 (tn : Nat)),
  .is (.pointer (some ⟨tb, tO + tn * 2, none⟩)),
  .is (.pointer (some ⟨tb, tO + tn * 2, none⟩)),
  .is (.string nm),
  .is (.string (nm ++ ⟨#[32]⟩)),
  .is (.pointer (some ⟨w.heap.size + 1, 1, none⟩)),
  .is (.int .i64 etm),
  .is (.string (bytes (Lib.itoa etm))),
  .is (.string (nm ++ ⟨#[32]⟩ ++ bytes (Lib.itoa etm))),
  .is (.string (nm ++ ⟨#[32]⟩ ++ bytes (Lib.itoa etm)))]
set_option maxRecDepth 100000 in
set_option maxHeartbeats 4000000 in
theorem rline_yes (s : SchemaV) (e : EventV) (tn : Nat) (w : World) (hs : s.ok w w.heap.size) (he : e.ok w w.heap.size) (hv : validB (s.types.map sig) s.syms e.sig = true) (hty : e.type = tn) (htn : tn < s.types.length) :
    Calls Tryz.prog 21 #[s.val, e.val] w fun r w' => r = .returned (.string (bytes (lineF (textV s.syms) s.types[tn].name.toList e.time e.attrs))) ∧ Below w.heap.size w w' := by
  have hVE := valid_e hv
  have hRS := right_of hVE.check
  have hnm : nameAt (s.types.map sig) e.sig.1 = s.types[tn].name.toList := by
    unfold nameAt
    show ((s.types.map sig).getD e.type.toNat (⟨#[]⟩, [])).1.toList = _
    rw [hty, Int.toNat_natCast, List.getD_eq_getElem?_getD, List.getElem?_map, List.getElem?_eq_getElem htn]; rfl
  have hls : (lineF (textV s.syms) s.types[tn].name.toList e.time e.attrs).length ≤ 300 := by
    have h := line_short hv he.fits
    unfold lineV at h
    rw [hnm] at h
    exact h
  have hat : ∀ v ∈ e.attrs, v.fits ∧ ∃ k, (1 ≤ k ∧ k ≤ 4) ∧ attrOk s.syms.length k v = true := fun v hvm => by
    obtain ⟨k, hk, ha⟩ := attrs_mem hVE.attrs v hvm
    exact ⟨he.fits v hvm, k, hRS.kinds _ k hk, ha⟩
  have hW : Below w.heap.size w ((w.alloc (.cells #[.slice s.ta s.types.length s.tc, .slice s.sa s.syms.length s.sc] 25)).alloc (.cells #[.int .i64 e.type, .int .i64 e.time, .slice e.A e.attrs.length e.c] 37)) := ((Below.refl _ _).alloc (Nat.le_refl _) _).alloc (by simp) _
  have x0 := (Bk.new w 25 #[.slice s.ta s.types.length s.tc, .slice s.sa s.syms.length s.sc]).alloc (.cells #[.int .i64 e.type, .int .i64 e.time, .slice e.A e.attrs.length e.c] 37)
  have x1 := Bk.newAt (w := w.alloc (.cells #[.slice s.ta s.types.length s.tc, .slice s.sa s.syms.length s.sc] 25)) (g := w.heap.size + 1) (by simp) 37 #[.int .i64 e.type, .int .i64 e.time, .slice e.A e.attrs.length e.c]
  have HV := Lib.hid (rvalid_any s e _ (hs.old hW) (he.old hW))
  rw [hv] at HV
  have HS := Lib.hid hs
  have HE := Lib.hid he
  have HAT := Lib.hid hat
  have HY : Hid (badB (s.syms.map (·.toList)) = false) := Lib.hid hRS.syms
  clear hs he hat hv hVE hRS hnm
  obtain ⟨ety, etm, eA, ec, eat⟩ := e
  obtain rfl : ety = tn := hty
  obtain ⟨T, hT⟩ : ∃ T, s.types[tn] = T := ⟨_, rfl⟩
  rw [hT] at hls ⊢
  obtain ⟨nm, fa, fc, flds⟩ := T
  have HTT := Lib.hid hT
  clear hT
  show Calls _ _ _ _ fun r w' => r = .returned (.string (bytes (lineF (textV s.syms) nm.toList etm eat))) ∧ _
  have HL : Hid ((lineF (textV s.syms) nm.toList etm eat).length ≤ 300) := Lib.hid hls
  obtain ⟨RES, hres⟩ : ∃ RES, lineF (textV s.syms) nm.toList etm eat = RES := ⟨_, rfl⟩
  rw [hres]
  have HRES := Lib.hid hres
  clear hls hres
  unfold SchemaV.val EventV.val
  unfold SchemaV.val EventV.val at HV
  have s0 := x0.cell 0
  have s1 := x0.cell 1
  have e0 := x1.cell 0
  have e1 := x1.cell 1
  have e2 := x1.cell 2
  go_enter Tryz.func21, Tryz.ntmps21
  go_wp2_with fail
  refine HV.out.mono ?_
  rintro r w2 ⟨rfl, hb2⟩
  have hb3 := hW.trans (hb2.mono hW.size)
  have y0 := x0.old hb2
  have y1 := x1.old hb2
  clear x0 x1 HV hb2 hW s0 s1 e0 e1 e2
  obtain ⟨tb, tO, hta, htb, htc⟩ := (HS.out.rd.below hb3).elem (n := 2) (fun _ => rfl) (by omega) htn
  rw [HTT.out] at htc
  have tc0 : w2.cell? ⟨tb, tO + tn * 2, none⟩ = some (.string nm) := htc 0 _ rfl
  have htl := HS.out.len
  have s0 := y0.cell 0
  have e0 := y1.cell 0
  have e1 := y1.cell 1
  rw [hta] at s0
  have HTA := Lib.hid hta
  clear hta htc
  have htI : (tn : Int) < (s.types.length : Int) := by omega
  have htm : -9223372036854775808 ≤ etm ∧ etm ≤ 9223372036854775807 := HE.out.time
  have hcat : nm.size + 1 + (bytes (Lib.itoa etm)).size ≤ 300 := by
    have h2 := HL.out
    unfold lineF at h2
    simp only [List.length_append, List.length_cons] at h2
    have h3 : nm.toList.length = nm.size := len_list nm
    rw [bytes_size]; omega
  have hcat1 : ¬ 9223372036854775807 < nm.size + 1 := by omega
  have hcat2 : ¬ 9223372036854775807 < nm.size + 1 + (bytes (Lib.itoa etm)).size := by omega
  go_upto_region 3 with fail
  refine wp_region_b (by kernel_rfl) (fun qk => (rlnR3 s tb tO tn nm etm w).getD qk .any) (by kernel_rfl) ?_ ?_
  · refine BOk.cons rfl [] [2] rfl rfl (by kernel_rfl) (by kernel_rfl) (fun qK qa wr hB qO qF hK => ?_) ?_
    · have e2 : qa.tmps[2]? = some (.pointer (some ⟨w.heap.size, 0, none⟩)) := qO.1.trans rfl
      clear qO qF
      go_simp
      exact hK _ _ (Below.refl _ _) rfl
    refine BOk.cons rfl [0] [] rfl rfl (by kernel_rfl) (by kernel_rfl) (fun qK qa wr hB qO qF hK => ?_) ?_
    · have e12 : qa.tmps[12]? = some (.pointer (some ⟨w.heap.size, 0, none⟩)) := fis qF.1 rfl rfl
      clear qO qF
      have hs0 := (bcell hB _ _ (World.block_lt_of_cell? _ _ s0)).trans s0
      go_simp
      exact hK _ _ (Below.refl _ _) rfl
    refine BOk.cons rfl [] [3] rfl rfl (by kernel_rfl) (by kernel_rfl) (fun qK qa wr hB qO qF hK => ?_) ?_
    · have e3 : qa.tmps[3]? = some (.pointer (some ⟨w.heap.size + 1, 0, none⟩)) := qO.1.trans rfl
      clear qO qF
      go_simp
      exact hK _ _ (Below.refl _ _) rfl
    refine BOk.cons rfl [2] [] rfl rfl (by kernel_rfl) (by kernel_rfl) (fun qK qa wr hB qO qF hK => ?_) ?_
    · have e14 : qa.tmps[14]? = some (.pointer (some ⟨w.heap.size + 1, 0, none⟩)) := fis qF.1 rfl rfl
      clear qO qF
      have he0 := (bcell hB _ _ (World.block_lt_of_cell? _ _ e0)).trans e0
      go_simp
      exact hK _ _ (Below.refl _ _) rfl
    refine BOk.cons rfl [1, 3] [] rfl rfl (by kernel_rfl) (by kernel_rfl) (fun qK qa wr hB qO qF hK => ?_) ?_
    · have e13 : qa.tmps[13]? = some (.slice (some ⟨tb, tO, none⟩) s.types.length s.tc) := fis qF.1 rfl rfl
      have e15 : qa.tmps[15]? = some (.int .i64 (tn : Nat)) := fis qF.2.1 rfl rfl
      clear qO qF
      go_simp
      exact hK _ _ (Below.refl _ _) rfl
    refine BOk.cons rfl [4] [] rfl rfl (by kernel_rfl) (by kernel_rfl) (fun qK qa wr hB qO qF hK => ?_) ?_
    · have e16 : qa.tmps[16]? = some (.pointer (some ⟨tb, tO + tn * 2, none⟩)) := fis qF.1 rfl rfl
      clear qO qF
      go_simp
      exact hK _ _ (Below.refl _ _) rfl
    refine BOk.cons rfl [5] [] rfl rfl (by kernel_rfl) (by kernel_rfl) (fun qK qa wr hB qO qF hK => ?_) ?_
    · have e17 : qa.tmps[17]? = some (.pointer (some ⟨tb, tO + tn * 2, none⟩)) := fis qF.1 rfl rfl
      clear qO qF
      have htc0 := (bcell hB _ _ (World.block_lt_of_cell? _ _ tc0)).trans tc0
      go_simp
      exact hK _ _ (Below.refl _ _) rfl
    refine BOk.cons rfl [6] [] rfl rfl (by kernel_rfl) (by kernel_rfl) (fun qK qa wr hB qO qF hK => ?_) ?_
    · have e18 : qa.tmps[18]? = some (.string nm) := fis qF.1 rfl rfl
      clear qO qF
      go_simp
      exact hK _ _ (Below.refl _ _) (by first | rfl | (show (_ : Value) = _; simp; done))
    refine BOk.cons rfl [] [3] rfl rfl (by kernel_rfl) (by kernel_rfl) (fun qK qa wr hB qO qF hK => ?_) ?_
    · have e3 : qa.tmps[3]? = some (.pointer (some ⟨w.heap.size + 1, 0, none⟩)) := qO.1.trans rfl
      clear qO qF
      go_simp
      exact hK _ _ (Below.refl _ _) rfl
    refine BOk.cons rfl [8] [] rfl rfl (by kernel_rfl) (by kernel_rfl) (fun qK qa wr hB qO qF hK => ?_) ?_
    · have e20 : qa.tmps[20]? = some (.pointer (some ⟨w.heap.size + 1, 1, none⟩)) := fis qF.1 rfl rfl
      clear qO qF
      have he1 := (bcell hB _ _ (World.block_lt_of_cell? _ _ e1)).trans e1
      go_simp
      exact hK _ _ (Below.refl _ _) rfl
    refine BOk.cons rfl [9] [] rfl rfl (by kernel_rfl) (by kernel_rfl) (fun qK qa wr hB qO qF hK => ?_) ?_
    · have e21 : qa.tmps[21]? = some (.int .i64 etm) := fis qF.1 rfl rfl
      clear qO qF
      go_simp
      go_at_call 40
      refine (dec_any etm htm _).mono ?_
      rintro e9 w9 ⟨rfl, hb9⟩
      exact hK _ _ hb9 rfl
    refine BOk.cons rfl [7, 10] [] rfl rfl (by kernel_rfl) (by kernel_rfl) (fun qK qa wr hB qO qF hK => ?_) ?_
    · have e19 : qa.tmps[19]? = some (.string (nm ++ ⟨#[32]⟩)) := fis qF.1 rfl rfl
      have e22 : qa.tmps[22]? = some (.string (bytes (Lib.itoa etm))) := fis qF.2.1 rfl rfl
      clear qO qF
      go_simp
      exact hK _ _ (Below.refl _ _) (by first | rfl | (show (_ : Value) = _; simp; done))
    refine BOk.cons rfl [11] [] rfl rfl (by kernel_rfl) (by kernel_rfl) (fun qK qa wr hB qO qF hK => ?_) ?_
    · have e23 : qa.tmps[23]? = some (.string (nm ++ ⟨#[32]⟩ ++ bytes (Lib.itoa etm))) := fis qF.1 rfl rfl
      clear qO qF
      go_simp
      exact hK _ _ (Below.refl _ _) rfl
    exact BOk.nil
  intro vals wr hl hB hR
  match vals, hl with
  | [y12, y13, y14, y15, y16, y17, y18, y19, y20, y21, y22, y23, y5], _ =>
  have r12 : y5 = .string (nm ++ ⟨#[32]⟩ ++ bytes (Lib.itoa etm)) := hR 12 _ rfl
  subst r12
  clear hR
  simp only [List.cons_append, List.nil_append, putAll, Act.put, List.setIfInBounds_toArray, List.set_cons_zero, List.set_cons_succ]
  clear hcat1 hcat2 hcat
  have hbr := hb3.trans (hB.mono hb3.size)
  have z0 := y0.old hB
  have z1 := y1.old hB
  clear s0 e0 e1 tc0 hB y0 y1
  have hstr : nm ++ ⟨#[32]⟩ ++ bytes (Lib.itoa etm) = bytes (nm.toList ++ 32 :: Lib.itoa etm) := by
    have e1 : (⟨#[32]⟩ : ByteArray) = bytes [32] := rfl
    rw [e1]
    conv => lhs; rw [bytes_of nm]
    rw [cat2, cat2]
    simp
  rw [hstr]
  clear hstr
  obtain ⟨H0, hH0⟩ : ∃ H0, nm.toList ++ 32 :: Lib.itoa etm = H0 := ⟨_, rfl⟩
  rw [hH0]
  have HTL : Hid (H0 ++ (eat.flatMap fun v => 32 :: textV s.syms v) = RES) := Lib.hid (by rw [← hH0, ← HRES.out]; simp [lineF])
  have HLN : Hid (H0.length + (eat.flatMap fun v => 32 :: textV s.syms v).length ≤ 300) := Lib.hid (by
    have h2 := HL.out
    have h3 := congrArg List.length HTL.out
    rw [HRES.out] at h2
    rw [List.length_append] at h3
    omega)
  clear HRES HL hH0
  have hxl : eat.length ≤ 8796093021952 := HE.out.len
  have q2 := z1.cell 2
  go_wp2
  clear q2
  go_loopw [5, 27] (fun x i wr => ∃ (k : Nat) (T : List UInt8), k ≤ eat.length ∧ x = .string (bytes T) ∧ i = .int .i64 k ∧ Below w.heap.size w wr ∧ Bk wr w.heap.size 25 #[.slice s.ta s.types.length s.tc, .slice s.sa s.syms.length s.sc] ∧ Hid (T = H0 ++ ((eat.take k).flatMap fun v => 32 :: textV s.syms v))) (fun _ i _ => eat.length - (intOf i).toNat)
  case atStart => exact ⟨0, H0, Nat.zero_le _, rfl, rfl, hbr, z0, Lib.hid (by simp)⟩
  case round =>
    clear hbr z0 z1
    obtain ⟨k, T, hk, rfl, rfl, hbel, kz, hTk⟩ := hrel
    by_cases hlk : k < eat.length
    · obtain ⟨vb, vo, hea, hvb, hvc⟩ := ((show Rd w w.heap.size eA (eat.flatMap V.cells) from HE.out.rd).below hbel).elem (n := 2) (fun _ => rfl) (by omega) hlk
      obtain ⟨hfit, kk, hkk, hao⟩ := HAT.out eat[k] (List.getElem_mem _)
      have hnx : (eat.take (k + 1)).flatMap (fun v => 32 :: textV s.syms v) = (eat.take k).flatMap (fun v => 32 :: textV s.syms v) ++ 32 :: textV s.syms eat[k] := by rw [List.take_succ_eq_append_getElem hlk, List.flatMap_append]; simp
      have hle := flat_take (fun v => 32 :: textV s.syms v) eat (k + 1)
      have hlen : T.length + (textV s.syms eat[k]).length + 1 ≤ 300 := by
        have h1 := congrArg List.length hnx
        have h2 := congrArg List.length hTk.out
        have h3 := HLN.out
        simp only [List.length_append, List.length_cons] at h1 h2
        omega
      have HN : Hid (T ++ 32 :: textV s.syms eat[k] = H0 ++ ((eat.take (k + 1)).flatMap fun v => 32 :: textV s.syms v)) := Lib.hid (by rw [hnx, ← List.append_assoc, ← hTk.out])
      clear hnx hle hTk
      have hv0 : wr.cell? ⟨vb, vo + k * 2, none⟩ = some (.int .i64 eat[k].k) := hvc 0 _ rfl
      have hv1 : wr.cell? ⟨vb, vo + k * 2 + 1, none⟩ = some (.int .u64 eat[k].b) := hvc 1 _ rfl
      clear hvc
      have HSK := Lib.hid (HS.out.old hbel)
      rw [hea]
      clear hea
      generalize eat[k] = x at *
      obtain ⟨vk, b⟩ := x
      simp only at hv0 hv1
      have hf : b < 18446744073709551616 := hfit
      have hao2 := hao
      simp only [attrOk, cleanB, Bool.and_eq_true, decide_eq_true_eq, Bool.not_eq_true', Bool.and_eq_false_iff, decide_eq_false_iff_not] at hao2
      obtain ⟨rfl, ⟨h1, h2⟩, h3⟩ := hao2
      have hbW : Below wr.heap.size wr (wr.alloc (.cells #[.int .i64 vk, .int .u64 b] 68)) := (Below.refl _ _).alloc (Nat.le_refl _) _
      have hbe2 := hbel.trans (hbW.mono hbel.size)
      have kz2 := kz.old hbW
      have hc : vk = 1 ∨ vk = 2 ∨ vk = 3 ∨ vk = 4 := by omega
      clear hao hfit hkk hbel
      rcases hc with rfl | rfl | rfl | rfl
      · as_aux_lemma =>
        rw [textV1] at HN hlen
        have hrg : -9223372036854775808 ≤ wrap64 b ∧ wrap64 b ≤ 9223372036854775807 := by unfold wrap64; omega
        obtain ⟨z, hz⟩ : ∃ z, wrap64 (b : Int) = z := ⟨_, rfl⟩
        rw [hz] at HN hlen hrg
        have HD := Lib.hid (dec_any z hrg)
        clear h1 h2 h3 hrg
        generalize Lib.itoa z = X at *
        go_wp2_with fail
        refine (HD.out _).mono ?_
        rintro r w5 ⟨rfl, hb5⟩
        have hbe5 := hbe2.trans (hb5.mono hbe2.size)
        have kz5 := kz2.old hb5
        have hc1 : (⟨#[32]⟩ : ByteArray) ++ bytes X = bytes (32 :: X) := by
          have e2 : (⟨#[32]⟩ : ByteArray) = bytes [32] := rfl
          rw [e2, cat2]; rfl
        have hc2 : bytes T ++ bytes (32 :: X) = bytes (T ++ 32 :: X) := cat2 _ _
        have hs1 : ¬ 9223372036854775807 < 1 + (bytes X).size := by rw [bytes_size]; omega
        have hs2 : ¬ 9223372036854775807 < (bytes T).size + (bytes (32 :: X)).size := by rw [bytes_size, bytes_size, List.length_cons]; omega
        clear hb5 hbe2 HD hlen
        go_wp2
        go_roundw
        case rel => exact ⟨k + 1, _, by omega, by first | rfl | trivial, by go_num, hbe5, kz5, HN⟩
        case measure => simp [intOf]; omega
      · as_aux_lemma =>
        have hb : b < 2 := by
          by_cases h : b < 2
          · exact h
          · rw [clean2 b h] at h1
            exact absurd h1 (by decide)
        rw [textV2] at HN hlen
        clear h1 h2 h3
        rcases (show b = 0 ∨ b = 1 by omega) with rfl | rfl
        · rw [if_neg (by decide)] at HN hlen
          have hix : (Instr.index 93 (.agg #[.string ⟨#[32, 102, 97, 108, 115, 101]⟩, .string ⟨#[32, 116, 114, 117, 101]⟩]) (.int .u64 0)).run Tryz.prog (wr.alloc (.cells #[.int .i64 2, .int .u64 0] 68)) = .ok (.string ⟨#[32, 102, 97, 108, 115, 101]⟩) (wr.alloc (.cells #[.int .i64 2, .int .u64 0] 68)) := by kernel_rfl
          have hc2 : bytes T ++ ⟨#[32, 102, 97, 108, 115, 101]⟩ = bytes (T ++ 32 :: tFalse) := cat2 _ _
          have hs2 : ¬ 9223372036854775807 < (bytes T).size + 6 := by rw [bytes_size]; omega
          clear hlen
          go_wp2
          go_roundw
          case rel => exact ⟨k + 1, _, by omega, by first | rfl | trivial, by go_num, hbe2, kz2, HN⟩
          case measure => simp [intOf]; omega
        · rw [if_pos rfl] at HN hlen
          have hix : (Instr.index 93 (.agg #[.string ⟨#[32, 102, 97, 108, 115, 101]⟩, .string ⟨#[32, 116, 114, 117, 101]⟩]) (.int .u64 1)).run Tryz.prog (wr.alloc (.cells #[.int .i64 2, .int .u64 1] 68)) = .ok (.string ⟨#[32, 116, 114, 117, 101]⟩) (wr.alloc (.cells #[.int .i64 2, .int .u64 1] 68)) := by kernel_rfl
          have hc2 : bytes T ++ ⟨#[32, 116, 114, 117, 101]⟩ = bytes (T ++ 32 :: tTrue) := cat2 _ _
          have hs2 : ¬ 9223372036854775807 < (bytes T).size + 5 := by rw [bytes_size]; omega
          clear hlen
          go_wp2
          go_roundw
          case rel => exact ⟨k + 1, _, by omega, by first | rfl | trivial, by go_num, hbe2, kz2, HN⟩
          case measure => simp [intOf]; omega
      · as_aux_lemma =>
        have hb : b < s.syms.length := by
          rcases h3 with h | h
          · exact absurd rfl h
          · omega
        obtain ⟨yb, yo, hA, hyb, hyc⟩ := HSK.out.syms.elem1 hb
        have hye : (s.syms.getD b ⟨#[]⟩) = s.syms[b] := by rw [List.getD_eq_getElem?_getD, List.getElem?_eq_getElem hb]; rfl
        rw [textV3, hye] at HN hlen
        have hyc2 := (bcell hbW _ _ (World.block_lt_of_cell? _ _ hyc)).trans hyc
        have hbI : (b : Int) < (s.syms.length : Int) := by omega
        have hsl := HSK.out.slen
        have s1 := kz2.cell 1
        rw [hA] at s1
        have hyl : s.syms[b].size = s.syms[b].toList.length := (len_list _).symm
        have hc1 : (⟨#[32, 39]⟩ : ByteArray) ++ s.syms[b] = bytes (32 :: 39 :: s.syms[b].toList) := by
          conv => lhs; rw [bytes_of s.syms[b]]
          exact cat2 [32, 39] _
        have hc2 : bytes T ++ bytes (32 :: 39 :: s.syms[b].toList) = bytes (T ++ 32 :: 39 :: s.syms[b].toList) := cat2 _ _
        have hs1 : ¬ 9223372036854775807 < 2 + s.syms[b].size := by rw [hyl]; simp only [List.length_cons] at hlen; omega
        have hs2 : ¬ 9223372036854775807 < (bytes T).size + (bytes (32 :: 39 :: s.syms[b].toList)).size := by rw [bytes_size, bytes_size]; simp only [List.length_cons] at hlen ⊢; omega
        have KZ := Lib.hid kz2
        clear h1 h2 h3 hA hye hyl hyc kz2 kz
        generalize s.syms[b] = y at *
        go_wp2
        go_roundw
        case rel => exact ⟨k + 1, _, by omega, by first | rfl | trivial, by go_num, hbe2, KZ.out, HN⟩
        case measure => simp [intOf]; omega
      · as_aux_lemma =>
        rw [textV4] at HN hlen
        have HD := Lib.hid (rtext_any b hf)
        clear h1 h2 h3
        generalize realL b = X at *
        go_wp2_with fail
        refine (HD.out _).mono ?_
        rintro r w5 ⟨rfl, hb5⟩
        have hbe5 := hbe2.trans (hb5.mono hbe2.size)
        have kz5 := kz2.old hb5
        have hc1 : (⟨#[32]⟩ : ByteArray) ++ bytes X = bytes (32 :: X) := by
          have e2 : (⟨#[32]⟩ : ByteArray) = bytes [32] := rfl
          rw [e2, cat2]; rfl
        have hc2 : bytes T ++ bytes (32 :: X) = bytes (T ++ 32 :: X) := cat2 _ _
        have hs1 : ¬ 9223372036854775807 < 1 + (bytes X).size := by rw [bytes_size]; omega
        have hs2 : ¬ 9223372036854775807 < (bytes T).size + (bytes (32 :: X)).size := by rw [bytes_size, bytes_size, List.length_cons]; omega
        clear hb5 hbe2 HD hlen
        go_wp2
        go_roundw
        case rel => exact ⟨k + 1, _, by omega, by first | rfl | trivial, by go_num, hbe5, kz5, HN⟩
        case measure => simp [intOf]; omega
    · as_aux_lemma =>
      obtain rfl : k = eat.length := by omega
      rw [List.take_length] at hTk
      have hTT : T = RES := hTk.out.trans HTL.out
      clear hTk
      subst hTT
      go_wp2
      go_ret
      exact ⟨rfl, hbel⟩
theorem rline_no (s : SchemaV) (e : EventV) (w : World) (hs : s.ok w w.heap.size) (he : e.ok w w.heap.size) (hv : validB (s.types.map sig) s.syms e.sig = false) :
    Calls Tryz.prog 21 #[s.val, e.val] w fun r w' => r = .returned (.string (bytes [])) ∧ Below w.heap.size w w' := by
  have hW : Below w.heap.size w ((w.alloc (.cells #[.slice s.ta s.types.length s.tc, .slice s.sa s.syms.length s.sc] 25)).alloc (.cells #[.int .i64 e.type, .int .i64 e.time, .slice e.A e.attrs.length e.c] 37)) := ((Below.refl _ _).alloc (Nat.le_refl _) _).alloc (by simp) _
  have x0 := (Bk.new w 25 #[.slice s.ta s.types.length s.tc, .slice s.sa s.syms.length s.sc]).alloc (.cells #[.int .i64 e.type, .int .i64 e.time, .slice e.A e.attrs.length e.c] 37)
  have x1 := Bk.newAt (w := w.alloc (.cells #[.slice s.ta s.types.length s.tc, .slice s.sa s.syms.length s.sc] 25)) (g := w.heap.size + 1) (by simp) 37 #[.int .i64 e.type, .int .i64 e.time, .slice e.A e.attrs.length e.c]
  have HV := Lib.hid (rvalid_any s e _ (hs.old hW) (he.old hW))
  rw [hv] at HV
  clear hs he hv
  unfold SchemaV.val EventV.val at *
  have s0 := x0.cell 0
  have s1 := x0.cell 1
  have e0 := x1.cell 0
  have e1 := x1.cell 1
  have e2 := x1.cell 2
  go_enter Tryz.func21, Tryz.ntmps21
  go_wp2_with fail
  refine HV.out.mono ?_
  rintro r w2 ⟨rfl, hb2⟩
  have hb3 := hW.trans (hb2.mono hW.size)
  clear x0 x1 HV hb2 hW s0 s1 e0 e1 e2
  go_wp2
  go_ret
  exact ⟨rfl, hb3⟩
theorem rline_any (s : SchemaV) (e : EventV) (w : World) (hs : s.ok w w.heap.size) (he : e.ok w w.heap.size) :
    Calls Tryz.prog 21 #[s.val, e.val] w fun r w' => r = .returned (.string (bytes (lineB (s.types.map sig) s.syms e.sig))) ∧ Below w.heap.size w w' := by
  unfold lineB
  by_cases hv : validB (s.types.map sig) s.syms e.sig = true
  · rw [if_pos hv]
    have h := valid_e hv
    obtain ⟨t, htt⟩ : ∃ t : Nat, e.type = t := ⟨e.type.toNat, by have := h.type; simp only [EventV.sig] at this; omega⟩
    have htl : t < s.types.length := by have := h.type; simp only [EventV.sig, List.length_map] at this; omega
    have hnm : nameAt (s.types.map sig) e.sig.1 = s.types[t].name.toList := by
      unfold nameAt
      show ((s.types.map sig).getD e.type.toNat (⟨#[]⟩, [])).1.toList = _
      rw [htt, Int.toNat_natCast, List.getD_eq_getElem?_getD, List.getElem?_map, List.getElem?_eq_getElem htl]; rfl
    unfold lineV
    rw [hnm]
    exact rline_yes s e t w hs he hv htt htl
  · rw [if_neg hv]
    exact rline_no s e w hs he (by simpa using hv)
end Go.Proofs.YtpakcicbojbonaaGreatDoor
