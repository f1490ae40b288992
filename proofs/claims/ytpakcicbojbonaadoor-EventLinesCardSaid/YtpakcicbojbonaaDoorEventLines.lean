/- EventLines holds. No conditions. -/
import Derived.Test.YtpakcicbojbonaaDoorEvtX
import Derived.Test.YtpakcicbojbonaaDoorEvtL
namespace Go.Proofs.YtpakcicbojbonaaDoor.eventLines
open Go.ChangeShapes Go.WideShapes Go.ChangeAt Go.RowKit
open Go.ChangeMaps (open_string shut_string)
set_option linter.unusedSimpArgs false
set_option linter.unusedVariables false

def linesR2 (s' : SchemaV) (e : EventV) (ST : ByteArray) (w w1 : World) : List Spec := [.is (.agg #[.slice s'.ta s'.types.length s'.tc, .slice s'.sa s'.syms.length s'.sc]),
  .is (.agg #[.int .i64 e.type, .int .i64 e.time, .slice e.A e.attrs.length e.c]),
  .st (EvAt e.sig) (EvAt.keep),
  .is (.string ST),
  .is (.string ST)]
def linesR6t (s : SchemaV) (e y : EventV) (w w5 : World) : List Spec := [.is (.bool true),
  .is (.agg #[.slice s.ta s.types.length s.tc, .slice s.sa s.syms.length s.sc]),
  .is (.agg #[.int .i64 e.type, .int .i64 e.time, .slice e.A e.attrs.length e.c]),
  .is (.bool true),
  .is (.bool true),
  .is (.bool true),
  .is (.bool true),
  .is (.bool false),
  .is (.bool false),
  .is (.agg #[.int .i64 y.type, .int .i64 y.time, .slice y.A y.attrs.length y.c]),
  .st (EvAt y.sig) (EvAt.keep),
  .is (.agg #[.int .i64 e.type, .int .i64 e.time, .slice e.A e.attrs.length e.c]),
  .is (.bool true),
  .is (.bool true),
  .is (.bool true),
  .is (.bool true)]
def linesR6f (s : SchemaV) (e y : EventV) (w w5 : World) : List Spec := [.is (.bool false),
  .is (.agg #[.slice s.ta s.types.length s.tc, .slice s.sa s.syms.length s.sc]),
  .is (.agg #[.int .i64 e.type, .int .i64 e.time, .slice e.A e.attrs.length e.c]),
  .is (.bool false),
  .is (.bool true),
  .is (.bool true),
  .is (.bool false),
  .is (.bool true),
  .is (.bool true),
  .is (undef),
  .is (undef),
  .is (undef),
  .is (undef),
  .is (.bool true),
  .is (.bool true),
  .is (.bool true)]
set_option maxRecDepth 100000 in
set_option maxHeartbeats 4000000 in
theorem walk (w : World) (he : Env w) (s : SchemaV) (hs : s.ok w w.heap.size) (e : EventV) (hev : e.ok w w.heap.size) :
    Calls Tryd.prog 7 #[s.val, e.val] w fun r w' => r = .returned (.bool true) ∧ Below w.heap.size w w' := by
  have hW : Below w.heap.size w ((w.alloc (.cells #[.slice s.ta s.types.length s.tc, .slice s.sa s.syms.length s.sc] 29)).alloc (.cells #[.int .i64 e.type, .int .i64 e.time, .slice e.A e.attrs.length e.c] 25)) := ((Below.refl _ _).alloc (Nat.le_refl _) _).alloc (by simp) _
  have k0 := (Bk.new w 29 #[.slice s.ta s.types.length s.tc, .slice s.sa s.syms.length s.sc]).alloc (.cells #[.int .i64 e.type, .int .i64 e.time, .slice e.A e.attrs.length e.c] 25)
  have k1 := Bk.newAt (w := w.alloc (.cells #[.slice s.ta s.types.length s.tc, .slice s.sa s.syms.length s.sc] 29)) (g := w.heap.size + 1) (by simp) 25 #[.int .i64 e.type, .int .i64 e.time, .slice e.A e.attrs.length e.c]
  have HTO := Lib.hid (sTo_any s _ (hs.old hW))
  have HE := Lib.hid he
  have HS0 := Lib.hid (hs.old hW)
  have HE0 := Lib.hid (hev.old hW)
  have hvf := hev.fits
  obtain ⟨vb, hvb⟩ : ∃ vb, validB (s.types.map sig) s.syms e.sig = vb := ⟨_, rfl⟩
  obtain ⟨ST, hST⟩ : ∃ ST, bytes (lineB (s.types.map sig) s.syms e.sig) = ST := ⟨_, rfl⟩
  have hpp : parseP (s.types.map sig) s.syms ST.toList = if vb = true then some e.sig else none := by
    rw [← hST, bytes_list]
    unfold lineB
    rw [hvb]
    cases vb
    · rfl
    · rw [if_pos rfl, if_pos rfl]
      exact parse_line hvb hvf
  have hSZ : ST.size < 4294967281 := by
    rw [← hST, bytes_size]
    unfold lineB
    rw [hvb]
    cases vb
    · rw [if_neg (by decide)]; decide
    · rw [if_pos rfl]
      have := line_short hvb hvf
      omega
  have HRV : Hid (∀ W : World, s.ok W W.heap.size → e.ok W W.heap.size → Calls Tryd.prog 13 #[.agg #[.slice s.ta s.types.length s.tc, .slice s.sa s.syms.length s.sc], .agg #[.int .i64 e.type, .int .i64 e.time, .slice e.A e.attrs.length e.c]] W fun r w' => r = .returned (.bool vb) ∧ Below W.heap.size W w') := Lib.hid fun W h1 h2 => by
    have h := rvalid_any s e W h1 h2
    rw [hvb] at h
    exact h
  have HRL : Hid (∀ W : World, s.ok W W.heap.size → e.ok W W.heap.size → Calls Tryd.prog 21 #[.agg #[.slice s.ta s.types.length s.tc, .slice s.sa s.syms.length s.sc], .agg #[.int .i64 e.type, .int .i64 e.time, .slice e.A e.attrs.length e.c]] W fun r w' => r = .returned (.string ST) ∧ Below W.heap.size W w') := Lib.hid fun W h1 h2 => by
    have h := rline_any s e W h1 h2
    rw [hST] at h
    exact h
  clear hs he hev hvf hvb
  have HST := Lib.hid hST
  have HPP := Lib.hid hpp
  clear hST hpp
  unfold SchemaV.val at HTO
  unfold SchemaV.val EventV.val
  go_enter Tryd.func7, Tryd.ntmps7
  have s0 := k0.cell 0
  have s1 := k0.cell 1
  go_wp2_with fail
  generalize (w.alloc (.cells #[.slice s.ta s.types.length s.tc, .slice s.sa s.syms.length s.sc] 29)).alloc (.cells #[.int .i64 e.type, .int .i64 e.time, .slice e.A e.attrs.length e.c] 25) = W at *
  refine HTO.out.mono ?_
  rintro r w1 ⟨v1, rfl, ⟨s', rfl, hs', hT', hY'⟩, hb1⟩
  have hbe1 := hW.trans (hb1.mono hW.size)
  have k01 := k0.old hb1
  have k11 := k1.old hb1
  have HS1 := Lib.hid (HS0.out.old hb1)
  have HE1 := Lib.hid (HE0.out.old hb1)
  clear HTO hb1 hW k0 k1 HS0 HE0 s0 s1
  have HLI : Hid (∀ (q : EventV) (W : World), q.ok W W.heap.size → q.sig = e.sig → s'.ok W W.heap.size → Tab W → Calls Tryd.prog 20 #[.agg #[.slice s'.ta s'.types.length s'.tc, .slice s'.sa s'.syms.length s'.sc], q.val] W fun r w' => r = .returned (.string ST) ∧ Below W.heap.size W w') := Lib.hid fun q W h1 h2 h3 h4 => by
    have h := line_any s' q W h3 h1 h4
    rw [hT', hY', h2, HST.out] at h
    exact h
  have HPA : Hid (∀ W : World, Env W → s'.ok W W.heap.size → Calls Tryd.prog 22 #[.agg #[.slice s'.ta s'.types.length s'.tc, .slice s'.sa s'.syms.length s'.sc], .string ST] W fun r w' => ∃ y : EventV, r = .returned (.tuple #[y.val, .bool vb]) ∧ y.ok w' w'.heap.size ∧ Below W.heap.size W w' ∧ (vb = true → y.sig = e.sig)) := Lib.hid fun W h1 h2 => by
    have h := parse_any s' ST W h1 h2 hSZ
    unfold ParseIs at h
    rw [hT', hY', HPP.out] at h
    refine h.mono ?_
    rintro r w' ⟨y, h1, h2, h3, h4⟩
    refine ⟨y, ?_, h2, h3, ?_⟩
    · rw [h1]; cases vb <;> rfl
    · rintro rfl; exact h4
  have hbA : Below w1.heap.size w1 (w1.alloc (.cells #[.slice s'.ta s'.types.length s'.tc, .slice s'.sa s'.syms.length s'.sc] 48)) := (Below.refl _ _).alloc (Nat.le_refl _) _
  have k5 := Bk.new w1 48 #[.slice s'.ta s'.types.length s'.tc, .slice s'.sa s'.syms.length s'.sc]
  have HS := Lib.hid (hs'.old hbA)
  have HSR := Lib.hid (HS1.out.old hbA)
  have HEV := Lib.hid (HE1.out.old hbA)
  have hbe2 := hbe1.trans (hbA.mono hbe1.size)
  have k02 := k01.old hbA
  have k12 := k11.old hbA
  clear hs' hT' hY' hbA hbe1 k01 k11 HS1 HE1 HST HPP hSZ
  unfold SchemaV.val
  go_upto_region 2 with fail
  generalize w1.alloc (.cells #[.slice s'.ta s'.types.length s'.tc, .slice s'.sa s'.syms.length s'.sc] 48) = W1 at *
  have HT := Lib.hid (HE.out.old hbe2).tab
  have c0 := k5.cell 0
  have c1 := k5.cell 1
  have e0 := k12.cell 0
  have e1 := k12.cell 1
  have e2 := k12.cell 2
  refine wp_region_b (by kernel_rfl) (fun qk => (linesR2 s' e ST w w1).getD qk .any) (by kernel_rfl) ?_ ?_
  · refine BOk.cons rfl [] [5] rfl rfl (by kernel_rfl) (by kernel_rfl) (fun qK qa wr hB qO qF hK => ?_) ?_
    · have e5 : qa.tmps[5]? = some (.pointer (some ⟨w1.heap.size, 0, none⟩)) := qO.1.trans rfl
      clear qO qF
      have hc0 := (bcell hB _ _ (World.block_lt_of_cell? _ _ c0)).trans c0
      have hc1 := (bcell hB _ _ (World.block_lt_of_cell? _ _ c1)).trans c1
      go_simp
      exact hK _ _ (Below.refl _ _) rfl
    refine BOk.cons rfl [] [3] rfl rfl (by kernel_rfl) (by kernel_rfl) (fun qK qa wr hB qO qF hK => ?_) ?_
    · have e3 : qa.tmps[3]? = some (.pointer (some ⟨w.heap.size + 1, 0, none⟩)) := qO.1.trans rfl
      clear qO qF
      have he0 := (bcell hB _ _ (World.block_lt_of_cell? _ _ e0)).trans e0
      have he1 := (bcell hB _ _ (World.block_lt_of_cell? _ _ e1)).trans e1
      have he2 := (bcell hB _ _ (World.block_lt_of_cell? _ _ e2)).trans e2
      go_simp
      exact hK _ _ (Below.refl _ _) rfl
    refine BOk.cons rfl [1] [] rfl rfl (by kernel_rfl) (by kernel_rfl) (fun qK qa wr hB qO qF hK => ?_) ?_
    · have e12 : qa.tmps[12]? = some (.agg #[.int .i64 e.type, .int .i64 e.time, .slice e.A e.attrs.length e.c]) := fis qF.1 rfl rfl
      clear qO qF
      go_simp
      go_at_call 12
      refine (eTo_any e _ (HEV.out.old hB)).mono ?_
      rintro e9 w9 ⟨v9, rfl, hat, hb9⟩
      exact hK _ _ hb9 hat
    refine BOk.cons rfl [0, 2] [] rfl rfl (by kernel_rfl) (by kernel_rfl) (fun qK qa wr hB qO qF hK => ?_) ?_
    · have e11 : qa.tmps[11]? = some (.agg #[.slice s'.ta s'.types.length s'.tc, .slice s'.sa s'.syms.length s'.sc]) := fis qF.1 rfl rfl
      obtain ⟨u13, e13, r2⟩ := qF.2.1
      obtain ⟨q13, h13, he13, hx13⟩ := (show EvAt _ u13 wr from r2)
      subst h13
      have e13 : qa.tmps[13]? = some q13.val := e13
      clear qO qF
      go_simp
      go_at_call 20
      refine (HLI.out q13 _ he13 hx13 (HS.out.old hB) (HT.out.old hB)).mono ?_
      rintro e9 w9 ⟨rfl, hb9⟩
      exact hK _ _ hb9 rfl
    refine BOk.cons rfl [3] [] rfl rfl (by kernel_rfl) (by kernel_rfl) (fun qK qa wr hB qO qF hK => ?_) ?_
    · have e14 : qa.tmps[14]? = some (.string ST) := fis qF.1 rfl rfl
      clear qO qF
      go_simp
      exact hK _ _ (Below.refl _ _) rfl
    exact BOk.nil
  intro vals wr hl hB hR
  match vals, hl with
  | [z11, z12, z13, z14, z6], _ =>
  have r4 : z6 = .string ST := hR 4 _ rfl
  subst r4
  clear hR
  simp only [List.cons_append, List.nil_append, putAll, Act.put, List.setIfInBounds_toArray, List.set_cons_zero, List.set_cons_succ]
  have hbe3 := hbe2.trans (hB.mono hbe2.size)
  have k03 := k02.old hB
  have k13 := k12.old hB
  have k53 := k5.old hB
  have HS3 := Lib.hid (HS.out.old hB)
  have HSR3 := Lib.hid (HSR.out.old hB)
  have HEV3 := Lib.hid (HEV.out.old hB)
  clear hB hbe2 k02 k12 k5 HS HSR HEV HLI HT c0 c1 e0 e1 e2
  go_wp2_with fail
  refine (awake_any _ (HE.out.old hbe3).tab).mono ?_
  rintro r w3 ⟨rfl, hb3⟩
  have hbe4 := hbe3.trans (hb3.mono hbe3.size)
  have k04 := k03.old hb3
  have k14 := k13.old hb3
  have k54 := k53.old hb3
  have HS4 := Lib.hid (HS3.out.old hb3)
  have HSR4 := Lib.hid (HSR3.out.old hb3)
  have HEV4 := Lib.hid (HEV3.out.old hb3)
  clear hb3 hbe3 k03 k13 k53 HS3 HSR3 HEV3
  have s0 := k04.cell 0
  have s1 := k04.cell 1
  have e0 := k14.cell 0
  have e1 := k14.cell 1
  have e2 := k14.cell 2
  go_wp2_with fail
  refine (HRL.out w3 HSR4.out HEV4.out).mono ?_
  rintro r w4 ⟨rfl, hb4⟩
  have hbe5 := hbe4.trans (hb4.mono hbe4.size)
  have k05 := k04.old hb4
  have k15 := k14.old hb4
  have k55 := k54.old hb4
  have HS5 := Lib.hid (HS4.out.old hb4)
  have HSR5 := Lib.hid (HSR4.out.old hb4)
  have HEV5 := Lib.hid (HEV4.out.old hb4)
  clear hb4 hbe4 k04 k14 k54 HS4 HSR4 HEV4 s0 s1 e0 e1 e2 HRL
  have hss : (ST.toList == ST.toList) = true := beq_self_eq_true _
  have c0 := k55.cell 0
  have c1 := k55.cell 1
  go_wp2_with fail
  clear hss
  refine (HPA.out w4 (HE.out.old hbe5) HS5.out).mono ?_
  rintro r w5 ⟨y, rfl, hy, hb5, hys⟩
  have hbe6 := hbe5.trans (hb5.mono hbe5.size)
  have k06 := k05.old hb5
  have k16 := k15.old hb5
  have HSR6 := Lib.hid (HSR5.out.old hb5)
  have HEV6 := Lib.hid (HEV5.out.old hb5)
  have HYS0 := Lib.hid hys
  clear hb5 hbe5 k05 k15 k55 HS5 HSR5 HEV5 c0 c1 HPA hys
  have hbB : Below w5.heap.size w5 (w5.alloc (.cells #[.int .i64 y.type, .int .i64 y.time, .slice y.A y.attrs.length y.c] 41)) := (Below.refl _ _).alloc (Nat.le_refl _) _
  have ky := Bk.new w5 41 #[.int .i64 y.type, .int .i64 y.time, .slice y.A y.attrs.length y.c]
  have HY := Lib.hid (hy.old hbB)
  have k07 := k06.old hbB
  have k17 := k16.old hbB
  have HSR := Lib.hid (HSR6.out.old hbB)
  have HEV := Lib.hid (HEV6.out.old hbB)
  have hbe7 := hbe6.trans (hbB.mono hbe6.size)
  clear hy hbB k06 k16 HSR6 HEV6 hbe6
  unfold EventV.val
  cases vb
  · go_upto_region 6 with fail
    generalize w5.alloc (.cells #[.int .i64 y.type, .int .i64 y.time, .slice y.A y.attrs.length y.c] 41) = W5 at *
    have s0 := k07.cell 0
    have s1 := k07.cell 1
    have e0 := k17.cell 0
    have e1 := k17.cell 1
    have e2 := k17.cell 2
    refine wp_region_b (by kernel_rfl) (fun qk => (linesR6f s e y w w5).getD qk .any) (by kernel_rfl) ?_ ?_
    · refine BOk.cons rfl [] [8] rfl rfl (by kernel_rfl) (by kernel_rfl) (fun qK qa wr hB qO qF hK => ?_) ?_
      · have e8 : qa.tmps[8]? = some (.bool false) := qO.1.trans rfl
        clear qO qF
        go_simp
        exact hK _ _ (Below.refl _ _) (by first | rfl | (show (_ : Value) = _; simp_all; done))
      refine BOk.cons rfl [] [2] rfl rfl (by kernel_rfl) (by kernel_rfl) (fun qK qa wr hB qO qF hK => ?_) ?_
      · have e2 : qa.tmps[2]? = some (.pointer (some ⟨w.heap.size, 0, none⟩)) := qO.1.trans rfl
        clear qO qF
        have hs0 := (bcell hB _ _ (World.block_lt_of_cell? _ _ s0)).trans s0
        have hs1 := (bcell hB _ _ (World.block_lt_of_cell? _ _ s1)).trans s1
        go_simp
        exact hK _ _ (Below.refl _ _) rfl
      refine BOk.cons rfl [] [3] rfl rfl (by kernel_rfl) (by kernel_rfl) (fun qK qa wr hB qO qF hK => ?_) ?_
      · have e3 : qa.tmps[3]? = some (.pointer (some ⟨w.heap.size + 1, 0, none⟩)) := qO.1.trans rfl
        clear qO qF
        have he0 := (bcell hB _ _ (World.block_lt_of_cell? _ _ e0)).trans e0
        have he1 := (bcell hB _ _ (World.block_lt_of_cell? _ _ e1)).trans e1
        have he2 := (bcell hB _ _ (World.block_lt_of_cell? _ _ e2)).trans e2
        go_simp
        exact hK _ _ (Below.refl _ _) rfl
      refine BOk.cons rfl [1, 2] [] rfl rfl (by kernel_rfl) (by kernel_rfl) (fun qK qa wr hB qO qF hK => ?_) ?_
      · have e31 : qa.tmps[31]? = some (.agg #[.slice s.ta s.types.length s.tc, .slice s.sa s.syms.length s.sc]) := fis qF.1 rfl rfl
        have e32 : qa.tmps[32]? = some (.agg #[.int .i64 e.type, .int .i64 e.time, .slice e.A e.attrs.length e.c]) := fis qF.2.1 rfl rfl
        clear qO qF
        go_simp
        go_at_call 13
        refine (HRV.out _ (HSR.out.old hB) (HEV.out.old hB)).mono ?_
        rintro e9 w9 ⟨rfl, hb9⟩
        exact hK _ _ hb9 rfl
      refine BOk.cons rfl [0, 3] [] rfl rfl (by kernel_rfl) (by kernel_rfl) (fun qK qa wr hB qO qF hK => ?_) ?_
      · have e30 : qa.tmps[30]? = some (.bool false) := fis qF.1 rfl rfl
        have e33 : qa.tmps[33]? = some (.bool false) := fis qF.2.1 rfl rfl
        clear qO qF
        go_simp
        exact hK _ _ (Below.refl _ _) (by show (_ : Value) = _; first | rfl | (simp; done))
      refine BOk.cons rfl [4] [] rfl rfl (by kernel_rfl) (by kernel_rfl) (fun qK qa wr hB qO qF hK => ?_) ?_
      · have e34 : qa.tmps[34]? = some (.bool true) := fis qF.1 rfl rfl
        clear qO qF
        go_simp
        exact hK _ _ (Below.refl _ _) (by first | rfl | (show (_ : Value) = _; simp_all; done))
      refine BOk.yes rfl [] [8] rfl 5 true rfl rfl rfl (by kernel_rfl) (by kernel_rfl) (by kernel_rfl) (fun qK qa wr hB qO qF hK => ?_) ?_
      · have e8 : qa.tmps[8]? = some (.bool false) := qO.1.trans rfl
        clear qO qF
        go_simp
        exact hK _ _ (Below.refl _ _) (by first | rfl | (show (_ : Value) = _; simp_all; done))
      refine BOk.yes rfl [6] [] rfl 5 true rfl rfl rfl (by kernel_rfl) (by kernel_rfl) (by kernel_rfl) (fun qK qa wr hB qO qF hK => ?_) ?_
      · have e36 : qa.tmps[36]? = some (.bool false) := fis qF.1 rfl rfl
        clear qO qF
        go_simp
        exact hK _ _ (Below.refl _ _) rfl
      refine BOk.yes rfl [7] [] rfl 5 true rfl rfl rfl (by kernel_rfl) (by kernel_rfl) (by kernel_rfl) (fun qK qa wr hB qO qF hK => ?_) ?_
      · have e37 : qa.tmps[37]? = some (.bool true) := fis qF.1 rfl rfl
        clear qO qF
        go_simp
        exact hK _ _ (Below.refl _ _) (by first | rfl | (show (_ : Value) = _; simp_all; done))
      refine BOk.no rfl rfl 8 false rfl rfl rfl (by kernel_rfl) (fun _ => rfl) ?_
      refine BOk.no rfl rfl 8 false rfl rfl rfl (by kernel_rfl) (fun _ => rfl) ?_
      refine BOk.no rfl rfl 8 false rfl rfl rfl (by kernel_rfl) (fun _ => rfl) ?_
      refine BOk.no rfl rfl 8 false rfl rfl rfl (by kernel_rfl) (fun _ => rfl) ?_
      refine BOk.yes rfl [8] [] rfl 5 true rfl rfl rfl (by kernel_rfl) (by kernel_rfl) (by kernel_rfl) (fun qK qa wr hB qO qF hK => ?_) ?_
      · have e38 : qa.tmps[38]? = some (.bool true) := fis qF.1 rfl rfl
        clear qO qF
        go_simp
        refine hK _ _ (Below.refl _ _) ?_
        show (_ : Value) = _
        first | rfl | (simp; done) | (simp; omega)
      refine BOk.cons rfl [5, 13] [] rfl rfl (by kernel_rfl) (by kernel_rfl) (fun qK qa wr hB qO qF hK => ?_) ?_
      · have e35 : qa.tmps[35]? = some (.bool true) := fis qF.1 rfl rfl
        have e43 : qa.tmps[43]? = some (.bool true) := fis qF.2.1 rfl rfl
        clear qO qF
        go_simp
        refine hK _ _ (Below.refl _ _) ?_
        show (_ : Value) = _
        first | rfl | (simp; done) | (simp; omega)
      refine BOk.cons rfl [14] [] rfl rfl (by kernel_rfl) (by kernel_rfl) (fun qK qa wr hB qO qF hK => ?_) ?_
      · have e44 : qa.tmps[44]? = some (.bool true) := fis qF.1 rfl rfl
        clear qO qF
        go_simp
        exact hK _ _ (Below.refl _ _) (by first | rfl | (show (_ : Value) = _; simp_all; done))
      exact BOk.nil
    intro vals wr hl hB hR
    match vals, hl with
    | [z30, z31, z32, z33, z34, z35, z36, z37, z38, z39, z40, z41, z42, z43, z44, z4], _ =>
    have r15 : z4 = .bool true := hR 15 _ rfl
    subst r15
    clear hR
    simp only [List.cons_append, List.nil_append, putAll, Act.put, List.setIfInBounds_toArray, List.set_cons_zero, List.set_cons_succ]
    have hfin := hbe7.trans (hB.mono hbe7.size)
    clear hB hbe7 s0 s1 e0 e1 e2 ky k07 k17 HSR HEV HY
    go_wp2
    go_ret
    exact ⟨rfl, hfin⟩
  · have HYS : Hid (y.sig = e.sig) := Lib.hid (HYS0.out rfl)
    go_upto_region 6 with fail
    generalize w5.alloc (.cells #[.int .i64 y.type, .int .i64 y.time, .slice y.A y.attrs.length y.c] 41) = W5 at *
    have s0 := k07.cell 0
    have s1 := k07.cell 1
    have e0 := k17.cell 0
    have e1 := k17.cell 1
    have e2 := k17.cell 2
    have y0 := ky.cell 0
    have y1 := ky.cell 1
    have y2 := ky.cell 2
    refine wp_region_b (by kernel_rfl) (fun qk => (linesR6t s e y w w5).getD qk .any) (by kernel_rfl) ?_ ?_
    · refine BOk.cons rfl [] [8] rfl rfl (by kernel_rfl) (by kernel_rfl) (fun qK qa wr hB qO qF hK => ?_) ?_
      · have e8 : qa.tmps[8]? = some (.bool true) := qO.1.trans rfl
        clear qO qF
        go_simp
        exact hK _ _ (Below.refl _ _) (by first | rfl | (show (_ : Value) = _; simp_all; done))
      refine BOk.cons rfl [] [2] rfl rfl (by kernel_rfl) (by kernel_rfl) (fun qK qa wr hB qO qF hK => ?_) ?_
      · have e2 : qa.tmps[2]? = some (.pointer (some ⟨w.heap.size, 0, none⟩)) := qO.1.trans rfl
        clear qO qF
        have hs0 := (bcell hB _ _ (World.block_lt_of_cell? _ _ s0)).trans s0
        have hs1 := (bcell hB _ _ (World.block_lt_of_cell? _ _ s1)).trans s1
        go_simp
        exact hK _ _ (Below.refl _ _) rfl
      refine BOk.cons rfl [] [3] rfl rfl (by kernel_rfl) (by kernel_rfl) (fun qK qa wr hB qO qF hK => ?_) ?_
      · have e3 : qa.tmps[3]? = some (.pointer (some ⟨w.heap.size + 1, 0, none⟩)) := qO.1.trans rfl
        clear qO qF
        have he0 := (bcell hB _ _ (World.block_lt_of_cell? _ _ e0)).trans e0
        have he1 := (bcell hB _ _ (World.block_lt_of_cell? _ _ e1)).trans e1
        have he2 := (bcell hB _ _ (World.block_lt_of_cell? _ _ e2)).trans e2
        go_simp
        exact hK _ _ (Below.refl _ _) rfl
      refine BOk.cons rfl [1, 2] [] rfl rfl (by kernel_rfl) (by kernel_rfl) (fun qK qa wr hB qO qF hK => ?_) ?_
      · have e31 : qa.tmps[31]? = some (.agg #[.slice s.ta s.types.length s.tc, .slice s.sa s.syms.length s.sc]) := fis qF.1 rfl rfl
        have e32 : qa.tmps[32]? = some (.agg #[.int .i64 e.type, .int .i64 e.time, .slice e.A e.attrs.length e.c]) := fis qF.2.1 rfl rfl
        clear qO qF
        go_simp
        go_at_call 13
        refine (HRV.out _ (HSR.out.old hB) (HEV.out.old hB)).mono ?_
        rintro e9 w9 ⟨rfl, hb9⟩
        exact hK _ _ hb9 rfl
      refine BOk.cons rfl [0, 3] [] rfl rfl (by kernel_rfl) (by kernel_rfl) (fun qK qa wr hB qO qF hK => ?_) ?_
      · have e30 : qa.tmps[30]? = some (.bool true) := fis qF.1 rfl rfl
        have e33 : qa.tmps[33]? = some (.bool true) := fis qF.2.1 rfl rfl
        clear qO qF
        go_simp
        exact hK _ _ (Below.refl _ _) (by show (_ : Value) = _; first | rfl | (simp; done))
      refine BOk.cons rfl [4] [] rfl rfl (by kernel_rfl) (by kernel_rfl) (fun qK qa wr hB qO qF hK => ?_) ?_
      · have e34 : qa.tmps[34]? = some (.bool true) := fis qF.1 rfl rfl
        clear qO qF
        go_simp
        exact hK _ _ (Below.refl _ _) (by first | rfl | (show (_ : Value) = _; simp_all; done))
      refine BOk.yes rfl [] [8] rfl 5 true rfl rfl rfl (by kernel_rfl) (by kernel_rfl) (by kernel_rfl) (fun qK qa wr hB qO qF hK => ?_) ?_
      · have e8 : qa.tmps[8]? = some (.bool true) := qO.1.trans rfl
        clear qO qF
        go_simp
        exact hK _ _ (Below.refl _ _) (by first | rfl | (show (_ : Value) = _; simp_all; done))
      refine BOk.yes rfl [6] [] rfl 5 true rfl rfl rfl (by kernel_rfl) (by kernel_rfl) (by kernel_rfl) (fun qK qa wr hB qO qF hK => ?_) ?_
      · have e36 : qa.tmps[36]? = some (.bool true) := fis qF.1 rfl rfl
        clear qO qF
        go_simp
        exact hK _ _ (Below.refl _ _) rfl
      refine BOk.yes rfl [7] [] rfl 5 true rfl rfl rfl (by kernel_rfl) (by kernel_rfl) (by kernel_rfl) (fun qK qa wr hB qO qF hK => ?_) ?_
      · have e37 : qa.tmps[37]? = some (.bool false) := fis qF.1 rfl rfl
        clear qO qF
        go_simp
        exact hK _ _ (Below.refl _ _) (by first | rfl | (show (_ : Value) = _; simp_all; done))
      refine BOk.yes rfl [] [7] rfl 8 false rfl rfl rfl (by kernel_rfl) (by kernel_rfl) (by kernel_rfl) (fun qK qa wr hB qO qF hK => ?_) ?_
      · have e7 : qa.tmps[7]? = some (.pointer (some ⟨w5.heap.size, 0, none⟩)) := qO.1.trans rfl
        clear qO qF
        have hy0 := (bcell hB _ _ (World.block_lt_of_cell? _ _ y0)).trans y0
        have hy1 := (bcell hB _ _ (World.block_lt_of_cell? _ _ y1)).trans y1
        have hy2 := (bcell hB _ _ (World.block_lt_of_cell? _ _ y2)).trans y2
        go_simp
        exact hK _ _ (Below.refl _ _) rfl
      refine BOk.yes rfl [9] [] rfl 8 false rfl rfl rfl (by kernel_rfl) (by kernel_rfl) (by kernel_rfl) (fun qK qa wr hB qO qF hK => ?_) ?_
      · have e39 : qa.tmps[39]? = some (.agg #[.int .i64 y.type, .int .i64 y.time, .slice y.A y.attrs.length y.c]) := fis qF.1 rfl rfl
        clear qO qF
        go_simp
        go_at_call 24
        refine (eOf_any y _ (HY.out.old hB)).mono ?_
        rintro e9 w9 ⟨v9, rfl, hat, hb9⟩
        exact hK _ _ hb9 hat
      refine BOk.yes rfl [] [3] rfl 8 false rfl rfl rfl (by kernel_rfl) (by kernel_rfl) (by kernel_rfl) (fun qK qa wr hB qO qF hK => ?_) ?_
      · have e3 : qa.tmps[3]? = some (.pointer (some ⟨w.heap.size + 1, 0, none⟩)) := qO.1.trans rfl
        clear qO qF
        have he0 := (bcell hB _ _ (World.block_lt_of_cell? _ _ e0)).trans e0
        have he1 := (bcell hB _ _ (World.block_lt_of_cell? _ _ e1)).trans e1
        have he2 := (bcell hB _ _ (World.block_lt_of_cell? _ _ e2)).trans e2
        go_simp
        exact hK _ _ (Below.refl _ _) rfl
      refine BOk.yes rfl [10, 11] [] rfl 8 false rfl rfl rfl (by kernel_rfl) (by kernel_rfl) (by kernel_rfl) (fun qK qa wr hB qO qF hK => ?_) ?_
      · obtain ⟨u40, e40, r10⟩ := qF.1
        obtain ⟨q40, h40, he40, hx40⟩ := (show EvAt _ u40 wr from r10)
        subst h40
        have e40 : qa.tmps[40]? = some q40.val := e40
        have e41 : qa.tmps[41]? = some (.agg #[.int .i64 e.type, .int .i64 e.time, .slice e.A e.attrs.length e.c]) := fis qF.2.1 rfl rfl
        clear qO qF
        go_simp
        go_at_call 23
        refine (same_any q40 e _ he40 (HEV.out.old hB) (hx40.trans HYS.out)).mono ?_
        rintro e9 w9 ⟨rfl, hb9⟩
        exact hK _ _ hb9 rfl
      refine BOk.yes rfl [8, 12] [] rfl 5 true rfl rfl rfl (by kernel_rfl) (by kernel_rfl) (by kernel_rfl) (fun qK qa wr hB qO qF hK => ?_) ?_
      · have e38 : qa.tmps[38]? = some (.bool false) := fis qF.1 rfl rfl
        have e42 : qa.tmps[42]? = some (.bool true) := fis qF.2.1 rfl rfl
        clear qO qF
        go_simp
        refine hK _ _ (Below.refl _ _) ?_
        show (_ : Value) = _
        first | rfl | (simp; done) | (simp; omega)
      refine BOk.cons rfl [5, 13] [] rfl rfl (by kernel_rfl) (by kernel_rfl) (fun qK qa wr hB qO qF hK => ?_) ?_
      · have e35 : qa.tmps[35]? = some (.bool true) := fis qF.1 rfl rfl
        have e43 : qa.tmps[43]? = some (.bool true) := fis qF.2.1 rfl rfl
        clear qO qF
        go_simp
        refine hK _ _ (Below.refl _ _) ?_
        show (_ : Value) = _
        first | rfl | (simp; done) | (simp; omega)
      refine BOk.cons rfl [14] [] rfl rfl (by kernel_rfl) (by kernel_rfl) (fun qK qa wr hB qO qF hK => ?_) ?_
      · have e44 : qa.tmps[44]? = some (.bool true) := fis qF.1 rfl rfl
        clear qO qF
        go_simp
        exact hK _ _ (Below.refl _ _) (by first | rfl | (show (_ : Value) = _; simp_all; done))
      exact BOk.nil
    intro vals wr hl hB hR
    match vals, hl with
    | [z30, z31, z32, z33, z34, z35, z36, z37, z38, z39, z40, z41, z42, z43, z44, z4], _ =>
    have r15 : z4 = .bool true := hR 15 _ rfl
    subst r15
    clear hR
    simp only [List.cons_append, List.nil_append, putAll, Act.put, List.setIfInBounds_toArray, List.set_cons_zero, List.set_cons_succ]
    have hfin := hbe7.trans (hB.mono hbe7.size)
    clear hB hbe7 s0 s1 e0 e1 e2 y0 y1 y2 ky k07 k17 HSR HEV HY
    go_wp2
    go_ret
    exact ⟨rfl, hfin⟩

theorem laid_met (os : Os) : laidMet Tryd.prog Rows.eventLinesRow.laid ((laidWorld os #[.agg #[.slice none 0 0, .slice none 0 0], .agg #[.int .i64 0, .int .i64 0, .slice none 0 0]]).forCall (fun _ _ => 0) ⟨#[], #[.agg #[.slice none 0 0, .slice none 0 0], .agg #[.int .i64 0, .int .i64 0, .slice none 0 0]], []⟩).memory := laidMet_of_run' 8 (by kernel_rfl) (by kernel_rfl)
theorem reads (os : Os) {H : Type} (enc : TypeId × Value → H) : ∃ places, DataW.whole enc Tryd.prog ((laidWorld os #[.agg #[.slice none 0 0, .slice none 0 0], .agg #[.int .i64 0, .int .i64 0, .slice none 0 0]]).forCall (fun _ _ => 0) ⟨#[], #[.agg #[.slice none 0 0, .slice none 0 0], .agg #[.int .i64 0, .int .i64 0, .slice none 0 0]], []⟩).memory Tryd.f7.params.toList Rows.eventLinesSpec.vars false (#[.agg #[.slice none 0 0, .slice none 0 0], .agg #[.int .i64 0, .int .i64 0, .slice none 0 0]] : Array Value).toList 8 = some ([.agg [.nil, .nil], .agg [.lit (.int .i64 0), .lit (.int .i64 0), .nil]], [], places) := ⟨[], by kernel_rfl⟩
theorem rec0 : (Tryd.f7.params.toList.all fun t => Tryd.prog.readableRec t && decide (t < Tryd.prog.types.size)) = true := by kernel_rfl
set_option maxRecDepth 100000 in
theorem lifted (os : Os) (started : os.Started) (H : Type) (enc : TypeId × Value → H) (F : Stop.Interp) :
    ReturnsInHanded {} Tryd.checked os 7 .any ((OpenSpec.ofChange Rows.eventLinesSpec).preRow enc Tryd.prog Tryd.f7 Rows.eventLinesRow.domain false Rows.eventLinesRow.laid) (((OpenSpec.ofChange Rows.eventLinesSpec).at F).post enc Tryd.prog Tryd.f7 false true false false) := by
  obtain ⟨places, hx⟩ := reads os enc
  refine law_stepC (C := Tryd.checked) (s := Rows.eventLinesSpec) (tb := 4) own started (by kernel_rfl) Tryd.func7
    (witness_row_at (enc := enc) (C := Tryd.checked) false (laidWorld os #[.agg #[.slice none 0 0, .slice none 0 0], .agg #[.int .i64 0, .int .i64 0, .slice none 0 0]]) #[.agg #[.slice none 0 0, .slice none 0 0], .agg #[.int .i64 0, .int .i64 0, .slice none 0 0]] rfl (by kernel_rfl) (by kernel_rfl) (by kernel_rfl)
      (OpenSpec.preRow_of_cond 8 hx (by kernel_rfl) (fun k hk => by cases hk) (by kernel_rfl) (laid_met os))) laidOut ?_ rfl Tryd.underlying4 rfl ?_ ?_
  · intro t ht
    have := List.all_eq_true.1 rec0 t ht
    simp only [Bool.and_eq_true, decide_eq_true_eq] at this
    exact this
  · intro ds hd
    match ds, hd with
    | [d0, d1], _ => exact ⟨rfl, rfl, rfl⟩
  intro W base args ds p hval hA hsz hL hsh
  have htab := env_of hL hsh
  rw [Tryd.params7] at hA hval hsz
  obtain ⟨v0, vs0, d0, ds0, p0, q0, hargs, rfl, rfl, h0, r0⟩ := trodAll_cons hA
  obtain ⟨v1, vs1, d1, ds1, p1, q1, rfl, rfl, rfl, h1, r1⟩ := trodAll_cons r0
  obtain ⟨rfl, rfl, rfl⟩ := trodAll_nil r1
  obtain rfl : args = #[v0, v1] := by cases args; simp_all
  obtain ⟨s0, rfl, hs0⟩ := open_schema (hval 0 29 v0 rfl rfl) h0 (weights_each (i := 0) hsz rfl rfl)
  obtain ⟨e1, rfl, he1⟩ := open_event (hval 1 25 v1 rfl rfl) h1 (weights_each (i := 1) hsz rfl rfl)
  exact walk W htab s0 hs0 e1 he1

theorem said : Rows.EventLinesSaid :=
  OpenClaim.holds_of_cond 7 Tryd.f7 rfl rfl rfl rfl rfl rfl rfl ⟨rfl, rfl, rfl, rfl, rfl⟩ rfl rfl rfl rfl rfl (by kernel_rfl) Tryd.func7 (by kernel_rfl)
    (of_decide_eq_true (by kernel_rfl)) (by unfold Func.isWrapper; first | (rw [if_pos (by decide +kernel)]; kernel_rfl) | (rw [if_neg (by decide +kernel)]; exact ⟨rfl, rfl⟩))
    (fun os started H enc _ F => by rw [OpenClaim.pre_eq_preRow]; exact lifted os started H enc F)
theorem noStand : (Tryd.f7.params.toList.all fun t => !(Tryd.prog.wantsStandIn t)) = true := by kernel_rfl
theorem plain (f : FuncId) (fn : Func) (hf : Tryd.pinned.checked.prog.funcNamed "auspice/auspicelaw04.EventLines" = some f) (hfn : Tryd.pinned.checked.prog.funcs[f]? = some fn) :
    true = Tryd.pinned.checked.prog.looks [] ∧ ∀ (j : Nat) t, fn.params[j]? = some t → Tryd.pinned.checked.prog.wantsStandIn t = false := by
  obtain rfl : f = 7 := Option.some.inj ((show Tryd.prog.funcNamed "auspice/auspicelaw04.EventLines" = some 7 by kernel_rfl).symm.trans hf) |>.symm
  obtain rfl : fn = Tryd.f7 := (Option.some.inj (Tryd.func7.symm.trans hfn)).symm
  refine ⟨by kernel_rfl, fun j t ht => ?_⟩
  have hm : t ∈ Tryd.f7.params.toList := by rw [Array.mem_toList_iff]; exact Array.mem_of_getElem? ht
  have := List.all_eq_true.1 noStand t hm
  exact (by simpa using this : Tryd.prog.wantsStandIn t = false)
theorem eventLines_holds : Rows.EventLinesCardSaid :=
  Claim7.holds_tied_plain_at .later [] _ _ _ _ said (fun _ h => by cases h) (by kernel_rfl) (fun _ h => by cases h) eventLines_row_tie rfl ⟨rfl, rfl⟩ (by kernel_rfl) rfl plain (by kernel_rfl)
#print axioms eventLines_holds
end Go.Proofs.YtpakcicbojbonaaDoor.eventLines
