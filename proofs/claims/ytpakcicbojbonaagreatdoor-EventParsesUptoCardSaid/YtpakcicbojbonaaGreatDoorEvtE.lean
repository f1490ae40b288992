/- Layer 4: which events are valid, by the program and by the document. No conditions. -/
import Derived.Test.YtpakcicbojbonaaGreatDoorEvtD
namespace Go.Proofs.YtpakcicbojbonaaGreatDoor
open Go.RowKit
set_option linter.unusedVariables false
set_option linter.unusedSimpArgs false

/-- Kinds that can be read. -/
def KindsAt (K : List (List Int)) (v : Value) (w : World) : Prop := ∃ (A : Option Addr) (c : Nat) (rows : List RowV), v = .slice A rows.length c ∧ rows.map (·.l) = K ∧ Rd w w.heap.size A (rows.flatMap RowV.cells) ∧ ∀ r ∈ rows, r.ok w w.heap.size
theorem KindsAt.keep {K : List (List Int)} (v : Value) (w w' : World) (hb : Below w.heap.size w w') (h : KindsAt K v w) : KindsAt K v w' := by
  obtain ⟨A, c, rows, h1, h2, h3, h4⟩ := h
  exact ⟨A, c, rows, h1, h2, (h3.below hb).more hb.size, fun r hr => (h4 r hr).old hb⟩
theorem KindsAt.of {K : List (List Int)} {w w' : World} {r : Ending} (h : KindsOk K w r w') (hk : ∀ l ∈ K, l.length ≤ 17592186043904) : ∃ v, r = .returned v ∧ KindsAt K v w' ∧ Below w.heap.size w w' := by
  obtain ⟨A, c, rows, h1, h2, h3, h4, h5⟩ := h
  obtain ⟨h6, h7, h8⟩ := kinds_ok h2 h3 h4 hk
  exact ⟨_, h1, ⟨A, c, rows, by rw [h6], h2, h7, h8⟩, h5⟩
theorem kinds_small (s : SchemaV) (w : World) (h : s.ok w w.heap.size) : ∀ l ∈ kindsOf (s.types.map sig), l.length ≤ 17592186043904 := by
  intro l hl
  rw [kindsOf_types] at hl
  obtain ⟨t, ht, rfl⟩ := List.mem_map.1 hl
  have := (h.each t ht).len
  unfold tkinds
  rw [List.length_map]; omega
def valR0 (s : SchemaV) (e : EventV) (w : World) : List Spec := [.is (.agg #[.slice s.ta s.types.length s.tc, .slice s.sa s.syms.length s.sc]),
  .is (.int .i64 (checkSig (s.types.map sig) s.syms)),
  .is (.bool (checkSig (s.types.map sig) s.syms == 0)),
  .is (.bool false),
  .is (undef),
  .is (undef),
  .is (undef),
  .is (undef),
  .is (undef),
  .is (undef),
  .is (undef),
  .is (.bool false),
  .is (.bool false)]
def valR1 (s : SchemaV) (e : EventV) (w : World) : List Spec := [.is (.agg #[.slice s.ta s.types.length s.tc, .slice s.sa s.syms.length s.sc]),
  .is (.int .i64 (checkSig (s.types.map sig) s.syms)),
  .is (.bool (checkSig (s.types.map sig) s.syms == 0)),
  .is (.bool true),
  .is (.agg #[.slice s.ta s.types.length s.tc, .slice s.sa s.syms.length s.sc]),
  .st (KindsAt (kindsOf (s.types.map sig))) (KindsAt.keep),
  .is (.pointer (some ⟨w.heap.size, 1, none⟩)),
  .is (.slice s.sa s.syms.length s.sc),
  .is (.int .i64 (s.syms.length : Nat)),
  .is (.agg #[.int .i64 e.type, .int .i64 e.time, .slice e.A e.attrs.length e.c]),
  .is (.bool (fitsB (kindsOf (s.types.map sig)) s.syms.length e.sig)),
  .is (.bool (fitsB (kindsOf (s.types.map sig)) s.syms.length e.sig)),
  .is (.bool (fitsB (kindsOf (s.types.map sig)) s.syms.length e.sig))]
set_option maxRecDepth 100000 in
set_option maxHeartbeats 1000000 in
theorem pvalid_any (s : SchemaV) (e : EventV) (w : World) (hs : s.ok w w.heap.size) (he : e.ok w w.heap.size) :
    Calls Tryz.prog 15 #[s.val, e.val] w fun r w' => r = .returned (.bool (validB (s.types.map sig) s.syms e.sig)) ∧ Below w.heap.size w w' := by
  have HS := Lib.hid hs
  have HE := Lib.hid he
  have HK := Lib.hid (kinds_small s w hs)
  clear hs he
  cases hc : (checkSig (s.types.map sig) s.syms == 0)
  all_goals
    have HC := Lib.hid hc
    have hres := valid_fits (s.types.map sig) s.syms e.sig
    rw [show decide (checkSig (s.types.map sig) s.syms = 0) = (checkSig (s.types.map sig) s.syms == 0) from by by_cases h : checkSig (s.types.map sig) s.syms = 0 <;> simp [h], hc] at hres
    clear hc
    have HRS := Lib.hid hres
    clear hres
    generalize validB (s.types.map sig) s.syms e.sig = RES at *
    unfold SchemaV.val EventV.val
    go_enter Tryz.func15, Tryz.ntmps15
    go_upto_region 1 with fail
    have x0 := (Bk.new w 33 #[.slice s.ta s.types.length s.tc, .slice s.sa s.syms.length s.sc]).alloc (.cells #[.int .i64 e.type, .int .i64 e.time, .slice e.A e.attrs.length e.c] 28)
    have x1 := Bk.newAt (w := w.alloc (.cells #[.slice s.ta s.types.length s.tc, .slice s.sa s.syms.length s.sc] 33)) (g := w.heap.size + 1) (by simp) 28 #[.int .i64 e.type, .int .i64 e.time, .slice e.A e.attrs.length e.c]
    have hbW : Below w.heap.size w ((w.alloc (.cells #[.slice s.ta s.types.length s.tc, .slice s.sa s.syms.length s.sc] 33)).alloc (.cells #[.int .i64 e.type, .int .i64 e.time, .slice e.A e.attrs.length e.c] 28)) := ((Below.refl _ _).alloc (Nat.le_refl _) _).alloc (by simp) _
    generalize (w.alloc (.cells #[.slice s.ta s.types.length s.tc, .slice s.sa s.syms.length s.sc] 33)).alloc (.cells #[.int .i64 e.type, .int .i64 e.time, .slice e.A e.attrs.length e.c] 28) = W at *
    have s0 := x0.cell 0
    have s1 := x0.cell 1
    have e0 := x1.cell 0
    have e1 := x1.cell 1
    have e2 := x1.cell 2
    have HS2 := Lib.hid (HS.out.old hbW)
    have HE2 := Lib.hid (HE.out.old hbW)
    clear x0 x1
  · skip
    refine wp_region_b (by kernel_rfl) (fun qk => (valR0 s e w).getD qk .any) (by kernel_rfl) ?_ ?_
    · refine BOk.cons rfl [] [2] rfl rfl (by kernel_rfl) (by kernel_rfl) (fun qK qa wr hB qO qF hK => ?_) ?_
      · have e2 : qa.tmps[2]? = some (.pointer (some ⟨w.heap.size, 0, none⟩)) := qO.1.trans rfl
        clear qO qF
        have hs0 := (bcell hB _ _ (World.block_lt_of_cell? _ _ s0)).trans s0
        have hs1 := (bcell hB _ _ (World.block_lt_of_cell? _ _ s1)).trans s1
        go_simp
        exact hK _ _ (Below.refl _ _) rfl
      refine BOk.cons rfl [0] [] rfl rfl (by kernel_rfl) (by kernel_rfl) (fun qK qa wr hB qO qF hK => ?_) ?_
      · have e5 : qa.tmps[5]? = some (.agg #[.slice s.ta s.types.length s.tc, .slice s.sa s.syms.length s.sc]) := fis qF.1 rfl rfl
        clear qO qF
        go_simp
        go_at_call 12
        refine (pcheck_any s _ (HS2.out.old hB)).mono ?_
        rintro e9 w3 ⟨rfl, hb3⟩
        exact hK _ _ hb3 rfl
      refine BOk.cons rfl [1] [] rfl rfl (by kernel_rfl) (by kernel_rfl) (fun qK qa wr hB qO qF hK => ?_) ?_
      · have e6 : qa.tmps[6]? = some (.int .i64 (checkSig (s.types.map sig) s.syms)) := fis qF.1 rfl rfl
        clear qO qF
        go_simp
        exact hK _ _ (Below.refl _ _) (by show (_ : Value) = _; first | rfl | (simp; done))
      refine BOk.cons rfl [2] [] rfl rfl (by kernel_rfl) (by kernel_rfl) (fun qK qa wr hB qO qF hK => ?_) ?_
      · have e7 : qa.tmps[7]? = some (.bool (checkSig (s.types.map sig) s.syms == 0)) := fis qF.1 rfl rfl
        clear qO qF
        rw [HC.out] at e7
        go_simp
        exact hK _ _ (Below.refl _ _) rfl
      refine BOk.no rfl rfl 3 true rfl rfl rfl (by kernel_rfl) (fun _ => rfl) ?_
      refine BOk.no rfl rfl 3 true rfl rfl rfl (by kernel_rfl) (fun _ => rfl) ?_
      refine BOk.no rfl rfl 3 true rfl rfl rfl (by kernel_rfl) (fun _ => rfl) ?_
      refine BOk.no rfl rfl 3 true rfl rfl rfl (by kernel_rfl) (fun _ => rfl) ?_
      refine BOk.no rfl rfl 3 true rfl rfl rfl (by kernel_rfl) (fun _ => rfl) ?_
      refine BOk.no rfl rfl 3 true rfl rfl rfl (by kernel_rfl) (fun _ => rfl) ?_
      refine BOk.no rfl rfl 3 true rfl rfl rfl (by kernel_rfl) (fun _ => rfl) ?_
      refine BOk.cons rfl [3] [] rfl rfl (by kernel_rfl) (by kernel_rfl) (fun qK qa wr hB qO qF hK => ?_) ?_
      · have e8 : qa.tmps[8]? = some (.bool false) := fis qF.1 rfl rfl
        clear qO qF
        go_simp
        refine hK _ _ (Below.refl _ _) ?_
        show (_ : Value) = _
        first | rfl | (simp; done) | (simp; omega)
      refine BOk.cons rfl [11] [] rfl rfl (by kernel_rfl) (by kernel_rfl) (fun qK qa wr hB qO qF hK => ?_) ?_
      · have e16 : qa.tmps[16]? = some (.bool false) := fis qF.1 rfl rfl
        clear qO qF
        go_simp
        exact hK _ _ (Below.refl _ _) (by first | rfl | (show (_ : Value) = _; simp_all; done))
      exact BOk.nil
    intro vals wr hl hB hR
    match vals, hl with
    | [z5, z6, z7, z8, z9, z10, z11, z12, z13, z14, z15, z16, z4], _ =>
    have r11 : z16 = .bool false := hR 11 _ rfl
    subst r11
    have r12 : z4 = .bool false := hR 12 _ rfl
    subst r12
    clear hR
    simp only [List.cons_append, List.nil_append, putAll, Act.put, List.setIfInBounds_toArray, List.set_cons_zero, List.set_cons_succ]
    have hfin : false = RES := by rw [← HRS.out, Bool.false_and]
    have HFIN := Lib.hid hfin
    clear hfin
    go_wp2
    go_ret
    exact ⟨ret_bool HFIN.out, hbW.trans (hB.mono hbW.size)⟩
  · skip
    refine wp_region_b (by kernel_rfl) (fun qk => (valR1 s e w).getD qk .any) (by kernel_rfl) ?_ ?_
    · refine BOk.cons rfl [] [2] rfl rfl (by kernel_rfl) (by kernel_rfl) (fun qK qa wr hB qO qF hK => ?_) ?_
      · have e2 : qa.tmps[2]? = some (.pointer (some ⟨w.heap.size, 0, none⟩)) := qO.1.trans rfl
        clear qO qF
        have hs0 := (bcell hB _ _ (World.block_lt_of_cell? _ _ s0)).trans s0
        have hs1 := (bcell hB _ _ (World.block_lt_of_cell? _ _ s1)).trans s1
        go_simp
        exact hK _ _ (Below.refl _ _) rfl
      refine BOk.cons rfl [0] [] rfl rfl (by kernel_rfl) (by kernel_rfl) (fun qK qa wr hB qO qF hK => ?_) ?_
      · have e5 : qa.tmps[5]? = some (.agg #[.slice s.ta s.types.length s.tc, .slice s.sa s.syms.length s.sc]) := fis qF.1 rfl rfl
        clear qO qF
        go_simp
        go_at_call 12
        refine (pcheck_any s _ (HS2.out.old hB)).mono ?_
        rintro e9 w3 ⟨rfl, hb3⟩
        exact hK _ _ hb3 rfl
      refine BOk.cons rfl [1] [] rfl rfl (by kernel_rfl) (by kernel_rfl) (fun qK qa wr hB qO qF hK => ?_) ?_
      · have e6 : qa.tmps[6]? = some (.int .i64 (checkSig (s.types.map sig) s.syms)) := fis qF.1 rfl rfl
        clear qO qF
        go_simp
        exact hK _ _ (Below.refl _ _) (by show (_ : Value) = _; first | rfl | (simp; done))
      refine BOk.cons rfl [2] [] rfl rfl (by kernel_rfl) (by kernel_rfl) (fun qK qa wr hB qO qF hK => ?_) ?_
      · have e7 : qa.tmps[7]? = some (.bool (checkSig (s.types.map sig) s.syms == 0)) := fis qF.1 rfl rfl
        clear qO qF
        rw [HC.out] at e7
        go_simp
        exact hK _ _ (Below.refl _ _) rfl
      refine BOk.yes rfl [] [2] rfl 3 true rfl rfl rfl (by kernel_rfl) (by kernel_rfl) (by kernel_rfl) (fun qK qa wr hB qO qF hK => ?_) ?_
      · have e2 : qa.tmps[2]? = some (.pointer (some ⟨w.heap.size, 0, none⟩)) := qO.1.trans rfl
        clear qO qF
        have hs0 := (bcell hB _ _ (World.block_lt_of_cell? _ _ s0)).trans s0
        have hs1 := (bcell hB _ _ (World.block_lt_of_cell? _ _ s1)).trans s1
        go_simp
        exact hK _ _ (Below.refl _ _) rfl
      refine BOk.yes rfl [4] [] rfl 3 true rfl rfl rfl (by kernel_rfl) (by kernel_rfl) (by kernel_rfl) (fun qK qa wr hB qO qF hK => ?_) ?_
      · have e9 : qa.tmps[9]? = some (.agg #[.slice s.ta s.types.length s.tc, .slice s.sa s.syms.length s.sc]) := fis qF.1 rfl rfl
        clear qO qF
        go_simp
        go_at_call 37
        refine (kinds_any s _ (HS2.out.old hB)).mono ?_
        intro e9 w3 hk3
        obtain ⟨v9, rfl, hat, hb3⟩ := KindsAt.of hk3 HK.out
        exact hK _ _ hb3 hat
      refine BOk.yes rfl [] [2] rfl 3 true rfl rfl rfl (by kernel_rfl) (by kernel_rfl) (by kernel_rfl) (fun qK qa wr hB qO qF hK => ?_) ?_
      · have e2 : qa.tmps[2]? = some (.pointer (some ⟨w.heap.size, 0, none⟩)) := qO.1.trans rfl
        clear qO qF
        go_simp
        exact hK _ _ (Below.refl _ _) rfl
      refine BOk.yes rfl [6] [] rfl 3 true rfl rfl rfl (by kernel_rfl) (by kernel_rfl) (by kernel_rfl) (fun qK qa wr hB qO qF hK => ?_) ?_
      · have e11 : qa.tmps[11]? = some (.pointer (some ⟨w.heap.size, 1, none⟩)) := fis qF.1 rfl rfl
        clear qO qF
        have hs1 := (bcell hB _ _ (World.block_lt_of_cell? _ _ s1)).trans s1
        go_simp
        exact hK _ _ (Below.refl _ _) rfl
      refine BOk.yes rfl [7] [] rfl 3 true rfl rfl rfl (by kernel_rfl) (by kernel_rfl) (by kernel_rfl) (fun qK qa wr hB qO qF hK => ?_) ?_
      · have e12 : qa.tmps[12]? = some (.slice s.sa s.syms.length s.sc) := fis qF.1 rfl rfl
        clear qO qF
        go_simp
        exact hK _ _ (Below.refl _ _) rfl
      refine BOk.yes rfl [] [3] rfl 3 true rfl rfl rfl (by kernel_rfl) (by kernel_rfl) (by kernel_rfl) (fun qK qa wr hB qO qF hK => ?_) ?_
      · have e3 : qa.tmps[3]? = some (.pointer (some ⟨w.heap.size + 1, 0, none⟩)) := qO.1.trans rfl
        clear qO qF
        have he0 := (bcell hB _ _ (World.block_lt_of_cell? _ _ e0)).trans e0
        have he1 := (bcell hB _ _ (World.block_lt_of_cell? _ _ e1)).trans e1
        have he2 := (bcell hB _ _ (World.block_lt_of_cell? _ _ e2)).trans e2
        go_simp
        exact hK _ _ (Below.refl _ _) rfl
      refine BOk.yes rfl [5, 8, 9] [] rfl 3 true rfl rfl rfl (by kernel_rfl) (by kernel_rfl) (by kernel_rfl) (fun qK qa wr hB qO qF hK => ?_) ?_
      · obtain ⟨u10, e10, r5⟩ := qF.1
        obtain ⟨qA, qc, rows, h10, hrows, hrd, hrok⟩ := (show KindsAt (kindsOf (s.types.map sig)) u10 wr from r5)
        subst h10
        have HFT := Lib.hid (pfits_any rows qA qc s.syms.length e wr hrd hrok (HE2.out.old hB))
        unfold EventV.val at HFT
        clear hrd hrok
        have e10 : qa.tmps[10]? = some (.slice qA rows.length qc) := e10
        have e13 : qa.tmps[13]? = some (.int .i64 (s.syms.length : Nat)) := fis qF.2.1 rfl rfl
        have e14 : qa.tmps[14]? = some (.agg #[.int .i64 e.type, .int .i64 e.time, .slice e.A e.attrs.length e.c]) := fis qF.2.2.1 rfl rfl
        clear qO qF
        go_simp
        go_at_call 36
        refine (HFT.out).mono ?_
        rintro e9 w3 ⟨rfl, hb3⟩
        rw [hrows]
        exact hK _ _ hb3 rfl
      refine BOk.cons rfl [3, 10] [] rfl rfl (by kernel_rfl) (by kernel_rfl) (fun qK qa wr hB qO qF hK => ?_) ?_
      · have e8 : qa.tmps[8]? = some (.bool true) := fis qF.1 rfl rfl
        have e15 : qa.tmps[15]? = some (.bool (fitsB (kindsOf (s.types.map sig)) s.syms.length e.sig)) := fis qF.2.1 rfl rfl
        clear qO qF
        go_simp
        refine hK _ _ (Below.refl _ _) ?_
        show (_ : Value) = _
        first | rfl | (simp; done) | (simp; omega)
      refine BOk.cons rfl [11] [] rfl rfl (by kernel_rfl) (by kernel_rfl) (fun qK qa wr hB qO qF hK => ?_) ?_
      · have e16 : qa.tmps[16]? = some (.bool (fitsB (kindsOf (s.types.map sig)) s.syms.length e.sig)) := fis qF.1 rfl rfl
        clear qO qF
        go_simp
        exact hK _ _ (Below.refl _ _) (by first | rfl | (show (_ : Value) = _; simp_all; done))
      exact BOk.nil
    intro vals wr hl hB hR
    match vals, hl with
    | [z5, z6, z7, z8, z9, z10, z11, z12, z13, z14, z15, z16, z4], _ =>
    have r11 : z16 = .bool (fitsB (kindsOf (s.types.map sig)) s.syms.length e.sig) := hR 11 _ rfl
    subst r11
    have r12 : z4 = .bool (fitsB (kindsOf (s.types.map sig)) s.syms.length e.sig) := hR 12 _ rfl
    subst r12
    clear hR
    simp only [List.cons_append, List.nil_append, putAll, Act.put, List.setIfInBounds_toArray, List.set_cons_zero, List.set_cons_succ]
    have hfin : fitsB (kindsOf (s.types.map sig)) s.syms.length e.sig = RES := by rw [← HRS.out, Bool.true_and]
    have HFIN := Lib.hid hfin
    clear hfin
    go_wp2
    go_ret
    exact ⟨ret_bool HFIN.out, hbW.trans (hB.mono hbW.size)⟩
end Go.Proofs.YtpakcicbojbonaaGreatDoor
