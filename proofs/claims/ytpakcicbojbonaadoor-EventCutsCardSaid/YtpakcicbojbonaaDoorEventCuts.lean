/- EventCuts holds. No conditions. -/
import Derived.Test.YtpakcicbojbonaaDoorEvtU
namespace Go.Proofs.YtpakcicbojbonaaDoor.eventCuts
open Go.ChangeShapes Go.WideShapes Go.ChangeAt Go.RowKit
open Go.ChangeMaps (open_string shut_string)
set_option linter.unusedSimpArgs false
set_option linter.unusedVariables false

theorem take_sig2 (l : List EventV) (m : Nat) : (l.map EventV.sig).take m = (l.take m).map EventV.sig := (List.map_take ..).symm
def ecR2 (l : List EventV) (LA : Option Addr) (lc : Nat) (s' : SchemaV) (wx : Nat) (R1 R2 : Int) : List Spec := [.is (.agg #[.slice s'.ta s'.types.length s'.tc, .slice s'.sa s'.syms.length s'.sc]),
  .is (.slice LA l.length lc),
  .st (RowsAt (l.map EventV.sig)) (RowsAt.keep),
  .is (.tuple #[.int .i64 R1, .int .i64 R2]),
  .is (.tuple #[.int .i64 R1, .int .i64 R2]),
  .is (.int .i64 R1),
  .is (.int .i64 R2),
  .is (.int .i64 R1),
  .is (.int .i64 R2)]
def ecR7 (l : List EventV) (lb lo lc m : Nat) (s' : SchemaV) (wx : Nat) : List Spec := [.is (.agg #[.slice s'.ta s'.types.length s'.tc, .slice s'.sa s'.syms.length s'.sc]),
  .is (.slice (some ⟨lb, lo, none⟩) l.length lc),
  .is (.int .i64 (m : Nat)),
  .is (.slice (some ⟨lb, lo, none⟩) m lc),
  .st (RowsAt ((l.map EventV.sig).take m)) (RowsAt.keep),
  .is (.tuple #[.int .i64 0, .int .i64 0]),
  .is (.tuple #[.int .i64 0, .int .i64 0]),
  .is (.int .i64 0),
  .is (.int .i64 0),
  .is (.int .i64 0),
  .is (.int .i64 0)]
def ecR8 (l : List EventV) (lb lo lc m : Nat) (s' : SchemaV) (wx : Nat) (EE : Int) : List Spec := [.is (.agg #[.slice s'.ta s'.types.length s'.tc, .slice s'.sa s'.syms.length s'.sc]),
  .is (.slice (some ⟨lb, lo, none⟩) l.length lc),
  .is (.int .i64 (m : Nat)),
  .is (.int .i64 ((m + 1 : Nat) : Int)),
  .is (.slice (some ⟨lb, lo, none⟩) (m + 1) lc),
  .st (RowsAt ((l.map EventV.sig).take (m + 1))) (RowsAt.keep),
  .is (.tuple #[.int .i64 (m : Nat), .int .i64 EE]),
  .is (.tuple #[.int .i64 (m : Nat), .int .i64 EE]),
  .is (.int .i64 (m : Nat)),
  .is (.int .i64 EE),
  .is (.int .i64 (m : Nat)),
  .is (.int .i64 EE)]
def ecR9a (l : List EventV) (lb lo lc m : Nat) (s' : SchemaV) (wx : Nat) (x : EventV) : List Spec := [.is (.bool true),
  .is (.bool true),
  .is (.int .i64 0),
  .is (.bool true),
  .is (.bool true),
  .is (.bool true),
  .is (.int .i64 (m : Nat)),
  .is (.int .i64 (m : Nat)),
  .is (.bool true),
  .is (.bool true),
  .is (.bool true),
  .is (.int .i64 20),
  .is (.int .i64 20),
  .is (.bool true),
  .is (.bool true),
  .is (.bool true),
  .is (.int .i64 20),
  .is (.bool true),
  .is (.agg #[.slice s'.ta s'.types.length s'.tc, .slice s'.sa s'.syms.length s'.sc]),
  .is (.slice (some ⟨lb, lo, none⟩) l.length lc),
  .is (.int .i64 (m : Nat)),
  .is (.pointer (some ⟨lb, lo + m * 3, none⟩)),
  .is (.agg #[.int .i64 x.type, .int .i64 x.time, .slice x.A x.attrs.length x.c]),
  .st (EvAt x.sig) (EvAt.keep),
  .is (.bool false),
  .is (.bool true),
  .is (.bool true),
  .is (.bool true),
  .is (.bool true)]
def ecR9b (l : List EventV) (lb lo lc m : Nat) (s' : SchemaV) (wx : Nat) (x : EventV) : List Spec := [.is (.bool true),
  .is (.bool true),
  .is (.int .i64 0),
  .is (.bool true),
  .is (.bool true),
  .is (.bool true),
  .is (.int .i64 (m : Nat)),
  .is (.int .i64 (m : Nat)),
  .is (.bool true),
  .is (.bool true),
  .is (.bool true),
  .is (.int .i64 21),
  .is (.int .i64 21),
  .is (.bool true),
  .is (.bool true),
  .is (.bool true),
  .is (.int .i64 21),
  .is (.bool false),
  .is (.agg #[.slice s'.ta s'.types.length s'.tc, .slice s'.sa s'.syms.length s'.sc]),
  .is (.slice (some ⟨lb, lo, none⟩) l.length lc),
  .is (.int .i64 (m : Nat)),
  .is (.pointer (some ⟨lb, lo + m * 3, none⟩)),
  .is (.agg #[.int .i64 x.type, .int .i64 x.time, .slice x.A x.attrs.length x.c]),
  .st (EvAt x.sig) (EvAt.keep),
  .is (.bool true),
  .is (.bool false),
  .is (.bool true),
  .is (.bool true),
  .is (.bool true)]
set_option maxRecDepth 100000 in
set_option maxHeartbeats 1000000 in
theorem walk (w : World) (ht : Tab w) (s : SchemaV) (hs : s.ok w w.heap.size) (LA : Option Addr) (lc : Nat) (l : List EventV) (hl : l.length ≤ lc ∧ l.length ≤ 3518437208780) (hr : Rd w w.heap.size LA (l.flatMap EventV.cells)) (hok : ∀ e ∈ l, e.ok w w.heap.size) :
    Calls Tryd.prog 6 #[s.val, .slice LA l.length lc] w fun e w' => e = .returned (.bool true) ∧ Below w.heap.size w w' := by
  have hW : Below w.heap.size w (w.alloc (.cells #[.slice s.ta s.types.length s.tc, .slice s.sa s.syms.length s.sc] 29)) := (Below.refl _ _).alloc (Nat.le_refl _) _
  have hsW := hs.old hW
  have H1 := Lib.hid (sTo_any s _ hsW)
  have HW := Lib.hid hW
  have HR := Lib.hid hr
  have HO := Lib.hid hok
  have HT0 := Lib.hid ht
  clear hs hr hok ht hsW
  unfold SchemaV.val
  unfold SchemaV.val at H1
  go_enter Tryd.func6, Tryd.ntmps6
  go_wp2_with fail
  generalize w.alloc (.cells #[.slice s.ta s.types.length s.tc, .slice s.sa s.syms.length s.sc] 29) = W0 at *
  refine H1.out.mono ?_
  rintro r w1 ⟨v1, rfl, ⟨s', rfl, hs', hT', hY'⟩, hb1⟩
  have hbA : Below w1.heap.size w1 (w1.alloc (.cells #[.slice s'.ta s'.types.length s'.tc, .slice s'.sa s'.syms.length s'.sc] 48)) := (Below.refl _ _).alloc (Nat.le_refl _) _
  have kx := Bk.new w1 48 #[.slice s'.ta s'.types.length s'.tc, .slice s'.sa s'.syms.length s'.sc]
  have hbe := HW.out.trans ((hb1.trans (hbA.mono hb1.size)).mono HW.out.size)
  have hsA := hs'.old hbA
  have HTY := Lib.hid (And.intro hT' hY')
  clear hW hs' H1 hb1 HW hT' hY'
  unfold SchemaV.val
  go_wp2_with fail
  generalize w1.alloc (.cells #[.slice s'.ta s'.types.length s'.tc, .slice s'.sa s'.syms.length s'.sc] 48) = W at *
  generalize w1.heap.size = wx at *
  clear hbA
  have HS' := Lib.hid hsA
  have HT := Lib.hid (HT0.out.old hbe)
  have hal : ∀ wr, Below W.heap.size W wr → Calls Tryd.prog 17 #[.slice LA l.length lc] wr fun r w' => ∃ v, r = .returned v ∧ RowsAt (l.map EventV.sig) v w' ∧ Below wr.heap.size wr w' :=
    fun wr hB => all_at l LA lc wr ((HR.out.below (hbe.trans (hB.mono hbe.size))).more (Nat.le_trans hbe.size hB.size)) hl.2 (fun e he => (HO.out e he).old (hbe.trans (hB.mono hbe.size)))
  have HAL := Lib.hid hal
  have hcase := script_cuts (s.types.map sig) s.syms (l.map EventV.sig) (a := (scriptB (s.types.map sig) s.syms (l.map EventV.sig)).1) (e := (scriptB (s.types.map sig) s.syms (l.map EventV.sig)).2) rfl
  obtain ⟨R1, hR1⟩ : ∃ R1, (scriptB (s.types.map sig) s.syms (l.map EventV.sig)).1 = R1 := ⟨_, rfl⟩
  obtain ⟨R2, hR2⟩ : ∃ R2, (scriptB (s.types.map sig) s.syms (l.map EventV.sig)).2 = R2 := ⟨_, rfl⟩
  have HRR : Hid (scriptB (s.types.map sig) s.syms (l.map EventV.sig) = (R1, R2)) := Lib.hid (Prod.ext hR1 hR2)
  rw [hR1, hR2] at hcase
  have HCASE := Lib.hid hcase
  have x0 := kx.cell 0
  have x1 := kx.cell 1
  clear hR1 hR2 hcase hsA hal
  refine wp_region_b (by kernel_rfl) (fun qk => (ecR2 l LA lc s' wx R1 R2).getD qk .any) (by kernel_rfl) ?_ ?_
  · refine BOk.cons rfl [] [5] rfl rfl (by kernel_rfl) (by kernel_rfl) (fun qK qa wr hB qO qF hK => ?_) ?_
    · have e5 : qa.tmps[5]? = some (.pointer (some ⟨wx, 0, none⟩)) := qO.1.trans rfl
      clear qO qF
      have hx0 := (bcell hB _ _ (World.block_lt_of_cell? _ _ x0)).trans x0
      have hx1 := (bcell hB _ _ (World.block_lt_of_cell? _ _ x1)).trans x1
      go_simp
      exact hK _ _ (Below.refl _ _) rfl
    refine BOk.cons rfl [] [1] rfl rfl (by kernel_rfl) (by kernel_rfl) (fun qK qa wr hB qO qF hK => ?_) ?_
    · have e1 : qa.tmps[1]? = some (.slice LA l.length lc) := qO.1.trans rfl
      clear qO qF
      go_simp
      exact hK _ _ (Below.refl _ _) rfl
    refine BOk.cons rfl [1] [] rfl rfl (by kernel_rfl) (by kernel_rfl) (fun qK qa wr hB qO qF hK => ?_) ?_
    · have e16 : qa.tmps[16]? = some (.slice LA l.length lc) := fis qF.1 rfl rfl
      clear qO qF
      go_simp
      go_at_call 17
      refine (HAL.out _ hB).mono ?_
      rintro e9 w9 ⟨v9, rfl, hat, hb9⟩
      exact hK _ _ hb9 hat
    refine BOk.cons rfl [0, 2] [] rfl rfl (by kernel_rfl) (by kernel_rfl) (fun qK qa wr hB qO qF hK => ?_) ?_
    · have e15 : qa.tmps[15]? = some (.agg #[.slice s'.ta s'.types.length s'.tc, .slice s'.sa s'.syms.length s'.sc]) := fis qF.1 rfl rfl
      obtain ⟨u17, e17, r2⟩ := qF.2.1
      obtain ⟨A17, c17, q17, h17, hsg17, hln17, hrd17, hok17⟩ := (show RowsAt _ u17 wr from r2)
      subst h17
      have e17 : qa.tmps[17]? = some (.slice A17 q17.length c17) := e17
      clear qO qF
      go_simp
      go_at_call 16
      refine (pscript_any s' q17 A17 c17 wr (HS'.out.old hB) hrd17 hln17 hok17).mono ?_
      rw [hsg17, HTY.out.1, HTY.out.2, HRR.out]
      rintro e9 w9 ⟨rfl, hb9⟩
      exact hK _ _ hb9 rfl
    refine BOk.cons rfl [3] [] rfl rfl (by kernel_rfl) (by kernel_rfl) (fun qK qa wr hB qO qF hK => ?_) ?_
    · have e18 : qa.tmps[18]? = some (.tuple #[.int .i64 R1, .int .i64 R2]) := fis qF.1 rfl rfl
      clear qO qF
      go_simp
      exact hK _ _ (Below.refl _ _) rfl
    refine BOk.cons rfl [4] [] rfl rfl (by kernel_rfl) (by kernel_rfl) (fun qK qa wr hB qO qF hK => ?_) ?_
    · have e14 : qa.tmps[14]? = some (.tuple #[.int .i64 R1, .int .i64 R2]) := fis qF.1 rfl rfl
      clear qO qF
      go_simp
      exact hK _ _ (Below.refl _ _) rfl
    refine BOk.cons rfl [4] [] rfl rfl (by kernel_rfl) (by kernel_rfl) (fun qK qa wr hB qO qF hK => ?_) ?_
    · have e14 : qa.tmps[14]? = some (.tuple #[.int .i64 R1, .int .i64 R2]) := fis qF.1 rfl rfl
      clear qO qF
      go_simp
      exact hK _ _ (Below.refl _ _) rfl
    refine BOk.cons rfl [5] [] rfl rfl (by kernel_rfl) (by kernel_rfl) (fun qK qa wr hB qO qF hK => ?_) ?_
    · have e19 : qa.tmps[19]? = some (.int .i64 R1) := fis qF.1 rfl rfl
      clear qO qF
      go_simp
      exact hK _ _ (Below.refl _ _) rfl
    refine BOk.cons rfl [6] [] rfl rfl (by kernel_rfl) (by kernel_rfl) (fun qK qa wr hB qO qF hK => ?_) ?_
    · have e20 : qa.tmps[20]? = some (.int .i64 R2) := fis qF.1 rfl rfl
      clear qO qF
      go_simp
      exact hK _ _ (Below.refl _ _) rfl
    exact BOk.nil
  intro vals wr hl hB hR
  match vals, hl with
  | [z15, z16, z17, z18, z14, z19, z20, z6, z7], _ =>
  have r7 : z6 = .int .i64 R1 := hR 7 _ rfl
  subst r7
  have r8 : z7 = .int .i64 R2 := hR 8 _ rfl
  subst r8
  clear hR
  simp only [List.cons_append, List.nil_append, putAll, Act.put, List.setIfInBounds_toArray, List.set_cons_zero, List.set_cons_succ]
  have kx2 := kx.old hB
  have hbe2 := hbe.trans (hB.mono hbe.size)
  have HB2 := Lib.hid hB
  clear hB x0 x1 kx
  rcases HCASE.out with ⟨rfl, rfl⟩ | ⟨m, hm, rfl, hc0, hc1, hc2⟩
  · as_aux_lemma =>
    have H5 := Lib.hid (awake_any wr (HT0.out.old hbe2))
    go_wp2_with fail
    refine H5.out.mono ?_
    rintro r w5 ⟨rfl, hb6⟩
    have hb7 := hbe2.trans (hb6.mono hbe2.size)
    clear H5 hb6
    go_wp2
    go_ret
    exact ⟨rfl, hb7⟩
  rw [List.length_map] at hm
  have HC0 := Lib.hid hc0
  have HC1 := Lib.hid hc1
  obtain ⟨lb, lo, rfl, hlb, hlc⟩ := (HR.out.below hbe2).elem (n := 3) (fun _ => rfl) (by omega) hm
  have hx : l[m].ok wr wr.heap.size := (HO.out l[m] (List.getElem_mem _)).old hbe2
  have hxm : (l.map EventV.sig)[m]'(by simpa using hm) = l[m].sig := by simp
  have hx0 : wr.cell? ⟨lb, lo + m * 3, none⟩ = some (.int .i64 l[m].type) := hlc 0 _ rfl
  have hx1 : wr.cell? ⟨lb, lo + m * 3 + 1, none⟩ = some (.int .i64 l[m].time) := hlc 1 _ rfl
  have hx2 : wr.cell? ⟨lb, lo + m * 3 + 2, none⟩ = some (.slice l[m].A l[m].attrs.length l[m].c) := hlc 2 _ rfl
  rw [hxm] at hc2
  have HX := Lib.hid hx
  have HC2 := Lib.hid hc2
  have hal7 : ∀ k, k ≤ l.length → ∀ w9, Below wr.heap.size wr w9 → Calls Tryd.prog 17 #[.slice (some ⟨lb, lo, none⟩) (l.take k).length lc] w9 fun r w' => ∃ v, r = .returned v ∧ RowsAt ((l.map EventV.sig).take k) v w' ∧ Below w9.heap.size w9 w' := by
    intro k hk w9 h9
    rw [take_sig2]
    exact all_at (l.take k) _ lc w9 (rd_take ((HR.out.below (hbe2.trans (h9.mono hbe2.size))).more (Nat.le_trans hbe2.size h9.size)) k) (by rw [List.length_take]; omega) (fun e he => (HO.out e (List.mem_of_mem_take he)).old (hbe2.trans (h9.mono hbe2.size)))
  have h7 := hal7 m (by omega)
  rw [List.length_take, Nat.min_eq_left (by omega)] at h7
  have h8 := hal7 (m + 1) (by omega)
  rw [List.length_take, Nat.min_eq_left (by omega)] at h8
  have HAL7' := Lib.hid h7
  have HAL8' := Lib.hid h8
  clear hal7 h7 h8 hc0 hc1 hc2 hx hxm hlc HAL
  generalize l[m] = x at *
  have hmc : (m : Int) + 1 ≤ (lc : Int) := by omega
  have hmI : (m : Int) < (l.length : Int) := by omega
  have hm0 : (0 : Int) ≤ (m : Int) := by omega
  have hm1 : (0 : Int) ≤ (m : Int) + 1 := by omega
  have hmn : m + 1 ≤ lc := by omega
  have hmle : m ≤ lc := by omega
  have hmb : m ≤ 3518437208780 := by omega
  rcases HC2.out with ⟨rfl, hv⟩ | ⟨rfl, hv⟩
  · as_aux_lemma =>
    have HV := Lib.hid hv
    obtain ⟨wq, rfl⟩ : ∃ wq : World, wq = wr := ⟨_, rfl⟩
    have HS' := Lib.hid (HS'.out.old HB2.out)
    have HAL7 := HAL7'
    have x0 := kx2.cell 0
    have x1 := kx2.cell 1
    clear hv HC2 HCASE HRR
    go_wp2_with fail
    refine wp_region_b (by kernel_rfl) (fun qk => (ecR7 l lb lo lc m s' wx).getD qk .any) (by kernel_rfl) ?_ ?_
    · refine BOk.cons rfl [] [5] rfl rfl (by kernel_rfl) (by kernel_rfl) (fun qK qa wr hB qO qF hK => ?_) ?_
      · have e5 : qa.tmps[5]? = some (.pointer (some ⟨wx, 0, none⟩)) := qO.1.trans rfl
        clear qO qF
        have hx0 := (bcell hB _ _ (World.block_lt_of_cell? _ _ x0)).trans x0
        have hx1 := (bcell hB _ _ (World.block_lt_of_cell? _ _ x1)).trans x1
        go_simp
        exact hK _ _ (Below.refl _ _) rfl
      refine BOk.cons rfl [] [1] rfl rfl (by kernel_rfl) (by kernel_rfl) (fun qK qa wr hB qO qF hK => ?_) ?_
      · have e1 : qa.tmps[1]? = some (.slice (some ⟨lb, lo, none⟩) l.length lc) := qO.1.trans rfl
        clear qO qF
        go_simp
        exact hK _ _ (Below.refl _ _) rfl
      refine BOk.cons rfl [] [6] rfl rfl (by kernel_rfl) (by kernel_rfl) (fun qK qa wr hB qO qF hK => ?_) ?_
      · have e6 : qa.tmps[6]? = some (.int .i64 (m : Nat)) := qO.1.trans rfl
        clear qO qF
        go_simp
        exact hK _ _ (Below.refl _ _) rfl
      refine BOk.cons rfl [1, 2] [] rfl rfl (by kernel_rfl) (by kernel_rfl) (fun qK qa wr hB qO qF hK => ?_) ?_
      · have e38 : qa.tmps[38]? = some (.slice (some ⟨lb, lo, none⟩) l.length lc) := fis qF.1 rfl rfl
        have e39 : qa.tmps[39]? = some (.int .i64 (m : Nat)) := fis qF.2.1 rfl rfl
        clear qO qF
        go_simp
        exact hK _ _ (Below.refl _ _) (by show (_ : Value) = _; first | rfl | (simp; done) | (congr 1; omega))
      refine BOk.cons rfl [3] [] rfl rfl (by kernel_rfl) (by kernel_rfl) (fun qK qa wr hB qO qF hK => ?_) ?_
      · have e40 : qa.tmps[40]? = some (.slice (some ⟨lb, lo, none⟩) m lc) := fis qF.1 rfl rfl
        clear qO qF
        go_simp
        go_at_call 17
        refine (HAL7.out _ hB).mono ?_
        rintro e9 w9 ⟨v9, rfl, hat, hb9⟩
        exact hK _ _ hb9 hat
      refine BOk.cons rfl [0, 4] [] rfl rfl (by kernel_rfl) (by kernel_rfl) (fun qK qa wr hB qO qF hK => ?_) ?_
      · have e37 : qa.tmps[37]? = some (.agg #[.slice s'.ta s'.types.length s'.tc, .slice s'.sa s'.syms.length s'.sc]) := fis qF.1 rfl rfl
        obtain ⟨u41, e41, r4⟩ := qF.2.1
        obtain ⟨A41, c41, q41, h41, hsg41, hln41, hrd41, hok41⟩ := (show RowsAt _ u41 wr from r4)
        subst h41
        have e41 : qa.tmps[41]? = some (.slice A41 q41.length c41) := e41
        clear qO qF
        go_simp
        go_at_call 16
        refine (pscript_any s' q41 A41 c41 wr (HS'.out.old hB) hrd41 hln41 hok41).mono ?_
        rw [hsg41, HTY.out.1, HTY.out.2, HC0.out]
        rintro e9 w9 ⟨rfl, hb9⟩
        exact hK _ _ hb9 rfl
      refine BOk.cons rfl [5] [] rfl rfl (by kernel_rfl) (by kernel_rfl) (fun qK qa wr hB qO qF hK => ?_) ?_
      · have e42 : qa.tmps[42]? = some (.tuple #[.int .i64 0, .int .i64 0]) := fis qF.1 rfl rfl
        clear qO qF
        go_simp
        exact hK _ _ (Below.refl _ _) rfl
      refine BOk.cons rfl [6] [] rfl rfl (by kernel_rfl) (by kernel_rfl) (fun qK qa wr hB qO qF hK => ?_) ?_
      · have e36 : qa.tmps[36]? = some (.tuple #[.int .i64 0, .int .i64 0]) := fis qF.1 rfl rfl
        clear qO qF
        go_simp
        exact hK _ _ (Below.refl _ _) rfl
      refine BOk.cons rfl [6] [] rfl rfl (by kernel_rfl) (by kernel_rfl) (fun qK qa wr hB qO qF hK => ?_) ?_
      · have e36 : qa.tmps[36]? = some (.tuple #[.int .i64 0, .int .i64 0]) := fis qF.1 rfl rfl
        clear qO qF
        go_simp
        exact hK _ _ (Below.refl _ _) rfl
      refine BOk.cons rfl [7] [] rfl rfl (by kernel_rfl) (by kernel_rfl) (fun qK qa wr hB qO qF hK => ?_) ?_
      · have e43 : qa.tmps[43]? = some (.int .i64 0) := fis qF.1 rfl rfl
        clear qO qF
        go_simp
        exact hK _ _ (Below.refl _ _) rfl
      refine BOk.cons rfl [8] [] rfl rfl (by kernel_rfl) (by kernel_rfl) (fun qK qa wr hB qO qF hK => ?_) ?_
      · have e44 : qa.tmps[44]? = some (.int .i64 0) := fis qF.1 rfl rfl
        clear qO qF
        go_simp
        exact hK _ _ (Below.refl _ _) rfl
      exact BOk.nil
    intro vals wr hl hB hR
    match vals, hl with
    | [y37, y38, y39, y40, y41, y42, y36, y43, y44, y8, y9], _ =>
    have r9 : y8 = .int .i64 0 := hR 9 _ rfl
    subst r9
    have r10 : y9 = .int .i64 0 := hR 10 _ rfl
    subst r10
    clear hR
    simp only [List.cons_append, List.nil_append, putAll, Act.put, List.setIfInBounds_toArray, List.set_cons_zero, List.set_cons_succ]
    obtain ⟨w7, rfl⟩ : ∃ w7 : World, w7 = wr := ⟨_, rfl⟩
    have HS' := Lib.hid (HS'.out.old hB)
    have hb7 := hB
    have HAL8 : Hid (∀ wr, Below w7.heap.size w7 wr → Calls Tryd.prog 17 #[.slice (some ⟨lb, lo, none⟩) (m + 1) lc] wr fun r w' => ∃ v, r = .returned v ∧ RowsAt ((l.map EventV.sig).take (m + 1)) v w' ∧ Below wr.heap.size wr w') := Lib.hid fun wr h => HAL8'.out wr (hb7.trans (h.mono hb7.size))
    have kx3 := kx2.old hB
    clear hB x0 x1
    have x0 := kx3.cell 0
    have x1 := kx3.cell 1
    go_wp2_with fail
    refine wp_region_b (by kernel_rfl) (fun qk => (ecR8 l lb lo lc m s' wx 20).getD qk .any) (by kernel_rfl) ?_ ?_
    · refine BOk.cons rfl [] [5] rfl rfl (by kernel_rfl) (by kernel_rfl) (fun qK qa wr hB qO qF hK => ?_) ?_
      · have e5 : qa.tmps[5]? = some (.pointer (some ⟨wx, 0, none⟩)) := qO.1.trans rfl
        clear qO qF
        have hx0 := (bcell hB _ _ (World.block_lt_of_cell? _ _ x0)).trans x0
        have hx1 := (bcell hB _ _ (World.block_lt_of_cell? _ _ x1)).trans x1
        go_simp
        exact hK _ _ (Below.refl _ _) rfl
      refine BOk.cons rfl [] [1] rfl rfl (by kernel_rfl) (by kernel_rfl) (fun qK qa wr hB qO qF hK => ?_) ?_
      · have e1 : qa.tmps[1]? = some (.slice (some ⟨lb, lo, none⟩) l.length lc) := qO.1.trans rfl
        clear qO qF
        go_simp
        exact hK _ _ (Below.refl _ _) rfl
      refine BOk.cons rfl [] [6] rfl rfl (by kernel_rfl) (by kernel_rfl) (fun qK qa wr hB qO qF hK => ?_) ?_
      · have e6 : qa.tmps[6]? = some (.int .i64 (m : Nat)) := qO.1.trans rfl
        clear qO qF
        go_simp
        exact hK _ _ (Below.refl _ _) rfl
      refine BOk.cons rfl [2] [] rfl rfl (by kernel_rfl) (by kernel_rfl) (fun qK qa wr hB qO qF hK => ?_) ?_
      · have e48 : qa.tmps[48]? = some (.int .i64 (m : Nat)) := fis qF.1 rfl rfl
        clear qO qF
        go_simp
        exact hK _ _ (Below.refl _ _) (by show (_ : Value) = _; first | rfl | (simp; done) | exact congrArg (Value.int .i64) (IntWalk.i64_in _ (by omega)))
      refine BOk.cons rfl [1, 3] [] rfl rfl (by kernel_rfl) (by kernel_rfl) (fun qK qa wr hB qO qF hK => ?_) ?_
      · have e47 : qa.tmps[47]? = some (.slice (some ⟨lb, lo, none⟩) l.length lc) := fis qF.1 rfl rfl
        have e49 : qa.tmps[49]? = some (.int .i64 ((m + 1 : Nat) : Int)) := fis qF.2.1 rfl rfl
        clear qO qF
        go_simp
        exact hK _ _ (Below.refl _ _) (by show (_ : Value) = _; first | rfl | (simp; done) | (congr 1; omega))
      refine BOk.cons rfl [4] [] rfl rfl (by kernel_rfl) (by kernel_rfl) (fun qK qa wr hB qO qF hK => ?_) ?_
      · have e50 : qa.tmps[50]? = some (.slice (some ⟨lb, lo, none⟩) (m + 1) lc) := fis qF.1 rfl rfl
        clear qO qF
        go_simp
        go_at_call 17
        refine (HAL8.out _ hB).mono ?_
        rintro e9 w9 ⟨v9, rfl, hat, hb9⟩
        exact hK _ _ hb9 hat
      refine BOk.cons rfl [0, 5] [] rfl rfl (by kernel_rfl) (by kernel_rfl) (fun qK qa wr hB qO qF hK => ?_) ?_
      · have e46 : qa.tmps[46]? = some (.agg #[.slice s'.ta s'.types.length s'.tc, .slice s'.sa s'.syms.length s'.sc]) := fis qF.1 rfl rfl
        obtain ⟨u51, e51, r5⟩ := qF.2.1
        obtain ⟨A51, c51, q51, h51, hsg51, hln51, hrd51, hok51⟩ := (show RowsAt _ u51 wr from r5)
        subst h51
        have e51 : qa.tmps[51]? = some (.slice A51 q51.length c51) := e51
        clear qO qF
        go_simp
        go_at_call 16
        refine (pscript_any s' q51 A51 c51 wr (HS'.out.old hB) hrd51 hln51 hok51).mono ?_
        rw [hsg51, HTY.out.1, HTY.out.2, HC1.out]
        rintro e9 w9 ⟨rfl, hb9⟩
        exact hK _ _ hb9 rfl
      refine BOk.cons rfl [6] [] rfl rfl (by kernel_rfl) (by kernel_rfl) (fun qK qa wr hB qO qF hK => ?_) ?_
      · have e52 : qa.tmps[52]? = some (.tuple #[.int .i64 (m : Nat), .int .i64 20]) := fis qF.1 rfl rfl
        clear qO qF
        go_simp
        exact hK _ _ (Below.refl _ _) rfl
      refine BOk.cons rfl [7] [] rfl rfl (by kernel_rfl) (by kernel_rfl) (fun qK qa wr hB qO qF hK => ?_) ?_
      · have e45 : qa.tmps[45]? = some (.tuple #[.int .i64 (m : Nat), .int .i64 20]) := fis qF.1 rfl rfl
        clear qO qF
        go_simp
        exact hK _ _ (Below.refl _ _) rfl
      refine BOk.cons rfl [7] [] rfl rfl (by kernel_rfl) (by kernel_rfl) (fun qK qa wr hB qO qF hK => ?_) ?_
      · have e45 : qa.tmps[45]? = some (.tuple #[.int .i64 (m : Nat), .int .i64 20]) := fis qF.1 rfl rfl
        clear qO qF
        go_simp
        exact hK _ _ (Below.refl _ _) rfl
      refine BOk.cons rfl [8] [] rfl rfl (by kernel_rfl) (by kernel_rfl) (fun qK qa wr hB qO qF hK => ?_) ?_
      · have e53 : qa.tmps[53]? = some (.int .i64 (m : Nat)) := fis qF.1 rfl rfl
        clear qO qF
        go_simp
        exact hK _ _ (Below.refl _ _) rfl
      refine BOk.cons rfl [9] [] rfl rfl (by kernel_rfl) (by kernel_rfl) (fun qK qa wr hB qO qF hK => ?_) ?_
      · have e54 : qa.tmps[54]? = some (.int .i64 20) := fis qF.1 rfl rfl
        clear qO qF
        go_simp
        exact hK _ _ (Below.refl _ _) rfl
      exact BOk.nil
    intro vals wr hl hB hR
    match vals, hl with
    | [z46, z47, z48, z49, z50, z51, z52, z45, z53, z54, z10, z11], _ =>
    have r10 : z10 = .int .i64 (m : Nat) := hR 10 _ rfl
    subst r10
    have r11 : z11 = .int .i64 20 := hR 11 _ rfl
    subst r11
    clear hR
    simp only [List.cons_append, List.nil_append, putAll, Act.put, List.setIfInBounds_toArray, List.set_cons_zero, List.set_cons_succ]
    obtain ⟨w8, rfl⟩ : ∃ w8 : World, w8 = wr := ⟨_, rfl⟩
    have HS' := Lib.hid (HS'.out.old hB)
    have hb8 := hb7.trans (hB.mono hb7.size)
    have hbe8 := hbe2.trans (hb8.mono hbe2.size)
    have HT := Lib.hid (HT0.out.old hbe8)
    have HTE : Hid (∀ wr, Below w8.heap.size w8 wr → Calls Tryd.prog 12 #[x.val] wr fun r w' => ∃ v, r = .returned v ∧ EvAt x.sig v w' ∧ Below wr.heap.size wr w') := Lib.hid fun wr h => eTo_any x wr ((HX.out.old hb8).old h)
    unfold EventV.val at HTE
    have kx4 := kx3.old hB
    have hx0 := (bcell hb8 _ _ (World.block_lt_of_cell? _ _ hx0)).trans hx0
    have hx1 := (bcell hb8 _ _ (World.block_lt_of_cell? _ _ hx1)).trans hx1
    have hx2 := (bcell hb8 _ _ (World.block_lt_of_cell? _ _ hx2)).trans hx2
    clear hB x0 x1
    have x0 := kx4.cell 0
    have x1 := kx4.cell 1
    go_wp2_with fail
    refine wp_region_b (by kernel_rfl) (fun qk => (ecR9a l lb lo lc m s' wx x).getD qk .any) (by kernel_rfl) ?_ ?_
    · refine BOk.cons rfl [] [] rfl rfl (by kernel_rfl) (by kernel_rfl) (fun qK qa wr hB qO qF hK => ?_) ?_
      · clear qO qF
        go_simp
        go_at_call 10
        refine (awake_any _ (HT.out.old hB)).mono ?_
        rintro e9 w9 ⟨rfl, hb9⟩
        exact hK _ _ hb9 rfl
      refine BOk.cons rfl [0] [] rfl rfl (by kernel_rfl) (by kernel_rfl) (fun qK qa wr hB qO qF hK => ?_) ?_
      · have e55 : qa.tmps[55]? = some (.bool true) := fis qF.1 rfl rfl
        clear qO qF
        go_simp
        exact hK _ _ (Below.refl _ _) (by first | rfl | (show (_ : Value) = _; simp_all; done))
      refine BOk.yes rfl [] [9] rfl 1 true rfl rfl rfl (by kernel_rfl) (by kernel_rfl) (by kernel_rfl) (fun qK qa wr hB qO qF hK => ?_) ?_
      · have e9 : qa.tmps[9]? = some (.int .i64 0) := qO.1.trans rfl
        clear qO qF
        go_simp
        exact hK _ _ (Below.refl _ _) rfl
      refine BOk.yes rfl [2] [] rfl 1 true rfl rfl rfl (by kernel_rfl) (by kernel_rfl) (by kernel_rfl) (fun qK qa wr hB qO qF hK => ?_) ?_
      · have e57 : qa.tmps[57]? = some (.int .i64 0) := fis qF.1 rfl rfl
        clear qO qF
        go_simp
        exact hK _ _ (Below.refl _ _) (by show (_ : Value) = _; first | rfl | (simp; done))
      refine BOk.cons rfl [1, 3] [] rfl rfl (by kernel_rfl) (by kernel_rfl) (fun qK qa wr hB qO qF hK => ?_) ?_
      · have e56 : qa.tmps[56]? = some (.bool true) := fis qF.1 rfl rfl
        have e58 : qa.tmps[58]? = some (.bool true) := fis qF.2.1 rfl rfl
        clear qO qF
        go_simp
        refine hK _ _ (Below.refl _ _) ?_
        show (_ : Value) = _
        first | rfl | (simp; done) | (simp; omega)
      refine BOk.cons rfl [4] [] rfl rfl (by kernel_rfl) (by kernel_rfl) (fun qK qa wr hB qO qF hK => ?_) ?_
      · have e59 : qa.tmps[59]? = some (.bool true) := fis qF.1 rfl rfl
        clear qO qF
        go_simp
        exact hK _ _ (Below.refl _ _) (by first | rfl | (show (_ : Value) = _; simp_all; done))
      refine BOk.yes rfl [] [10] rfl 5 true rfl rfl rfl (by kernel_rfl) (by kernel_rfl) (by kernel_rfl) (fun qK qa wr hB qO qF hK => ?_) ?_
      · have e10 : qa.tmps[10]? = some (.int .i64 (m : Nat)) := qO.1.trans rfl
        clear qO qF
        go_simp
        exact hK _ _ (Below.refl _ _) rfl
      refine BOk.yes rfl [] [6] rfl 5 true rfl rfl rfl (by kernel_rfl) (by kernel_rfl) (by kernel_rfl) (fun qK qa wr hB qO qF hK => ?_) ?_
      · have e6 : qa.tmps[6]? = some (.int .i64 (m : Nat)) := qO.1.trans rfl
        clear qO qF
        go_simp
        exact hK _ _ (Below.refl _ _) rfl
      refine BOk.yes rfl [6, 7] [] rfl 5 true rfl rfl rfl (by kernel_rfl) (by kernel_rfl) (by kernel_rfl) (fun qK qa wr hB qO qF hK => ?_) ?_
      · have e61 : qa.tmps[61]? = some (.int .i64 (m : Nat)) := fis qF.1 rfl rfl
        have e62 : qa.tmps[62]? = some (.int .i64 (m : Nat)) := fis qF.2.1 rfl rfl
        clear qO qF
        go_simp
        refine hK _ _ (Below.refl _ _) ?_
        show (_ : Value) = _
        first | rfl | (simp; done) | (simp; omega)
      refine BOk.cons rfl [5, 8] [] rfl rfl (by kernel_rfl) (by kernel_rfl) (fun qK qa wr hB qO qF hK => ?_) ?_
      · have e60 : qa.tmps[60]? = some (.bool true) := fis qF.1 rfl rfl
        have e63 : qa.tmps[63]? = some (.bool true) := fis qF.2.1 rfl rfl
        clear qO qF
        go_simp
        refine hK _ _ (Below.refl _ _) ?_
        show (_ : Value) = _
        first | rfl | (simp; done) | (simp; omega)
      refine BOk.cons rfl [9] [] rfl rfl (by kernel_rfl) (by kernel_rfl) (fun qK qa wr hB qO qF hK => ?_) ?_
      · have e64 : qa.tmps[64]? = some (.bool true) := fis qF.1 rfl rfl
        clear qO qF
        go_simp
        exact hK _ _ (Below.refl _ _) (by first | rfl | (show (_ : Value) = _; simp_all; done))
      refine BOk.yes rfl [] [11] rfl 10 true rfl rfl rfl (by kernel_rfl) (by kernel_rfl) (by kernel_rfl) (fun qK qa wr hB qO qF hK => ?_) ?_
      · have e11 : qa.tmps[11]? = some (.int .i64 20) := qO.1.trans rfl
        clear qO qF
        go_simp
        exact hK _ _ (Below.refl _ _) rfl
      refine BOk.yes rfl [] [7] rfl 10 true rfl rfl rfl (by kernel_rfl) (by kernel_rfl) (by kernel_rfl) (fun qK qa wr hB qO qF hK => ?_) ?_
      · have e7 : qa.tmps[7]? = some (.int .i64 20) := qO.1.trans rfl
        clear qO qF
        go_simp
        exact hK _ _ (Below.refl _ _) rfl
      refine BOk.yes rfl [11, 12] [] rfl 10 true rfl rfl rfl (by kernel_rfl) (by kernel_rfl) (by kernel_rfl) (fun qK qa wr hB qO qF hK => ?_) ?_
      · have e66 : qa.tmps[66]? = some (.int .i64 20) := fis qF.1 rfl rfl
        have e67 : qa.tmps[67]? = some (.int .i64 20) := fis qF.2.1 rfl rfl
        clear qO qF
        go_simp
        refine hK _ _ (Below.refl _ _) ?_
        show (_ : Value) = _
        first | rfl | (simp; done) | (simp; omega)
      refine BOk.cons rfl [10, 13] [] rfl rfl (by kernel_rfl) (by kernel_rfl) (fun qK qa wr hB qO qF hK => ?_) ?_
      · have e65 : qa.tmps[65]? = some (.bool true) := fis qF.1 rfl rfl
        have e68 : qa.tmps[68]? = some (.bool true) := fis qF.2.1 rfl rfl
        clear qO qF
        go_simp
        refine hK _ _ (Below.refl _ _) ?_
        show (_ : Value) = _
        first | rfl | (simp; done) | (simp; omega)
      refine BOk.cons rfl [14] [] rfl rfl (by kernel_rfl) (by kernel_rfl) (fun qK qa wr hB qO qF hK => ?_) ?_
      · have e69 : qa.tmps[69]? = some (.bool true) := fis qF.1 rfl rfl
        clear qO qF
        go_simp
        exact hK _ _ (Below.refl _ _) (by first | rfl | (show (_ : Value) = _; simp_all; done))
      refine BOk.yes rfl [] [7] rfl 15 true rfl rfl rfl (by kernel_rfl) (by kernel_rfl) (by kernel_rfl) (fun qK qa wr hB qO qF hK => ?_) ?_
      · have e7 : qa.tmps[7]? = some (.int .i64 20) := qO.1.trans rfl
        clear qO qF
        go_simp
        exact hK _ _ (Below.refl _ _) rfl
      refine BOk.yes rfl [16] [] rfl 15 true rfl rfl rfl (by kernel_rfl) (by kernel_rfl) (by kernel_rfl) (fun qK qa wr hB qO qF hK => ?_) ?_
      · have e71 : qa.tmps[71]? = some (.int .i64 20) := fis qF.1 rfl rfl
        clear qO qF
        go_simp
        refine hK _ _ (Below.refl _ _) ?_
        show (_ : Value) = _
        first | rfl | (simp; done) | (simp; omega)
      refine BOk.yes rfl [] [5] rfl 15 true rfl rfl rfl (by kernel_rfl) (by kernel_rfl) (by kernel_rfl) (fun qK qa wr hB qO qF hK => ?_) ?_
      · have e5 : qa.tmps[5]? = some (.pointer (some ⟨wx, 0, none⟩)) := qO.1.trans rfl
        clear qO qF
        have hx0 := (bcell hB _ _ (World.block_lt_of_cell? _ _ x0)).trans x0
        have hx1 := (bcell hB _ _ (World.block_lt_of_cell? _ _ x1)).trans x1
        go_simp
        exact hK _ _ (Below.refl _ _) rfl
      refine BOk.yes rfl [] [1] rfl 15 true rfl rfl rfl (by kernel_rfl) (by kernel_rfl) (by kernel_rfl) (fun qK qa wr hB qO qF hK => ?_) ?_
      · have e1 : qa.tmps[1]? = some (.slice (some ⟨lb, lo, none⟩) l.length lc) := qO.1.trans rfl
        clear qO qF
        go_simp
        exact hK _ _ (Below.refl _ _) rfl
      refine BOk.yes rfl [] [6] rfl 15 true rfl rfl rfl (by kernel_rfl) (by kernel_rfl) (by kernel_rfl) (fun qK qa wr hB qO qF hK => ?_) ?_
      · have e6 : qa.tmps[6]? = some (.int .i64 (m : Nat)) := qO.1.trans rfl
        clear qO qF
        go_simp
        exact hK _ _ (Below.refl _ _) rfl
      refine BOk.yes rfl [19, 20] [] rfl 15 true rfl rfl rfl (by kernel_rfl) (by kernel_rfl) (by kernel_rfl) (fun qK qa wr hB qO qF hK => ?_) ?_
      · have e74 : qa.tmps[74]? = some (.slice (some ⟨lb, lo, none⟩) l.length lc) := fis qF.1 rfl rfl
        have e75 : qa.tmps[75]? = some (.int .i64 (m : Nat)) := fis qF.2.1 rfl rfl
        clear qO qF
        go_simp
        exact hK _ _ (Below.refl _ _) rfl
      refine BOk.yes rfl [21] [] rfl 15 true rfl rfl rfl (by kernel_rfl) (by kernel_rfl) (by kernel_rfl) (fun qK qa wr hB qO qF hK => ?_) ?_
      · have e76 : qa.tmps[76]? = some (.pointer (some ⟨lb, lo + m * 3, none⟩)) := fis qF.1 rfl rfl
        clear qO qF
        have hhx0 := (bcell hB _ _ (World.block_lt_of_cell? _ _ hx0)).trans hx0
        have hhx1 := (bcell hB _ _ (World.block_lt_of_cell? _ _ hx1)).trans hx1
        have hhx2 := (bcell hB _ _ (World.block_lt_of_cell? _ _ hx2)).trans hx2
        go_simp
        exact hK _ _ (Below.refl _ _) rfl
      refine BOk.yes rfl [22] [] rfl 15 true rfl rfl rfl (by kernel_rfl) (by kernel_rfl) (by kernel_rfl) (fun qK qa wr hB qO qF hK => ?_) ?_
      · have e77 : qa.tmps[77]? = some (.agg #[.int .i64 x.type, .int .i64 x.time, .slice x.A x.attrs.length x.c]) := fis qF.1 rfl rfl
        clear qO qF
        go_simp
        go_at_call 12
        refine (HTE.out _ hB).mono ?_
        rintro e9 w9 ⟨v9, rfl, hat, hb9⟩
        exact hK _ _ hb9 hat
      refine BOk.yes rfl [18, 23] [] rfl 15 true rfl rfl rfl (by kernel_rfl) (by kernel_rfl) (by kernel_rfl) (fun qK qa wr hB qO qF hK => ?_) ?_
      · have e73 : qa.tmps[73]? = some (.agg #[.slice s'.ta s'.types.length s'.tc, .slice s'.sa s'.syms.length s'.sc]) := fis qF.1 rfl rfl
        obtain ⟨u78, e78, r23⟩ := qF.2.1
        obtain ⟨q78, h78, he78, hx78⟩ := (show EvAt _ u78 wr from r23)
        subst h78
        have e78 : qa.tmps[78]? = some q78.val := e78
        clear qO qF
        go_simp
        go_at_call 19
        refine (pvalid_any s' q78 wr (HS'.out.old hB) he78).mono ?_
        rw [hx78, HTY.out.1, HTY.out.2, HV.out]
        rintro e9 w9 ⟨rfl, hb9⟩
        exact hK _ _ hb9 rfl
      refine BOk.yes rfl [24] [] rfl 15 true rfl rfl rfl (by kernel_rfl) (by kernel_rfl) (by kernel_rfl) (fun qK qa wr hB qO qF hK => ?_) ?_
      · have e79 : qa.tmps[79]? = some (.bool false) := fis qF.1 rfl rfl
        clear qO qF
        go_simp
        exact hK _ _ (Below.refl _ _) rfl
      refine BOk.yes rfl [17, 25] [] rfl 15 true rfl rfl rfl (by kernel_rfl) (by kernel_rfl) (by kernel_rfl) (fun qK qa wr hB qO qF hK => ?_) ?_
      · have e72 : qa.tmps[72]? = some (.bool true) := fis qF.1 rfl rfl
        have e80 : qa.tmps[80]? = some (.bool true) := fis qF.2.1 rfl rfl
        clear qO qF
        go_simp
        exact hK _ _ (Below.refl _ _) (by show (_ : Value) = _; first | rfl | (simp; done))
      refine BOk.cons rfl [15, 26] [] rfl rfl (by kernel_rfl) (by kernel_rfl) (fun qK qa wr hB qO qF hK => ?_) ?_
      · have e70 : qa.tmps[70]? = some (.bool true) := fis qF.1 rfl rfl
        have e81 : qa.tmps[81]? = some (.bool true) := fis qF.2.1 rfl rfl
        clear qO qF
        go_simp
        refine hK _ _ (Below.refl _ _) ?_
        show (_ : Value) = _
        first | rfl | (simp; done) | (simp; omega)
      refine BOk.cons rfl [27] [] rfl rfl (by kernel_rfl) (by kernel_rfl) (fun qK qa wr hB qO qF hK => ?_) ?_
      · have e82 : qa.tmps[82]? = some (.bool true) := fis qF.1 rfl rfl
        clear qO qF
        go_simp
        exact hK _ _ (Below.refl _ _) (by first | rfl | (show (_ : Value) = _; simp_all; done))
      exact BOk.nil
    intro vals wr hl hB hR
    match vals, hl with
    | [t55, t56, t57, t58, t59, t60, t61, t62, t63, t64, t65, t66, t67, t68, t69, t70, t71, t72, t73, t74, t75, t76, t77, t78, t79, t80, t81, t82, t4], _ =>
    have r28 : t4 = .bool true := hR 28 _ rfl
    subst r28
    clear hR
    simp only [List.cons_append, List.nil_append, putAll, Act.put, List.setIfInBounds_toArray, List.set_cons_zero, List.set_cons_succ]
    have hfin := hbe8.trans (hB.mono hbe8.size)
    clear hB
    go_wp2
    go_ret
    exact ⟨rfl, hfin⟩
  · as_aux_lemma =>
    have HV := Lib.hid hv
    obtain ⟨wq, rfl⟩ : ∃ wq : World, wq = wr := ⟨_, rfl⟩
    have HS' := Lib.hid (HS'.out.old HB2.out)
    have HAL7 := HAL7'
    have x0 := kx2.cell 0
    have x1 := kx2.cell 1
    clear hv HC2 HCASE HRR
    go_wp2_with fail
    refine wp_region_b (by kernel_rfl) (fun qk => (ecR7 l lb lo lc m s' wx).getD qk .any) (by kernel_rfl) ?_ ?_
    · refine BOk.cons rfl [] [5] rfl rfl (by kernel_rfl) (by kernel_rfl) (fun qK qa wr hB qO qF hK => ?_) ?_
      · have e5 : qa.tmps[5]? = some (.pointer (some ⟨wx, 0, none⟩)) := qO.1.trans rfl
        clear qO qF
        have hx0 := (bcell hB _ _ (World.block_lt_of_cell? _ _ x0)).trans x0
        have hx1 := (bcell hB _ _ (World.block_lt_of_cell? _ _ x1)).trans x1
        go_simp
        exact hK _ _ (Below.refl _ _) rfl
      refine BOk.cons rfl [] [1] rfl rfl (by kernel_rfl) (by kernel_rfl) (fun qK qa wr hB qO qF hK => ?_) ?_
      · have e1 : qa.tmps[1]? = some (.slice (some ⟨lb, lo, none⟩) l.length lc) := qO.1.trans rfl
        clear qO qF
        go_simp
        exact hK _ _ (Below.refl _ _) rfl
      refine BOk.cons rfl [] [6] rfl rfl (by kernel_rfl) (by kernel_rfl) (fun qK qa wr hB qO qF hK => ?_) ?_
      · have e6 : qa.tmps[6]? = some (.int .i64 (m : Nat)) := qO.1.trans rfl
        clear qO qF
        go_simp
        exact hK _ _ (Below.refl _ _) rfl
      refine BOk.cons rfl [1, 2] [] rfl rfl (by kernel_rfl) (by kernel_rfl) (fun qK qa wr hB qO qF hK => ?_) ?_
      · have e38 : qa.tmps[38]? = some (.slice (some ⟨lb, lo, none⟩) l.length lc) := fis qF.1 rfl rfl
        have e39 : qa.tmps[39]? = some (.int .i64 (m : Nat)) := fis qF.2.1 rfl rfl
        clear qO qF
        go_simp
        exact hK _ _ (Below.refl _ _) (by show (_ : Value) = _; first | rfl | (simp; done) | (congr 1; omega))
      refine BOk.cons rfl [3] [] rfl rfl (by kernel_rfl) (by kernel_rfl) (fun qK qa wr hB qO qF hK => ?_) ?_
      · have e40 : qa.tmps[40]? = some (.slice (some ⟨lb, lo, none⟩) m lc) := fis qF.1 rfl rfl
        clear qO qF
        go_simp
        go_at_call 17
        refine (HAL7.out _ hB).mono ?_
        rintro e9 w9 ⟨v9, rfl, hat, hb9⟩
        exact hK _ _ hb9 hat
      refine BOk.cons rfl [0, 4] [] rfl rfl (by kernel_rfl) (by kernel_rfl) (fun qK qa wr hB qO qF hK => ?_) ?_
      · have e37 : qa.tmps[37]? = some (.agg #[.slice s'.ta s'.types.length s'.tc, .slice s'.sa s'.syms.length s'.sc]) := fis qF.1 rfl rfl
        obtain ⟨u41, e41, r4⟩ := qF.2.1
        obtain ⟨A41, c41, q41, h41, hsg41, hln41, hrd41, hok41⟩ := (show RowsAt _ u41 wr from r4)
        subst h41
        have e41 : qa.tmps[41]? = some (.slice A41 q41.length c41) := e41
        clear qO qF
        go_simp
        go_at_call 16
        refine (pscript_any s' q41 A41 c41 wr (HS'.out.old hB) hrd41 hln41 hok41).mono ?_
        rw [hsg41, HTY.out.1, HTY.out.2, HC0.out]
        rintro e9 w9 ⟨rfl, hb9⟩
        exact hK _ _ hb9 rfl
      refine BOk.cons rfl [5] [] rfl rfl (by kernel_rfl) (by kernel_rfl) (fun qK qa wr hB qO qF hK => ?_) ?_
      · have e42 : qa.tmps[42]? = some (.tuple #[.int .i64 0, .int .i64 0]) := fis qF.1 rfl rfl
        clear qO qF
        go_simp
        exact hK _ _ (Below.refl _ _) rfl
      refine BOk.cons rfl [6] [] rfl rfl (by kernel_rfl) (by kernel_rfl) (fun qK qa wr hB qO qF hK => ?_) ?_
      · have e36 : qa.tmps[36]? = some (.tuple #[.int .i64 0, .int .i64 0]) := fis qF.1 rfl rfl
        clear qO qF
        go_simp
        exact hK _ _ (Below.refl _ _) rfl
      refine BOk.cons rfl [6] [] rfl rfl (by kernel_rfl) (by kernel_rfl) (fun qK qa wr hB qO qF hK => ?_) ?_
      · have e36 : qa.tmps[36]? = some (.tuple #[.int .i64 0, .int .i64 0]) := fis qF.1 rfl rfl
        clear qO qF
        go_simp
        exact hK _ _ (Below.refl _ _) rfl
      refine BOk.cons rfl [7] [] rfl rfl (by kernel_rfl) (by kernel_rfl) (fun qK qa wr hB qO qF hK => ?_) ?_
      · have e43 : qa.tmps[43]? = some (.int .i64 0) := fis qF.1 rfl rfl
        clear qO qF
        go_simp
        exact hK _ _ (Below.refl _ _) rfl
      refine BOk.cons rfl [8] [] rfl rfl (by kernel_rfl) (by kernel_rfl) (fun qK qa wr hB qO qF hK => ?_) ?_
      · have e44 : qa.tmps[44]? = some (.int .i64 0) := fis qF.1 rfl rfl
        clear qO qF
        go_simp
        exact hK _ _ (Below.refl _ _) rfl
      exact BOk.nil
    intro vals wr hl hB hR
    match vals, hl with
    | [y37, y38, y39, y40, y41, y42, y36, y43, y44, y8, y9], _ =>
    have r9 : y8 = .int .i64 0 := hR 9 _ rfl
    subst r9
    have r10 : y9 = .int .i64 0 := hR 10 _ rfl
    subst r10
    clear hR
    simp only [List.cons_append, List.nil_append, putAll, Act.put, List.setIfInBounds_toArray, List.set_cons_zero, List.set_cons_succ]
    obtain ⟨w7, rfl⟩ : ∃ w7 : World, w7 = wr := ⟨_, rfl⟩
    have HS' := Lib.hid (HS'.out.old hB)
    have hb7 := hB
    have HAL8 : Hid (∀ wr, Below w7.heap.size w7 wr → Calls Tryd.prog 17 #[.slice (some ⟨lb, lo, none⟩) (m + 1) lc] wr fun r w' => ∃ v, r = .returned v ∧ RowsAt ((l.map EventV.sig).take (m + 1)) v w' ∧ Below wr.heap.size wr w') := Lib.hid fun wr h => HAL8'.out wr (hb7.trans (h.mono hb7.size))
    have kx3 := kx2.old hB
    clear hB x0 x1
    have x0 := kx3.cell 0
    have x1 := kx3.cell 1
    go_wp2_with fail
    refine wp_region_b (by kernel_rfl) (fun qk => (ecR8 l lb lo lc m s' wx 21).getD qk .any) (by kernel_rfl) ?_ ?_
    · refine BOk.cons rfl [] [5] rfl rfl (by kernel_rfl) (by kernel_rfl) (fun qK qa wr hB qO qF hK => ?_) ?_
      · have e5 : qa.tmps[5]? = some (.pointer (some ⟨wx, 0, none⟩)) := qO.1.trans rfl
        clear qO qF
        have hx0 := (bcell hB _ _ (World.block_lt_of_cell? _ _ x0)).trans x0
        have hx1 := (bcell hB _ _ (World.block_lt_of_cell? _ _ x1)).trans x1
        go_simp
        exact hK _ _ (Below.refl _ _) rfl
      refine BOk.cons rfl [] [1] rfl rfl (by kernel_rfl) (by kernel_rfl) (fun qK qa wr hB qO qF hK => ?_) ?_
      · have e1 : qa.tmps[1]? = some (.slice (some ⟨lb, lo, none⟩) l.length lc) := qO.1.trans rfl
        clear qO qF
        go_simp
        exact hK _ _ (Below.refl _ _) rfl
      refine BOk.cons rfl [] [6] rfl rfl (by kernel_rfl) (by kernel_rfl) (fun qK qa wr hB qO qF hK => ?_) ?_
      · have e6 : qa.tmps[6]? = some (.int .i64 (m : Nat)) := qO.1.trans rfl
        clear qO qF
        go_simp
        exact hK _ _ (Below.refl _ _) rfl
      refine BOk.cons rfl [2] [] rfl rfl (by kernel_rfl) (by kernel_rfl) (fun qK qa wr hB qO qF hK => ?_) ?_
      · have e48 : qa.tmps[48]? = some (.int .i64 (m : Nat)) := fis qF.1 rfl rfl
        clear qO qF
        go_simp
        exact hK _ _ (Below.refl _ _) (by show (_ : Value) = _; first | rfl | (simp; done) | exact congrArg (Value.int .i64) (IntWalk.i64_in _ (by omega)))
      refine BOk.cons rfl [1, 3] [] rfl rfl (by kernel_rfl) (by kernel_rfl) (fun qK qa wr hB qO qF hK => ?_) ?_
      · have e47 : qa.tmps[47]? = some (.slice (some ⟨lb, lo, none⟩) l.length lc) := fis qF.1 rfl rfl
        have e49 : qa.tmps[49]? = some (.int .i64 ((m + 1 : Nat) : Int)) := fis qF.2.1 rfl rfl
        clear qO qF
        go_simp
        exact hK _ _ (Below.refl _ _) (by show (_ : Value) = _; first | rfl | (simp; done) | (congr 1; omega))
      refine BOk.cons rfl [4] [] rfl rfl (by kernel_rfl) (by kernel_rfl) (fun qK qa wr hB qO qF hK => ?_) ?_
      · have e50 : qa.tmps[50]? = some (.slice (some ⟨lb, lo, none⟩) (m + 1) lc) := fis qF.1 rfl rfl
        clear qO qF
        go_simp
        go_at_call 17
        refine (HAL8.out _ hB).mono ?_
        rintro e9 w9 ⟨v9, rfl, hat, hb9⟩
        exact hK _ _ hb9 hat
      refine BOk.cons rfl [0, 5] [] rfl rfl (by kernel_rfl) (by kernel_rfl) (fun qK qa wr hB qO qF hK => ?_) ?_
      · have e46 : qa.tmps[46]? = some (.agg #[.slice s'.ta s'.types.length s'.tc, .slice s'.sa s'.syms.length s'.sc]) := fis qF.1 rfl rfl
        obtain ⟨u51, e51, r5⟩ := qF.2.1
        obtain ⟨A51, c51, q51, h51, hsg51, hln51, hrd51, hok51⟩ := (show RowsAt _ u51 wr from r5)
        subst h51
        have e51 : qa.tmps[51]? = some (.slice A51 q51.length c51) := e51
        clear qO qF
        go_simp
        go_at_call 16
        refine (pscript_any s' q51 A51 c51 wr (HS'.out.old hB) hrd51 hln51 hok51).mono ?_
        rw [hsg51, HTY.out.1, HTY.out.2, HC1.out]
        rintro e9 w9 ⟨rfl, hb9⟩
        exact hK _ _ hb9 rfl
      refine BOk.cons rfl [6] [] rfl rfl (by kernel_rfl) (by kernel_rfl) (fun qK qa wr hB qO qF hK => ?_) ?_
      · have e52 : qa.tmps[52]? = some (.tuple #[.int .i64 (m : Nat), .int .i64 21]) := fis qF.1 rfl rfl
        clear qO qF
        go_simp
        exact hK _ _ (Below.refl _ _) rfl
      refine BOk.cons rfl [7] [] rfl rfl (by kernel_rfl) (by kernel_rfl) (fun qK qa wr hB qO qF hK => ?_) ?_
      · have e45 : qa.tmps[45]? = some (.tuple #[.int .i64 (m : Nat), .int .i64 21]) := fis qF.1 rfl rfl
        clear qO qF
        go_simp
        exact hK _ _ (Below.refl _ _) rfl
      refine BOk.cons rfl [7] [] rfl rfl (by kernel_rfl) (by kernel_rfl) (fun qK qa wr hB qO qF hK => ?_) ?_
      · have e45 : qa.tmps[45]? = some (.tuple #[.int .i64 (m : Nat), .int .i64 21]) := fis qF.1 rfl rfl
        clear qO qF
        go_simp
        exact hK _ _ (Below.refl _ _) rfl
      refine BOk.cons rfl [8] [] rfl rfl (by kernel_rfl) (by kernel_rfl) (fun qK qa wr hB qO qF hK => ?_) ?_
      · have e53 : qa.tmps[53]? = some (.int .i64 (m : Nat)) := fis qF.1 rfl rfl
        clear qO qF
        go_simp
        exact hK _ _ (Below.refl _ _) rfl
      refine BOk.cons rfl [9] [] rfl rfl (by kernel_rfl) (by kernel_rfl) (fun qK qa wr hB qO qF hK => ?_) ?_
      · have e54 : qa.tmps[54]? = some (.int .i64 21) := fis qF.1 rfl rfl
        clear qO qF
        go_simp
        exact hK _ _ (Below.refl _ _) rfl
      exact BOk.nil
    intro vals wr hl hB hR
    match vals, hl with
    | [z46, z47, z48, z49, z50, z51, z52, z45, z53, z54, z10, z11], _ =>
    have r10 : z10 = .int .i64 (m : Nat) := hR 10 _ rfl
    subst r10
    have r11 : z11 = .int .i64 21 := hR 11 _ rfl
    subst r11
    clear hR
    simp only [List.cons_append, List.nil_append, putAll, Act.put, List.setIfInBounds_toArray, List.set_cons_zero, List.set_cons_succ]
    obtain ⟨w8, rfl⟩ : ∃ w8 : World, w8 = wr := ⟨_, rfl⟩
    have HS' := Lib.hid (HS'.out.old hB)
    have hb8 := hb7.trans (hB.mono hb7.size)
    have hbe8 := hbe2.trans (hb8.mono hbe2.size)
    have HT := Lib.hid (HT0.out.old hbe8)
    have HTE : Hid (∀ wr, Below w8.heap.size w8 wr → Calls Tryd.prog 12 #[x.val] wr fun r w' => ∃ v, r = .returned v ∧ EvAt x.sig v w' ∧ Below wr.heap.size wr w') := Lib.hid fun wr h => eTo_any x wr ((HX.out.old hb8).old h)
    unfold EventV.val at HTE
    have kx4 := kx3.old hB
    have hx0 := (bcell hb8 _ _ (World.block_lt_of_cell? _ _ hx0)).trans hx0
    have hx1 := (bcell hb8 _ _ (World.block_lt_of_cell? _ _ hx1)).trans hx1
    have hx2 := (bcell hb8 _ _ (World.block_lt_of_cell? _ _ hx2)).trans hx2
    clear hB x0 x1
    have x0 := kx4.cell 0
    have x1 := kx4.cell 1
    go_wp2_with fail
    refine wp_region_b (by kernel_rfl) (fun qk => (ecR9b l lb lo lc m s' wx x).getD qk .any) (by kernel_rfl) ?_ ?_
    · refine BOk.cons rfl [] [] rfl rfl (by kernel_rfl) (by kernel_rfl) (fun qK qa wr hB qO qF hK => ?_) ?_
      · clear qO qF
        go_simp
        go_at_call 10
        refine (awake_any _ (HT.out.old hB)).mono ?_
        rintro e9 w9 ⟨rfl, hb9⟩
        exact hK _ _ hb9 rfl
      refine BOk.cons rfl [0] [] rfl rfl (by kernel_rfl) (by kernel_rfl) (fun qK qa wr hB qO qF hK => ?_) ?_
      · have e55 : qa.tmps[55]? = some (.bool true) := fis qF.1 rfl rfl
        clear qO qF
        go_simp
        exact hK _ _ (Below.refl _ _) (by first | rfl | (show (_ : Value) = _; simp_all; done))
      refine BOk.yes rfl [] [9] rfl 1 true rfl rfl rfl (by kernel_rfl) (by kernel_rfl) (by kernel_rfl) (fun qK qa wr hB qO qF hK => ?_) ?_
      · have e9 : qa.tmps[9]? = some (.int .i64 0) := qO.1.trans rfl
        clear qO qF
        go_simp
        exact hK _ _ (Below.refl _ _) rfl
      refine BOk.yes rfl [2] [] rfl 1 true rfl rfl rfl (by kernel_rfl) (by kernel_rfl) (by kernel_rfl) (fun qK qa wr hB qO qF hK => ?_) ?_
      · have e57 : qa.tmps[57]? = some (.int .i64 0) := fis qF.1 rfl rfl
        clear qO qF
        go_simp
        exact hK _ _ (Below.refl _ _) (by show (_ : Value) = _; first | rfl | (simp; done))
      refine BOk.cons rfl [1, 3] [] rfl rfl (by kernel_rfl) (by kernel_rfl) (fun qK qa wr hB qO qF hK => ?_) ?_
      · have e56 : qa.tmps[56]? = some (.bool true) := fis qF.1 rfl rfl
        have e58 : qa.tmps[58]? = some (.bool true) := fis qF.2.1 rfl rfl
        clear qO qF
        go_simp
        refine hK _ _ (Below.refl _ _) ?_
        show (_ : Value) = _
        first | rfl | (simp; done) | (simp; omega)
      refine BOk.cons rfl [4] [] rfl rfl (by kernel_rfl) (by kernel_rfl) (fun qK qa wr hB qO qF hK => ?_) ?_
      · have e59 : qa.tmps[59]? = some (.bool true) := fis qF.1 rfl rfl
        clear qO qF
        go_simp
        exact hK _ _ (Below.refl _ _) (by first | rfl | (show (_ : Value) = _; simp_all; done))
      refine BOk.yes rfl [] [10] rfl 5 true rfl rfl rfl (by kernel_rfl) (by kernel_rfl) (by kernel_rfl) (fun qK qa wr hB qO qF hK => ?_) ?_
      · have e10 : qa.tmps[10]? = some (.int .i64 (m : Nat)) := qO.1.trans rfl
        clear qO qF
        go_simp
        exact hK _ _ (Below.refl _ _) rfl
      refine BOk.yes rfl [] [6] rfl 5 true rfl rfl rfl (by kernel_rfl) (by kernel_rfl) (by kernel_rfl) (fun qK qa wr hB qO qF hK => ?_) ?_
      · have e6 : qa.tmps[6]? = some (.int .i64 (m : Nat)) := qO.1.trans rfl
        clear qO qF
        go_simp
        exact hK _ _ (Below.refl _ _) rfl
      refine BOk.yes rfl [6, 7] [] rfl 5 true rfl rfl rfl (by kernel_rfl) (by kernel_rfl) (by kernel_rfl) (fun qK qa wr hB qO qF hK => ?_) ?_
      · have e61 : qa.tmps[61]? = some (.int .i64 (m : Nat)) := fis qF.1 rfl rfl
        have e62 : qa.tmps[62]? = some (.int .i64 (m : Nat)) := fis qF.2.1 rfl rfl
        clear qO qF
        go_simp
        refine hK _ _ (Below.refl _ _) ?_
        show (_ : Value) = _
        first | rfl | (simp; done) | (simp; omega)
      refine BOk.cons rfl [5, 8] [] rfl rfl (by kernel_rfl) (by kernel_rfl) (fun qK qa wr hB qO qF hK => ?_) ?_
      · have e60 : qa.tmps[60]? = some (.bool true) := fis qF.1 rfl rfl
        have e63 : qa.tmps[63]? = some (.bool true) := fis qF.2.1 rfl rfl
        clear qO qF
        go_simp
        refine hK _ _ (Below.refl _ _) ?_
        show (_ : Value) = _
        first | rfl | (simp; done) | (simp; omega)
      refine BOk.cons rfl [9] [] rfl rfl (by kernel_rfl) (by kernel_rfl) (fun qK qa wr hB qO qF hK => ?_) ?_
      · have e64 : qa.tmps[64]? = some (.bool true) := fis qF.1 rfl rfl
        clear qO qF
        go_simp
        exact hK _ _ (Below.refl _ _) (by first | rfl | (show (_ : Value) = _; simp_all; done))
      refine BOk.yes rfl [] [11] rfl 10 true rfl rfl rfl (by kernel_rfl) (by kernel_rfl) (by kernel_rfl) (fun qK qa wr hB qO qF hK => ?_) ?_
      · have e11 : qa.tmps[11]? = some (.int .i64 21) := qO.1.trans rfl
        clear qO qF
        go_simp
        exact hK _ _ (Below.refl _ _) rfl
      refine BOk.yes rfl [] [7] rfl 10 true rfl rfl rfl (by kernel_rfl) (by kernel_rfl) (by kernel_rfl) (fun qK qa wr hB qO qF hK => ?_) ?_
      · have e7 : qa.tmps[7]? = some (.int .i64 21) := qO.1.trans rfl
        clear qO qF
        go_simp
        exact hK _ _ (Below.refl _ _) rfl
      refine BOk.yes rfl [11, 12] [] rfl 10 true rfl rfl rfl (by kernel_rfl) (by kernel_rfl) (by kernel_rfl) (fun qK qa wr hB qO qF hK => ?_) ?_
      · have e66 : qa.tmps[66]? = some (.int .i64 21) := fis qF.1 rfl rfl
        have e67 : qa.tmps[67]? = some (.int .i64 21) := fis qF.2.1 rfl rfl
        clear qO qF
        go_simp
        refine hK _ _ (Below.refl _ _) ?_
        show (_ : Value) = _
        first | rfl | (simp; done) | (simp; omega)
      refine BOk.cons rfl [10, 13] [] rfl rfl (by kernel_rfl) (by kernel_rfl) (fun qK qa wr hB qO qF hK => ?_) ?_
      · have e65 : qa.tmps[65]? = some (.bool true) := fis qF.1 rfl rfl
        have e68 : qa.tmps[68]? = some (.bool true) := fis qF.2.1 rfl rfl
        clear qO qF
        go_simp
        refine hK _ _ (Below.refl _ _) ?_
        show (_ : Value) = _
        first | rfl | (simp; done) | (simp; omega)
      refine BOk.cons rfl [14] [] rfl rfl (by kernel_rfl) (by kernel_rfl) (fun qK qa wr hB qO qF hK => ?_) ?_
      · have e69 : qa.tmps[69]? = some (.bool true) := fis qF.1 rfl rfl
        clear qO qF
        go_simp
        exact hK _ _ (Below.refl _ _) (by first | rfl | (show (_ : Value) = _; simp_all; done))
      refine BOk.yes rfl [] [7] rfl 15 true rfl rfl rfl (by kernel_rfl) (by kernel_rfl) (by kernel_rfl) (fun qK qa wr hB qO qF hK => ?_) ?_
      · have e7 : qa.tmps[7]? = some (.int .i64 21) := qO.1.trans rfl
        clear qO qF
        go_simp
        exact hK _ _ (Below.refl _ _) rfl
      refine BOk.yes rfl [16] [] rfl 15 true rfl rfl rfl (by kernel_rfl) (by kernel_rfl) (by kernel_rfl) (fun qK qa wr hB qO qF hK => ?_) ?_
      · have e71 : qa.tmps[71]? = some (.int .i64 21) := fis qF.1 rfl rfl
        clear qO qF
        go_simp
        refine hK _ _ (Below.refl _ _) ?_
        show (_ : Value) = _
        first | rfl | (simp; done) | (simp; omega)
      refine BOk.yes rfl [] [5] rfl 15 true rfl rfl rfl (by kernel_rfl) (by kernel_rfl) (by kernel_rfl) (fun qK qa wr hB qO qF hK => ?_) ?_
      · have e5 : qa.tmps[5]? = some (.pointer (some ⟨wx, 0, none⟩)) := qO.1.trans rfl
        clear qO qF
        have hx0 := (bcell hB _ _ (World.block_lt_of_cell? _ _ x0)).trans x0
        have hx1 := (bcell hB _ _ (World.block_lt_of_cell? _ _ x1)).trans x1
        go_simp
        exact hK _ _ (Below.refl _ _) rfl
      refine BOk.yes rfl [] [1] rfl 15 true rfl rfl rfl (by kernel_rfl) (by kernel_rfl) (by kernel_rfl) (fun qK qa wr hB qO qF hK => ?_) ?_
      · have e1 : qa.tmps[1]? = some (.slice (some ⟨lb, lo, none⟩) l.length lc) := qO.1.trans rfl
        clear qO qF
        go_simp
        exact hK _ _ (Below.refl _ _) rfl
      refine BOk.yes rfl [] [6] rfl 15 true rfl rfl rfl (by kernel_rfl) (by kernel_rfl) (by kernel_rfl) (fun qK qa wr hB qO qF hK => ?_) ?_
      · have e6 : qa.tmps[6]? = some (.int .i64 (m : Nat)) := qO.1.trans rfl
        clear qO qF
        go_simp
        exact hK _ _ (Below.refl _ _) rfl
      refine BOk.yes rfl [19, 20] [] rfl 15 true rfl rfl rfl (by kernel_rfl) (by kernel_rfl) (by kernel_rfl) (fun qK qa wr hB qO qF hK => ?_) ?_
      · have e74 : qa.tmps[74]? = some (.slice (some ⟨lb, lo, none⟩) l.length lc) := fis qF.1 rfl rfl
        have e75 : qa.tmps[75]? = some (.int .i64 (m : Nat)) := fis qF.2.1 rfl rfl
        clear qO qF
        go_simp
        exact hK _ _ (Below.refl _ _) rfl
      refine BOk.yes rfl [21] [] rfl 15 true rfl rfl rfl (by kernel_rfl) (by kernel_rfl) (by kernel_rfl) (fun qK qa wr hB qO qF hK => ?_) ?_
      · have e76 : qa.tmps[76]? = some (.pointer (some ⟨lb, lo + m * 3, none⟩)) := fis qF.1 rfl rfl
        clear qO qF
        have hhx0 := (bcell hB _ _ (World.block_lt_of_cell? _ _ hx0)).trans hx0
        have hhx1 := (bcell hB _ _ (World.block_lt_of_cell? _ _ hx1)).trans hx1
        have hhx2 := (bcell hB _ _ (World.block_lt_of_cell? _ _ hx2)).trans hx2
        go_simp
        exact hK _ _ (Below.refl _ _) rfl
      refine BOk.yes rfl [22] [] rfl 15 true rfl rfl rfl (by kernel_rfl) (by kernel_rfl) (by kernel_rfl) (fun qK qa wr hB qO qF hK => ?_) ?_
      · have e77 : qa.tmps[77]? = some (.agg #[.int .i64 x.type, .int .i64 x.time, .slice x.A x.attrs.length x.c]) := fis qF.1 rfl rfl
        clear qO qF
        go_simp
        go_at_call 12
        refine (HTE.out _ hB).mono ?_
        rintro e9 w9 ⟨v9, rfl, hat, hb9⟩
        exact hK _ _ hb9 hat
      refine BOk.yes rfl [18, 23] [] rfl 15 true rfl rfl rfl (by kernel_rfl) (by kernel_rfl) (by kernel_rfl) (fun qK qa wr hB qO qF hK => ?_) ?_
      · have e73 : qa.tmps[73]? = some (.agg #[.slice s'.ta s'.types.length s'.tc, .slice s'.sa s'.syms.length s'.sc]) := fis qF.1 rfl rfl
        obtain ⟨u78, e78, r23⟩ := qF.2.1
        obtain ⟨q78, h78, he78, hx78⟩ := (show EvAt _ u78 wr from r23)
        subst h78
        have e78 : qa.tmps[78]? = some q78.val := e78
        clear qO qF
        go_simp
        go_at_call 19
        refine (pvalid_any s' q78 wr (HS'.out.old hB) he78).mono ?_
        rw [hx78, HTY.out.1, HTY.out.2, HV.out]
        rintro e9 w9 ⟨rfl, hb9⟩
        exact hK _ _ hb9 rfl
      refine BOk.yes rfl [24] [] rfl 15 true rfl rfl rfl (by kernel_rfl) (by kernel_rfl) (by kernel_rfl) (fun qK qa wr hB qO qF hK => ?_) ?_
      · have e79 : qa.tmps[79]? = some (.bool true) := fis qF.1 rfl rfl
        clear qO qF
        go_simp
        exact hK _ _ (Below.refl _ _) rfl
      refine BOk.yes rfl [17, 25] [] rfl 15 true rfl rfl rfl (by kernel_rfl) (by kernel_rfl) (by kernel_rfl) (fun qK qa wr hB qO qF hK => ?_) ?_
      · have e72 : qa.tmps[72]? = some (.bool false) := fis qF.1 rfl rfl
        have e80 : qa.tmps[80]? = some (.bool false) := fis qF.2.1 rfl rfl
        clear qO qF
        go_simp
        exact hK _ _ (Below.refl _ _) (by show (_ : Value) = _; first | rfl | (simp; done))
      refine BOk.cons rfl [15, 26] [] rfl rfl (by kernel_rfl) (by kernel_rfl) (fun qK qa wr hB qO qF hK => ?_) ?_
      · have e70 : qa.tmps[70]? = some (.bool true) := fis qF.1 rfl rfl
        have e81 : qa.tmps[81]? = some (.bool true) := fis qF.2.1 rfl rfl
        clear qO qF
        go_simp
        refine hK _ _ (Below.refl _ _) ?_
        show (_ : Value) = _
        first | rfl | (simp; done) | (simp; omega)
      refine BOk.cons rfl [27] [] rfl rfl (by kernel_rfl) (by kernel_rfl) (fun qK qa wr hB qO qF hK => ?_) ?_
      · have e82 : qa.tmps[82]? = some (.bool true) := fis qF.1 rfl rfl
        clear qO qF
        go_simp
        exact hK _ _ (Below.refl _ _) (by first | rfl | (show (_ : Value) = _; simp_all; done))
      exact BOk.nil
    intro vals wr hl hB hR
    match vals, hl with
    | [t55, t56, t57, t58, t59, t60, t61, t62, t63, t64, t65, t66, t67, t68, t69, t70, t71, t72, t73, t74, t75, t76, t77, t78, t79, t80, t81, t82, t4], _ =>
    have r28 : t4 = .bool true := hR 28 _ rfl
    subst r28
    clear hR
    simp only [List.cons_append, List.nil_append, putAll, Act.put, List.setIfInBounds_toArray, List.set_cons_zero, List.set_cons_succ]
    have hfin := hbe8.trans (hB.mono hbe8.size)
    clear hB
    go_wp2
    go_ret
    exact ⟨rfl, hfin⟩

theorem laid_met (os : Os) : laidMet Tryd.prog Rows.eventCutsRow.laid ((laidWorld os #[.agg #[.slice none 0 0, .slice none 0 0], .slice none 0 0]).forCall (fun _ _ => 0) ⟨#[], #[.agg #[.slice none 0 0, .slice none 0 0], .slice none 0 0], []⟩).memory := laidMet_of_run' 8 (by kernel_rfl) (by kernel_rfl)
theorem reads (os : Os) {H : Type} (enc : TypeId × Value → H) : ∃ places, DataW.whole enc Tryd.prog ((laidWorld os #[.agg #[.slice none 0 0, .slice none 0 0], .slice none 0 0]).forCall (fun _ _ => 0) ⟨#[], #[.agg #[.slice none 0 0, .slice none 0 0], .slice none 0 0], []⟩).memory Tryd.f6.params.toList Rows.eventCutsSpec.vars false (#[.agg #[.slice none 0 0, .slice none 0 0], .slice none 0 0] : Array Value).toList 8 = some ([.agg [.nil, .nil], .nil], [], places) := ⟨[], by kernel_rfl⟩
theorem rec0 : (Tryd.f6.params.toList.all fun t => Tryd.prog.readableRec t && decide (t < Tryd.prog.types.size)) = true := by kernel_rfl
set_option maxRecDepth 100000 in
theorem lifted (os : Os) (started : os.Started) (H : Type) (enc : TypeId × Value → H) (F : Stop.Interp) :
    ReturnsInHanded {} Tryd.checked os 6 .any ((OpenSpec.ofChange Rows.eventCutsSpec).preRow enc Tryd.prog Tryd.f6 Rows.eventCutsRow.domain false Rows.eventCutsRow.laid) (((OpenSpec.ofChange Rows.eventCutsSpec).at F).post enc Tryd.prog Tryd.f6 false true false false) := by
  obtain ⟨places, hx⟩ := reads os enc
  refine law_stepC (C := Tryd.checked) (s := Rows.eventCutsSpec) (tb := 4) own started (by kernel_rfl) Tryd.func6
    (witness_row_at (enc := enc) (C := Tryd.checked) false (laidWorld os #[.agg #[.slice none 0 0, .slice none 0 0], .slice none 0 0]) #[.agg #[.slice none 0 0, .slice none 0 0], .slice none 0 0] rfl (by kernel_rfl) (by kernel_rfl) (by kernel_rfl)
      (OpenSpec.preRow_of_cond 8 hx (by kernel_rfl) (fun k hk => by cases hk) (by kernel_rfl) (laid_met os))) laidOut ?_ rfl Tryd.underlying4 rfl ?_ ?_
  · intro t ht
    have := List.all_eq_true.1 rec0 t ht
    simp only [Bool.and_eq_true, decide_eq_true_eq] at this
    exact this
  · intro ds hd
    match ds, hd with
    | [d0, d1], _ => exact ⟨rfl, rfl, rfl⟩
  intro W base args ds p hval hA hsz hL hsh
  have htab := tab_of hL
  rw [Tryd.params6] at hA hval hsz
  obtain ⟨v0, vs0, d0, ds0, p0, q0, hargs, rfl, rfl, h0, r0⟩ := trodAll_cons hA
  obtain ⟨v1, vs1, d1, ds1, p1, q1, rfl, rfl, rfl, h1, r1⟩ := trodAll_cons r0
  obtain ⟨rfl, rfl, rfl⟩ := trodAll_nil r1
  obtain rfl : args = #[v0, v1] := by cases args; simp_all
  obtain ⟨s0, rfl, hs0⟩ := open_schema (hval 0 29 v0 rfl rfl) h0 (weights_each (i := 0) hsz rfl rfl)
  obtain ⟨A1, c1, l1, rfl, hl1, hr1, hq1⟩ := open_events2 (hval 1 51 v1 rfl rfl) h1 (weights_each (i := 1) hsz rfl rfl)
  exact walk W htab s0 hs0 A1 c1 l1 hl1 hr1 hq1

theorem said : Rows.EventCutsSaid :=
  OpenClaim.holds_of_cond 6 Tryd.f6 rfl rfl rfl rfl rfl rfl rfl ⟨rfl, rfl, rfl, rfl, rfl⟩ rfl rfl rfl rfl rfl (by kernel_rfl) Tryd.func6 (by kernel_rfl)
    (of_decide_eq_true (by kernel_rfl)) (by unfold Func.isWrapper; first | (rw [if_pos (by decide +kernel)]; kernel_rfl) | (rw [if_neg (by decide +kernel)]; exact ⟨rfl, rfl⟩))
    (fun os started H enc _ F => by rw [OpenClaim.pre_eq_preRow]; exact lifted os started H enc F)
theorem noStand : (Tryd.f6.params.toList.all fun t => !(Tryd.prog.wantsStandIn t)) = true := by kernel_rfl
theorem plain (f : FuncId) (fn : Func) (hf : Tryd.pinned.checked.prog.funcNamed "auspice/auspicelaw04.EventCuts" = some f) (hfn : Tryd.pinned.checked.prog.funcs[f]? = some fn) :
    true = Tryd.pinned.checked.prog.looks [] ∧ ∀ (j : Nat) t, fn.params[j]? = some t → Tryd.pinned.checked.prog.wantsStandIn t = false := by
  obtain rfl : f = 6 := Option.some.inj ((show Tryd.prog.funcNamed "auspice/auspicelaw04.EventCuts" = some 6 by kernel_rfl).symm.trans hf) |>.symm
  obtain rfl : fn = Tryd.f6 := (Option.some.inj (Tryd.func6.symm.trans hfn)).symm
  refine ⟨by kernel_rfl, fun j t ht => ?_⟩
  have hm : t ∈ Tryd.f6.params.toList := by rw [Array.mem_toList_iff]; exact Array.mem_of_getElem? ht
  have := List.all_eq_true.1 noStand t hm
  exact (by simpa using this : Tryd.prog.wantsStandIn t = false)
theorem eventCuts_holds : Rows.EventCutsCardSaid :=
  Claim7.holds_tied_plain_at .later [] _ _ _ _ said (fun _ h => by cases h) (by kernel_rfl) (fun _ h => by cases h) eventCuts_row_tie rfl ⟨rfl, rfl⟩ (by kernel_rfl) rfl plain (by kernel_rfl)
#print axioms eventCuts_holds
end Go.Proofs.YtpakcicbojbonaaDoor.eventCuts
