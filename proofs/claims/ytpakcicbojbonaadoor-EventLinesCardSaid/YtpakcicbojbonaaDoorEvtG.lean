/- Layer 4: the first event of a script that is wrong, by the program and by the document. No conditions. -/
import Derived.Test.YtpakcicbojbonaaDoorEvtF
import Derived.IntWalk
namespace Go.Proofs.YtpakcicbojbonaaDoor
open Go.RowKit
set_option linter.unusedVariables false
set_option linter.unusedSimpArgs false

/-- The time of the event ahead of place k. -/
def prevT (l : List EventV) : Nat → Option Int
  | 0 => none
  | k + 1 => (l[k]?).map (·.time)
theorem prevT_succ (l : List EventV) (k : Nat) : prevT l (k + 1) = (l[k]?).map (·.time) := rfl
def backB (p : Option Int) (x : Int) : Bool := match p with | some t => decide (x < t) | none => false
theorem ite_f {α : Type} (a b : α) : (if false = true then a else b) = b := rfl
theorem ite_t {α : Type} (a b : α) : (if true = true then a else b) = a := rfl
theorem script_step (T : List TSig) (Y : List ByteArray) (l : List EventV) (k : Nat) (h : k < l.length) :
    scriptFrom T Y k (prevT l k) ((l.map EventV.sig).drop k) = if validB T Y l[k].sig = true then (if backB (prevT l k) l[k].time = true then ((k : Int), 21) else scriptFrom T Y (k + 1) (prevT l (k + 1)) ((l.map EventV.sig).drop (k + 1))) else ((k : Int), 20) := by
  rw [List.drop_eq_getElem_cons (by simpa using h)]
  rw [show prevT l (k + 1) = some l[k].time from by rw [prevT_succ, List.getElem?_eq_getElem h]; rfl]
  rw [show (l.map EventV.sig)[k]'(by simpa using h) = l[k].sig from by simp]
  rfl
theorem ret_pair {j k : IntKind} {a b c d : Int} (h : a = b) (h2 : c = d) : Ending.returned (.tuple #[.int j a, .int k c]) = .returned (.tuple #[.int j b, .int k d]) := by rw [h, h2]
theorem schema_old {s : SchemaV} {w w' : World} (h : s.ok w w.heap.size) (hb : Below w.heap.size w w') : s.ok w' w'.heap.size := h.old hb
def pscRz (l : List EventV) (lb lo lc : Nat) (x : EventV) (wl : World) : List Spec := [.is (.int .i64 (0 : Nat)),
  .is (.bool false),
  .is (.bool false),
  .is (undef),
  .is (undef),
  .is (undef),
  .is (undef),
  .is (undef),
  .is (undef),
  .is (undef),
  .is (undef),
  .is (undef),
  .is (.bool false)]
def pscRs (l : List EventV) (lb lo lc m : Nat) (tp : Int) (x : EventV) (wl : World) : List Spec := [.is (.int .i64 ((m + 1 : Nat) : Int)),
  .is (.bool true),
  .is (.bool true),
  .is (.pointer (some ⟨wl.heap.size, 1, none⟩)),
  .is (.int .i64 x.time),
  .is (.slice (some ⟨lb, lo, none⟩) l.length lc),
  .is (.int .i64 ((m + 1 : Nat) : Int)),
  .is (.int .i64 (m : Nat)),
  .is (.pointer (some ⟨lb, lo + m * 3, none⟩)),
  .is (.pointer (some ⟨lb, lo + m * 3 + 1, none⟩)),
  .is (.int .i64 tp),
  .is (.bool (decide (x.time < tp))),
  .is (.bool (decide (x.time < tp)))]

set_option maxRecDepth 100000 in
set_option maxHeartbeats 4000000 in
theorem pscript_any (s : SchemaV) (l : List EventV) (LA : Option Addr) (lc : Nat) (w : World) (hs : s.ok w w.heap.size) (hr : Rd w w.heap.size LA (l.flatMap EventV.cells)) (hl : l.length ≤ 3518437208780) (hok : ∀ e ∈ l, e.ok w w.heap.size) :
    Calls Tryd.prog 16 #[s.val, .slice LA l.length lc] w fun r w' => r = .returned (.tuple #[.int .i64 (scriptB (s.types.map sig) s.syms (l.map EventV.sig)).1, .int .i64 (scriptB (s.types.map sig) s.syms (l.map EventV.sig)).2]) ∧ Below w.heap.size w w' := by
  have HS := Lib.hid hs
  have RD := Lib.hid hr
  have OK := Lib.hid hok
  clear hs hr hok
  generalize hR : scriptB (s.types.map sig) s.syms (l.map EventV.sig) = RES
  have HR0 : Hid (RES = scriptFrom (s.types.map sig) s.syms 0 (prevT l 0) ((l.map EventV.sig).drop 0)) := Lib.hid hR.symm
  clear hR
  obtain ⟨R1, R2⟩ := RES
  unfold SchemaV.val
  go_enter Tryd.func16, Tryd.ntmps16
  go_wp2
  go_loopw [10] (fun i wr => ∃ k : Nat, k ≤ l.length ∧ i = .int .i64 k ∧ Below w.heap.size w wr ∧ Bk wr w.heap.size 48 #[.slice s.ta s.types.length s.tc, .slice s.sa s.syms.length s.sc] ∧ Hid ((R1, R2) = scriptFrom (s.types.map sig) s.syms k (prevT l k) ((l.map EventV.sig).drop k))) (fun i _ => l.length - (intOf i).toNat)
  case atStart => exact ⟨0, Nat.zero_le _, rfl, (Below.refl _ _).alloc (Nat.le_refl _) _, Bk.new _ _ _, HR0⟩
  case round =>
    obtain ⟨k, hk, rfl, hbel, kb, hrec⟩ := hrel
    obtain ⟨wl, rfl⟩ : ∃ wl : World, wl = wr := ⟨_, rfl⟩
    by_cases hlt : k < l.length
    · as_aux_lemma =>
      obtain ⟨lb, lo, rfl, hb, hc⟩ := (RD.out.below hbel).elem (n := 3) (fun _ => rfl) (by omega) hlt
      have hprev : ∀ m tp, k = m + 1 → prevT l k = some tp → wl.cell? ⟨lb, lo + m * 3 + 1, none⟩ = some (.int .i64 tp) := by
        intro m tp hm hp
        subst hm
        have hml : m < l.length := by omega
        obtain ⟨lb2, lo2, h1, _, h2⟩ := (RD.out.below hbel).elem (n := 3) (fun _ => rfl) (by omega) hml
        injection h1 with h1
        injection h1 with h1 h3
        subst h1; subst h3
        have h4 : wl.cell? ⟨lb, lo + m * 3 + 1, none⟩ = some (.int .i64 l[m].time) := h2 1 _ rfl
        rw [prevT_succ, List.getElem?_eq_getElem hml] at hp
        simp only [Option.map_some, Option.some.injEq] at hp
        rw [h4, hp]
      have hx := OK.out l[k] (List.getElem_mem _)
      have hrec2 := hrec.out
      rw [script_step _ _ l k hlt] at hrec2
      have HREC := Lib.hid hrec2
      have HPV := Lib.hid hprev
      clear hrec hrec2 hprev
      generalize l[k] = x at *
      have hx0 : wl.cell? ⟨lb, lo + k * 3, none⟩ = some (.int .i64 x.type) := hc 0 _ rfl
      have hx1 : wl.cell? ⟨lb, lo + k * 3 + 1, none⟩ = some (.int .i64 x.time) := hc 1 _ rfl
      have hx2 : wl.cell? ⟨lb, lo + k * 3 + 2, none⟩ = some (.slice x.A x.attrs.length x.c) := hc 2 _ rfl
      have s0 := kb.cell 0
      have s1 := kb.cell 1
      have hkI : (k : Int) < (l.length : Int) := by omega
      clear hc
      have hbW : Below wl.heap.size wl (wl.alloc (.cells #[.int .i64 x.type, .int .i64 x.time, .slice x.A x.attrs.length x.c] 41)) := (Below.refl _ _).alloc (Nat.le_refl _) _
      have HV := Lib.hid (pvalid_any s x _ (schema_old HS.out (hbel.trans (hbW.mono hbel.size))) (hx.keep (hbel.trans (hbW.mono hbel.size)) (Nat.le_trans hbel.size hbW.size)))
      have kx := Bk.new wl 41 #[.int .i64 x.type, .int .i64 x.time, .slice x.A x.attrs.length x.c]
      have hz := hbel.size
      have hkl := kb.lt
      clear hx
      go_wp2_with fail
      refine HV.out.mono ?_
      rintro r w2 ⟨rfl, hb2⟩
      have hbX : Below wl.heap.size wl w2 := hbW.trans (hb2.mono hbW.size)
      have kx2 := kx.old hb2
      have kb2 := kb.old hbX
      have hbe2 := hbel.trans (hbX.mono hbel.size)
      clear hb2 hbW kx kb hx0 hx1 hx2 s0 s1 HV hbel
      cases hv : validB (s.types.map sig) s.syms x.sig
      · rw [hv, ite_f] at HREC
        have hr1 : R1 = (k : Int) := by have := congrArg Prod.fst HREC.out; exact this
        have hr2 : R2 = 20 := by have := congrArg Prod.snd HREC.out; exact this
        have HR1 := Lib.hid hr1
        have HR2 := Lib.hid hr2
        clear hr1 hr2 hv
        go_wp2
        go_ret2
        exact ⟨ret_pair HR1.out.symm HR2.out.symm, hbe2⟩
      · rw [hv, ite_t] at HREC
        clear hv
        have hpv2 : ∀ m tp, k = m + 1 → prevT l k = some tp → w2.cell? ⟨lb, lo + m * 3 + 1, none⟩ = some (.int .i64 tp) := fun m tp h1 h2 => (bcell hbX _ _ (World.block_lt_of_cell? _ _ (HPV.out m tp h1 h2))).trans (HPV.out m tp h1 h2)
        have HPV2 := Lib.hid hpv2
        have x1 := kx2.cell 1
        clear hpv2 hbX HPV
        go_upto_region 6 with fail
        rcases k with _ | m
        · rw [show backB (prevT l 0) x.time = false from rfl, ite_f] at HREC
          refine wp_region_b (by kernel_rfl) (fun qk => (pscRz l lb lo lc x wl).getD qk .any) (by kernel_rfl) ?_ ?_
          · refine BOk.cons rfl [] [6] rfl rfl (by kernel_rfl) (by kernel_rfl) (fun qK qa wr hB qO qF hK => ?_) ?_
            · have e6 : qa.tmps[6]? = some (.int .i64 (0 : Nat)) := qO.1.trans rfl
              clear qO qF
              go_simp
              exact hK _ _ (Below.refl _ _) rfl
            refine BOk.cons rfl [0] [] rfl rfl (by kernel_rfl) (by kernel_rfl) (fun qK qa wr hB qO qF hK => ?_) ?_
            · have e20 : qa.tmps[20]? = some (.int .i64 (0 : Nat)) := fis qF.1 rfl rfl
              clear qO qF
              go_simp
              exact hK _ _ (Below.refl _ _) (by first | rfl | (show (_ : Value) = _; first | (simp; done) | (congr 1; omega) | exact congrArg (Value.int .i64) (IntWalk.i64_in _ (by omega))))
            refine BOk.cons rfl [1] [] rfl rfl (by kernel_rfl) (by kernel_rfl) (fun qK qa wr hB qO qF hK => ?_) ?_
            · have e21 : qa.tmps[21]? = some (.bool false) := fis qF.1 rfl rfl
              clear qO qF
              go_simp
              exact hK _ _ (Below.refl _ _) (by first | rfl | (show (_ : Value) = _; simp_all; done))
            refine BOk.no rfl rfl 2 true rfl rfl rfl (by kernel_rfl) (fun _ => rfl) ?_
            refine BOk.no rfl rfl 2 true rfl rfl rfl (by kernel_rfl) (fun _ => rfl) ?_
            refine BOk.no rfl rfl 2 true rfl rfl rfl (by kernel_rfl) (fun _ => rfl) ?_
            refine BOk.no rfl rfl 2 true rfl rfl rfl (by kernel_rfl) (fun _ => rfl) ?_
            refine BOk.no rfl rfl 2 true rfl rfl rfl (by kernel_rfl) (fun _ => rfl) ?_
            refine BOk.no rfl rfl 2 true rfl rfl rfl (by kernel_rfl) (fun _ => rfl) ?_
            refine BOk.no rfl rfl 2 true rfl rfl rfl (by kernel_rfl) (fun _ => rfl) ?_
            refine BOk.no rfl rfl 2 true rfl rfl rfl (by kernel_rfl) (fun _ => rfl) ?_
            refine BOk.no rfl rfl 2 true rfl rfl rfl (by kernel_rfl) (fun _ => rfl) ?_
            refine BOk.cons rfl [2] [] rfl rfl (by kernel_rfl) (by kernel_rfl) (fun qK qa wr hB qO qF hK => ?_) ?_
            · have e22 : qa.tmps[22]? = some (.bool false) := fis qF.1 rfl rfl
              clear qO qF
              go_simp
              refine hK _ _ (Below.refl _ _) ?_
              show (_ : Value) = _
              first | rfl | (simp; done) | (simp; omega)
            exact BOk.nil
          intro vals wr hl hB hR
          match vals, hl with
          | [q20, q21, q22, q23, q24, q25, q26, q27, q28, q29, q30, q31, q32], _ =>
          have r12 : q32 = .bool false := hR 12 _ rfl
          subst r12
          clear hR
          simp only [List.cons_append, List.nil_append, putAll, Act.put, List.setIfInBounds_toArray, List.set_cons_zero, List.set_cons_succ]
          have hbe3 := hbe2.trans (hB.mono hbe2.size)
          have kb3 := kb2.old hB
          clear hB
          go_wp2
          go_roundw
          case rel => exact ⟨0 + 1, by omega, by go_num, hbe3, kb3, HREC⟩
          case measure => simp [intOf]; omega
        · obtain ⟨tp, htp⟩ : ∃ tp, prevT l (m + 1) = some tp := by
            rw [prevT_succ, List.getElem?_eq_getElem (by omega : m < l.length)]
            exact ⟨_, rfl⟩
          have p1 := HPV2.out m tp rfl htp
          rw [show backB (prevT l (m + 1)) x.time = decide (x.time < tp) from by rw [htp]; rfl] at HREC
          have hmI : (m : Int) < (l.length : Int) := by omega
          have hmN : m < l.length := by omega
          have hm1 : (m : Int) + 1 < (l.length : Int) := by omega
          have hm0 : (0 : Int) ≤ (m : Int) + 1 := by omega
          clear htp
          refine wp_region_b (by kernel_rfl) (fun qk => (pscRs l lb lo lc m tp x wl).getD qk .any) (by kernel_rfl) ?_ ?_
          · refine BOk.cons rfl [] [6] rfl rfl (by kernel_rfl) (by kernel_rfl) (fun qK qa wr hB qO qF hK => ?_) ?_
            · have e6 : qa.tmps[6]? = some (.int .i64 ((m + 1 : Nat) : Int)) := qO.1.trans rfl
              clear qO qF
              go_simp
              exact hK _ _ (Below.refl _ _) rfl
            refine BOk.cons rfl [0] [] rfl rfl (by kernel_rfl) (by kernel_rfl) (fun qK qa wr hB qO qF hK => ?_) ?_
            · have e20 : qa.tmps[20]? = some (.int .i64 ((m + 1 : Nat) : Int)) := fis qF.1 rfl rfl
              clear qO qF
              go_simp
              exact hK _ _ (Below.refl _ _) (by first | rfl | (show (_ : Value) = _; first | (simp; done) | (congr 1; omega) | exact congrArg (Value.int .i64) (IntWalk.i64_in _ (by omega))))
            refine BOk.cons rfl [1] [] rfl rfl (by kernel_rfl) (by kernel_rfl) (fun qK qa wr hB qO qF hK => ?_) ?_
            · have e21 : qa.tmps[21]? = some (.bool true) := fis qF.1 rfl rfl
              clear qO qF
              go_simp
              exact hK _ _ (Below.refl _ _) (by first | rfl | (show (_ : Value) = _; simp_all; done))
            refine BOk.yes rfl [] [7] rfl 2 true rfl rfl rfl (by kernel_rfl) (by kernel_rfl) (by kernel_rfl) (fun qK qa wr hB qO qF hK => ?_) ?_
            · have e7 : qa.tmps[7]? = some (.pointer (some ⟨wl.heap.size, 0, none⟩)) := qO.1.trans rfl
              clear qO qF
              go_simp
              exact hK _ _ (Below.refl _ _) rfl
            refine BOk.yes rfl [3] [] rfl 2 true rfl rfl rfl (by kernel_rfl) (by kernel_rfl) (by kernel_rfl) (fun qK qa wr hB qO qF hK => ?_) ?_
            · have e23 : qa.tmps[23]? = some (.pointer (some ⟨wl.heap.size, 1, none⟩)) := fis qF.1 rfl rfl
              clear qO qF
              have hx1 := (bcell hB _ _ (World.block_lt_of_cell? _ _ x1)).trans x1
              go_simp
              exact hK _ _ (Below.refl _ _) rfl
            refine BOk.yes rfl [] [1] rfl 2 true rfl rfl rfl (by kernel_rfl) (by kernel_rfl) (by kernel_rfl) (fun qK qa wr hB qO qF hK => ?_) ?_
            · have e1 : qa.tmps[1]? = some (.slice (some ⟨lb, lo, none⟩) l.length lc) := qO.1.trans rfl
              clear qO qF
              go_simp
              exact hK _ _ (Below.refl _ _) rfl
            refine BOk.yes rfl [] [6] rfl 2 true rfl rfl rfl (by kernel_rfl) (by kernel_rfl) (by kernel_rfl) (fun qK qa wr hB qO qF hK => ?_) ?_
            · have e6 : qa.tmps[6]? = some (.int .i64 ((m + 1 : Nat) : Int)) := qO.1.trans rfl
              clear qO qF
              go_simp
              exact hK _ _ (Below.refl _ _) rfl
            refine BOk.yes rfl [6] [] rfl 2 true rfl rfl rfl (by kernel_rfl) (by kernel_rfl) (by kernel_rfl) (fun qK qa wr hB qO qF hK => ?_) ?_
            · have e26 : qa.tmps[26]? = some (.int .i64 ((m + 1 : Nat) : Int)) := fis qF.1 rfl rfl
              clear qO qF
              go_simp
              exact hK _ _ (Below.refl _ _) (by first | rfl | (show (_ : Value) = _; first | (simp; done) | (congr 1; omega) | exact congrArg (Value.int .i64) (IntWalk.i64_in _ (by omega))))
            refine BOk.yes rfl [5, 7] [] rfl 2 true rfl rfl rfl (by kernel_rfl) (by kernel_rfl) (by kernel_rfl) (fun qK qa wr hB qO qF hK => ?_) ?_
            · have e25 : qa.tmps[25]? = some (.slice (some ⟨lb, lo, none⟩) l.length lc) := fis qF.1 rfl rfl
              have e27 : qa.tmps[27]? = some (.int .i64 (m : Nat)) := fis qF.2.1 rfl rfl
              clear qO qF
              go_simp
              exact hK _ _ (Below.refl _ _) rfl
            refine BOk.yes rfl [8] [] rfl 2 true rfl rfl rfl (by kernel_rfl) (by kernel_rfl) (by kernel_rfl) (fun qK qa wr hB qO qF hK => ?_) ?_
            · have e28 : qa.tmps[28]? = some (.pointer (some ⟨lb, lo + m * 3, none⟩)) := fis qF.1 rfl rfl
              clear qO qF
              go_simp
              exact hK _ _ (Below.refl _ _) rfl
            refine BOk.yes rfl [9] [] rfl 2 true rfl rfl rfl (by kernel_rfl) (by kernel_rfl) (by kernel_rfl) (fun qK qa wr hB qO qF hK => ?_) ?_
            · have e29 : qa.tmps[29]? = some (.pointer (some ⟨lb, lo + m * 3 + 1, none⟩)) := fis qF.1 rfl rfl
              clear qO qF
              have hp1 := (bcell hB _ _ (World.block_lt_of_cell? _ _ p1)).trans p1
              go_simp
              exact hK _ _ (Below.refl _ _) rfl
            refine BOk.yes rfl [4, 10] [] rfl 2 true rfl rfl rfl (by kernel_rfl) (by kernel_rfl) (by kernel_rfl) (fun qK qa wr hB qO qF hK => ?_) ?_
            · have e24 : qa.tmps[24]? = some (.int .i64 x.time) := fis qF.1 rfl rfl
              have e30 : qa.tmps[30]? = some (.int .i64 tp) := fis qF.2.1 rfl rfl
              clear qO qF
              go_simp
              refine hK _ _ (Below.refl _ _) ?_
              show (_ : Value) = _
              first | rfl | (simp; done) | (simp; omega) | (congr 1; simp; done) | (congr 1; rw [decide_eq_decide]; omega) | exact congrArg Value.bool (nat_bne _ _) | exact congrArg Value.bool (nat_beq _ _)
            refine BOk.cons rfl [2, 11] [] rfl rfl (by kernel_rfl) (by kernel_rfl) (fun qK qa wr hB qO qF hK => ?_) ?_
            · have e22 : qa.tmps[22]? = some (.bool true) := fis qF.1 rfl rfl
              have e31 : qa.tmps[31]? = some (.bool (decide (x.time < tp))) := fis qF.2.1 rfl rfl
              clear qO qF
              go_simp
              refine hK _ _ (Below.refl _ _) ?_
              show (_ : Value) = _
              first | rfl | (simp; done) | (simp; omega)
            exact BOk.nil
          intro vals wr hl hB hR
          match vals, hl with
          | [q20, q21, q22, q23, q24, q25, q26, q27, q28, q29, q30, q31, q32], _ =>
          have r12 : q32 = .bool (decide (x.time < tp)) := hR 12 _ rfl
          subst r12
          clear hR
          simp only [List.cons_append, List.nil_append, putAll, Act.put, List.setIfInBounds_toArray, List.set_cons_zero, List.set_cons_succ]
          have hbe3 := hbe2.trans (hB.mono hbe2.size)
          have kb3 := kb2.old hB
          clear hB p1
          cases ht : decide (x.time < tp)
          · rw [ht, ite_f] at HREC
            clear ht
            go_wp2
            go_roundw
            case rel => exact ⟨m + 1 + 1, by omega, by go_num, hbe3, kb3, HREC⟩
            case measure => simp [intOf]; omega
          · rw [ht, ite_t] at HREC
            have hr1 : R1 = ((m + 1 : Nat) : Int) := by have := congrArg Prod.fst HREC.out; exact this
            have hr2 : R2 = 21 := by have := congrArg Prod.snd HREC.out; exact this
            have HR1 := Lib.hid hr1
            have HR2 := Lib.hid hr2
            clear hr1 hr2 ht
            go_wp2
            go_ret2
            exact ⟨ret_pair HR1.out.symm HR2.out.symm, hbe3⟩
    · as_aux_lemma =>
      obtain rfl : k = l.length := by omega
      have hend := hrec.out
      rw [List.drop_eq_nil_of_le (by simp)] at hend
      have hr1 : R1 = 0 := by have := congrArg Prod.fst hend; exact this
      have hr2 : R2 = 0 := by have := congrArg Prod.snd hend; exact this
      have HR1 := Lib.hid hr1
      have HR2 := Lib.hid hr2
      clear hrec hend hr1 hr2
      go_wp2
      go_ret2
      exact ⟨ret_pair HR1.out.symm HR2.out.symm, hbel⟩
def rscR4 (s : SchemaV) (l : List EventV) (lb lo lc k : Nat) (x : EventV) (w : World) : List Spec := [.is (.agg #[.slice s.ta s.types.length s.tc, .slice s.sa s.syms.length s.sc]),
  .is (.slice (some ⟨lb, lo, none⟩) l.length lc),
  .is (.int .i64 (k : Nat)),
  .is (.pointer (some ⟨lb, lo + k * 3, none⟩)),
  .is (.agg #[.int .i64 x.type, .int .i64 x.time, .slice x.A x.attrs.length x.c]),
  .is (.bool (validB (s.types.map sig) s.syms x.sig)),
  .is (.bool (!(validB (s.types.map sig) s.syms x.sig)))]
def rscRz (l : List EventV) (lb lo lc : Nat) (x : EventV) (wl : World) : List Spec := [.is (.int .i64 (0 : Nat)),
  .is (.bool false),
  .is (.bool false),
  .is (undef),
  .is (undef),
  .is (undef),
  .is (undef),
  .is (undef),
  .is (undef),
  .is (undef),
  .is (undef),
  .is (undef),
  .is (undef),
  .is (undef),
  .is (undef),
  .is (.bool false)]
def rscRs (l : List EventV) (lb lo lc m : Nat) (tp : Int) (x : EventV) (wl : World) : List Spec := [.is (.int .i64 ((m + 1 : Nat) : Int)),
  .is (.bool true),
  .is (.bool true),
  .is (.slice (some ⟨lb, lo, none⟩) l.length lc),
  .is (.int .i64 ((m + 1 : Nat) : Int)),
  .is (.pointer (some ⟨lb, lo + (m + 1) * 3, none⟩)),
  .is (.pointer (some ⟨lb, lo + (m + 1) * 3 + 1, none⟩)),
  .is (.int .i64 x.time),
  .is (.slice (some ⟨lb, lo, none⟩) l.length lc),
  .is (.int .i64 ((m + 1 : Nat) : Int)),
  .is (.int .i64 (m : Nat)),
  .is (.pointer (some ⟨lb, lo + m * 3, none⟩)),
  .is (.pointer (some ⟨lb, lo + m * 3 + 1, none⟩)),
  .is (.int .i64 tp),
  .is (.bool (decide (x.time < tp))),
  .is (.bool (decide (x.time < tp)))]

set_option maxRecDepth 100000 in
set_option maxHeartbeats 4000000 in
theorem rscript_any (s : SchemaV) (l : List EventV) (LA : Option Addr) (lc : Nat) (w : World) (hs : s.ok w w.heap.size) (hr : Rd w w.heap.size LA (l.flatMap EventV.cells)) (hl : l.length ≤ 3518437208780) (hok : ∀ e ∈ l, e.ok w w.heap.size) :
    Calls Tryd.prog 18 #[s.val, .slice LA l.length lc] w fun r w' => r = .returned (.tuple #[.int .i64 (scriptB (s.types.map sig) s.syms (l.map EventV.sig)).1, .int .i64 (scriptB (s.types.map sig) s.syms (l.map EventV.sig)).2]) ∧ Below w.heap.size w w' := by
  have HS := Lib.hid hs
  have RD := Lib.hid hr
  have OK := Lib.hid hok
  clear hs hr hok
  generalize hR : scriptB (s.types.map sig) s.syms (l.map EventV.sig) = RES
  have HR0 : Hid (RES = scriptFrom (s.types.map sig) s.syms 0 (prevT l 0) ((l.map EventV.sig).drop 0)) := Lib.hid hR.symm
  clear hR
  obtain ⟨R1, R2⟩ := RES
  unfold SchemaV.val
  go_enter Tryd.func18, Tryd.ntmps18
  go_wp2
  go_loopw [9] (fun i wr => ∃ k : Nat, k ≤ l.length ∧ i = .int .i64 k ∧ Below w.heap.size w wr ∧ Bk wr w.heap.size 29 #[.slice s.ta s.types.length s.tc, .slice s.sa s.syms.length s.sc] ∧ Hid ((R1, R2) = scriptFrom (s.types.map sig) s.syms k (prevT l k) ((l.map EventV.sig).drop k))) (fun i _ => l.length - (intOf i).toNat)
  case atStart => exact ⟨0, Nat.zero_le _, rfl, (Below.refl _ _).alloc (Nat.le_refl _) _, Bk.new _ _ _, HR0⟩
  case round =>
    obtain ⟨k, hk, rfl, hbel, kb, hrec⟩ := hrel
    obtain ⟨wl, rfl⟩ : ∃ wl : World, wl = wr := ⟨_, rfl⟩
    by_cases hlt : k < l.length
    · as_aux_lemma =>
      obtain ⟨lb, lo, rfl, hb, hc⟩ := (RD.out.below hbel).elem (n := 3) (fun _ => rfl) (by omega) hlt
      have hprev : ∀ m tp, k = m + 1 → prevT l k = some tp → wl.cell? ⟨lb, lo + m * 3 + 1, none⟩ = some (.int .i64 tp) := by
        intro m tp hm hp
        subst hm
        have hml : m < l.length := by omega
        obtain ⟨lb2, lo2, h1, _, h2⟩ := (RD.out.below hbel).elem (n := 3) (fun _ => rfl) (by omega) hml
        injection h1 with h1
        injection h1 with h1 h3
        subst h1; subst h3
        have h4 : wl.cell? ⟨lb, lo + m * 3 + 1, none⟩ = some (.int .i64 l[m].time) := h2 1 _ rfl
        rw [prevT_succ, List.getElem?_eq_getElem hml] at hp
        simp only [Option.map_some, Option.some.injEq] at hp
        rw [h4, hp]
      have hx := OK.out l[k] (List.getElem_mem _)
      have hrec2 := hrec.out
      rw [script_step _ _ l k hlt] at hrec2
      have HREC := Lib.hid hrec2
      have HPV := Lib.hid hprev
      clear hrec hrec2 hprev
      generalize l[k] = x at *
      have hx0 : wl.cell? ⟨lb, lo + k * 3, none⟩ = some (.int .i64 x.type) := hc 0 _ rfl
      have hx1 : wl.cell? ⟨lb, lo + k * 3 + 1, none⟩ = some (.int .i64 x.time) := hc 1 _ rfl
      have hx2 : wl.cell? ⟨lb, lo + k * 3 + 2, none⟩ = some (.slice x.A x.attrs.length x.c) := hc 2 _ rfl
      have s0 := kb.cell 0
      have s1 := kb.cell 1
      have hkI : (k : Int) < (l.length : Int) := by omega
      clear hc
      have HV : Hid (∀ W, Below wl.heap.size wl W → Calls Tryd.prog 13 #[s.val, x.val] W fun r w' => r = .returned (.bool (validB (s.types.map sig) s.syms x.sig)) ∧ Below W.heap.size W w') :=
        Lib.hid fun W hW => rvalid_any s x W (schema_old HS.out (hbel.trans (hW.mono hbel.size))) (hx.keep (hbel.trans (hW.mono hbel.size)) (Nat.le_trans hbel.size hW.size))
      unfold SchemaV.val EventV.val at HV
      have hz := hbel.size
      clear hx
      go_wp2_with fail
      refine wp_region_b (by kernel_rfl) (fun qk => (rscR4 s l lb lo lc k x w).getD qk .any) (by kernel_rfl) ?_ ?_
      · refine BOk.cons rfl [] [2] rfl rfl (by kernel_rfl) (by kernel_rfl) (fun qK qa wr hB qO qF hK => ?_) ?_
        · have e2 : qa.tmps[2]? = some (.pointer (some ⟨w.heap.size, 0, none⟩)) := qO.1.trans rfl
          clear qO qF
          have hs0 := (bcell hB _ _ (World.block_lt_of_cell? _ _ s0)).trans s0
          have hs1 := (bcell hB _ _ (World.block_lt_of_cell? _ _ s1)).trans s1
          go_simp
          exact hK _ _ (Below.refl _ _) rfl
        refine BOk.cons rfl [] [1] rfl rfl (by kernel_rfl) (by kernel_rfl) (fun qK qa wr hB qO qF hK => ?_) ?_
        · have e1 : qa.tmps[1]? = some (.slice (some ⟨lb, lo, none⟩) l.length lc) := qO.1.trans rfl
          clear qO qF
          go_simp
          exact hK _ _ (Below.refl _ _) rfl
        refine BOk.cons rfl [] [6] rfl rfl (by kernel_rfl) (by kernel_rfl) (fun qK qa wr hB qO qF hK => ?_) ?_
        · have e6 : qa.tmps[6]? = some (.int .i64 (k : Nat)) := qO.1.trans rfl
          clear qO qF
          go_simp
          exact hK _ _ (Below.refl _ _) rfl
        refine BOk.cons rfl [1, 2] [] rfl rfl (by kernel_rfl) (by kernel_rfl) (fun qK qa wr hB qO qF hK => ?_) ?_
        · have e13 : qa.tmps[13]? = some (.slice (some ⟨lb, lo, none⟩) l.length lc) := fis qF.1 rfl rfl
          have e14 : qa.tmps[14]? = some (.int .i64 (k : Nat)) := fis qF.2.1 rfl rfl
          clear qO qF
          go_simp
          exact hK _ _ (Below.refl _ _) rfl
        refine BOk.cons rfl [3] [] rfl rfl (by kernel_rfl) (by kernel_rfl) (fun qK qa wr hB qO qF hK => ?_) ?_
        · have e15 : qa.tmps[15]? = some (.pointer (some ⟨lb, lo + k * 3, none⟩)) := fis qF.1 rfl rfl
          clear qO qF
          have hhx0 := (bcell hB _ _ (World.block_lt_of_cell? _ _ hx0)).trans hx0
          have hhx1 := (bcell hB _ _ (World.block_lt_of_cell? _ _ hx1)).trans hx1
          have hhx2 := (bcell hB _ _ (World.block_lt_of_cell? _ _ hx2)).trans hx2
          go_simp
          exact hK _ _ (Below.refl _ _) rfl
        refine BOk.cons rfl [0, 4] [] rfl rfl (by kernel_rfl) (by kernel_rfl) (fun qK qa wr hB qO qF hK => ?_) ?_
        · have e12 : qa.tmps[12]? = some (.agg #[.slice s.ta s.types.length s.tc, .slice s.sa s.syms.length s.sc]) := fis qF.1 rfl rfl
          have e16 : qa.tmps[16]? = some (.agg #[.int .i64 x.type, .int .i64 x.time, .slice x.A x.attrs.length x.c]) := fis qF.2.1 rfl rfl
          clear qO qF
          go_simp
          go_at_call 13
          refine (HV.out _ hB).mono ?_
          rintro e9 w3 ⟨rfl, hb3⟩
          exact hK _ _ hb3 rfl
        refine BOk.cons rfl [5] [] rfl rfl (by kernel_rfl) (by kernel_rfl) (fun qK qa wr hB qO qF hK => ?_) ?_
        · have e17 : qa.tmps[17]? = some (.bool (validB (s.types.map sig) s.syms x.sig)) := fis qF.1 rfl rfl
          clear qO qF
          go_simp
          exact hK _ _ (Below.refl _ _) rfl
        exact BOk.nil
      intro vals wr hl hB hR
      match vals, hl with
      | [y12, y13, y14, y15, y16, y17, y18], _ =>
      have r6 : y18 = .bool (!(validB (s.types.map sig) s.syms x.sig)) := hR 6 _ rfl
      subst r6
      clear hR
      simp only [List.cons_append, List.nil_append, putAll, Act.put, List.setIfInBounds_toArray, List.set_cons_zero, List.set_cons_succ]
      have hbX := hB
      have kb2 := kb.old hbX
      have hbe2 := hbel.trans (hbX.mono hbel.size)
      have x1 := (bcell hbX _ _ (World.block_lt_of_cell? _ _ hx1)).trans hx1
      have hpv2 : ∀ m tp, k = m + 1 → prevT l k = some tp → wr.cell? ⟨lb, lo + m * 3 + 1, none⟩ = some (.int .i64 tp) := fun m tp h1 h2 => (bcell hbX _ _ (World.block_lt_of_cell? _ _ (HPV.out m tp h1 h2))).trans (HPV.out m tp h1 h2)
      have HPV2 := Lib.hid hpv2
      clear hpv2 hbX HPV hB kb hx0 hx1 hx2 s0 s1 HV hbel
      obtain ⟨w2, rfl⟩ : ∃ w2 : World, w2 = wr := ⟨_, rfl⟩
      cases hv : validB (s.types.map sig) s.syms x.sig
      · rw [hv, ite_f] at HREC
        have hr1 : R1 = (k : Int) := by have := congrArg Prod.fst HREC.out; exact this
        have hr2 : R2 = 20 := by have := congrArg Prod.snd HREC.out; exact this
        have HR1 := Lib.hid hr1
        have HR2 := Lib.hid hr2
        clear hr1 hr2 hv
        go_wp2
        go_ret2
        exact ⟨ret_pair HR1.out.symm HR2.out.symm, hbe2⟩
      · rw [hv, ite_t] at HREC
        clear hv
        go_upto_region 6 with fail
        rcases k with _ | m
        · rw [show backB (prevT l 0) x.time = false from rfl, ite_f] at HREC
          refine wp_region_b (by kernel_rfl) (fun qk => (rscRz l lb lo lc x wl).getD qk .any) (by kernel_rfl) ?_ ?_
          · refine BOk.cons rfl [] [6] rfl rfl (by kernel_rfl) (by kernel_rfl) (fun qK qa wr hB qO qF hK => ?_) ?_
            · have e6 : qa.tmps[6]? = some (.int .i64 (0 : Nat)) := qO.1.trans rfl
              clear qO qF
              go_simp
              exact hK _ _ (Below.refl _ _) rfl
            refine BOk.cons rfl [0] [] rfl rfl (by kernel_rfl) (by kernel_rfl) (fun qK qa wr hB qO qF hK => ?_) ?_
            · have e20 : qa.tmps[20]? = some (.int .i64 (0 : Nat)) := fis qF.1 rfl rfl
              clear qO qF
              go_simp
              exact hK _ _ (Below.refl _ _) (by first | rfl | (show (_ : Value) = _; first | (simp; done) | (congr 1; omega) | exact congrArg (Value.int .i64) (IntWalk.i64_in _ (by omega))))
            refine BOk.cons rfl [1] [] rfl rfl (by kernel_rfl) (by kernel_rfl) (fun qK qa wr hB qO qF hK => ?_) ?_
            · have e21 : qa.tmps[21]? = some (.bool false) := fis qF.1 rfl rfl
              clear qO qF
              go_simp
              exact hK _ _ (Below.refl _ _) (by first | rfl | (show (_ : Value) = _; simp_all; done))
            refine BOk.no rfl rfl 2 true rfl rfl rfl (by kernel_rfl) (fun _ => rfl) ?_
            refine BOk.no rfl rfl 2 true rfl rfl rfl (by kernel_rfl) (fun _ => rfl) ?_
            refine BOk.no rfl rfl 2 true rfl rfl rfl (by kernel_rfl) (fun _ => rfl) ?_
            refine BOk.no rfl rfl 2 true rfl rfl rfl (by kernel_rfl) (fun _ => rfl) ?_
            refine BOk.no rfl rfl 2 true rfl rfl rfl (by kernel_rfl) (fun _ => rfl) ?_
            refine BOk.no rfl rfl 2 true rfl rfl rfl (by kernel_rfl) (fun _ => rfl) ?_
            refine BOk.no rfl rfl 2 true rfl rfl rfl (by kernel_rfl) (fun _ => rfl) ?_
            refine BOk.no rfl rfl 2 true rfl rfl rfl (by kernel_rfl) (fun _ => rfl) ?_
            refine BOk.no rfl rfl 2 true rfl rfl rfl (by kernel_rfl) (fun _ => rfl) ?_
            refine BOk.no rfl rfl 2 true rfl rfl rfl (by kernel_rfl) (fun _ => rfl) ?_
            refine BOk.no rfl rfl 2 true rfl rfl rfl (by kernel_rfl) (fun _ => rfl) ?_
            refine BOk.no rfl rfl 2 true rfl rfl rfl (by kernel_rfl) (fun _ => rfl) ?_
            refine BOk.cons rfl [2] [] rfl rfl (by kernel_rfl) (by kernel_rfl) (fun qK qa wr hB qO qF hK => ?_) ?_
            · have e22 : qa.tmps[22]? = some (.bool false) := fis qF.1 rfl rfl
              clear qO qF
              go_simp
              refine hK _ _ (Below.refl _ _) ?_
              show (_ : Value) = _
              first | rfl | (simp; done) | (simp; omega)
            exact BOk.nil
          intro vals wr hl hB hR
          match vals, hl with
          | [q20, q21, q22, q23, q24, q25, q26, q27, q28, q29, q30, q31, q32, q33, q34, q35], _ =>
          have r15 : q35 = .bool false := hR 15 _ rfl
          subst r15
          clear hR
          simp only [List.cons_append, List.nil_append, putAll, Act.put, List.setIfInBounds_toArray, List.set_cons_zero, List.set_cons_succ]
          have hbe3 := hbe2.trans (hB.mono hbe2.size)
          have kb3 := kb2.old hB
          clear hB
          go_wp2
          go_roundw
          case rel => exact ⟨0 + 1, by omega, by go_num, hbe3, kb3, HREC⟩
          case measure => simp [intOf]; omega
        · obtain ⟨tp, htp⟩ : ∃ tp, prevT l (m + 1) = some tp := by
            rw [prevT_succ, List.getElem?_eq_getElem (by omega : m < l.length)]
            exact ⟨_, rfl⟩
          have p1 := HPV2.out m tp rfl htp
          rw [show backB (prevT l (m + 1)) x.time = decide (x.time < tp) from by rw [htp]; rfl] at HREC
          have hmI : (m : Int) < (l.length : Int) := by omega
          have hmN : m < l.length := by omega
          have hm1 : (m : Int) + 1 < (l.length : Int) := by omega
          have hm0 : (0 : Int) ≤ (m : Int) + 1 := by omega
          clear htp
          refine wp_region_b (by kernel_rfl) (fun qk => (rscRs l lb lo lc m tp x wl).getD qk .any) (by kernel_rfl) ?_ ?_
          · refine BOk.cons rfl [] [6] rfl rfl (by kernel_rfl) (by kernel_rfl) (fun qK qa wr hB qO qF hK => ?_) ?_
            · have e6 : qa.tmps[6]? = some (.int .i64 ((m + 1 : Nat) : Int)) := qO.1.trans rfl
              clear qO qF
              go_simp
              exact hK _ _ (Below.refl _ _) rfl
            refine BOk.cons rfl [0] [] rfl rfl (by kernel_rfl) (by kernel_rfl) (fun qK qa wr hB qO qF hK => ?_) ?_
            · have e20 : qa.tmps[20]? = some (.int .i64 ((m + 1 : Nat) : Int)) := fis qF.1 rfl rfl
              clear qO qF
              go_simp
              exact hK _ _ (Below.refl _ _) (by first | rfl | (show (_ : Value) = _; first | (simp; done) | (congr 1; omega) | exact congrArg (Value.int .i64) (IntWalk.i64_in _ (by omega))))
            refine BOk.cons rfl [1] [] rfl rfl (by kernel_rfl) (by kernel_rfl) (fun qK qa wr hB qO qF hK => ?_) ?_
            · have e21 : qa.tmps[21]? = some (.bool true) := fis qF.1 rfl rfl
              clear qO qF
              go_simp
              exact hK _ _ (Below.refl _ _) (by first | rfl | (show (_ : Value) = _; simp_all; done))
            refine BOk.yes rfl [] [1] rfl 2 true rfl rfl rfl (by kernel_rfl) (by kernel_rfl) (by kernel_rfl) (fun qK qa wr hB qO qF hK => ?_) ?_
            · have e1 : qa.tmps[1]? = some (.slice (some ⟨lb, lo, none⟩) l.length lc) := qO.1.trans rfl
              clear qO qF
              go_simp
              exact hK _ _ (Below.refl _ _) rfl
            refine BOk.yes rfl [] [6] rfl 2 true rfl rfl rfl (by kernel_rfl) (by kernel_rfl) (by kernel_rfl) (fun qK qa wr hB qO qF hK => ?_) ?_
            · have e6 : qa.tmps[6]? = some (.int .i64 ((m + 1 : Nat) : Int)) := qO.1.trans rfl
              clear qO qF
              go_simp
              exact hK _ _ (Below.refl _ _) rfl
            refine BOk.yes rfl [3, 4] [] rfl 2 true rfl rfl rfl (by kernel_rfl) (by kernel_rfl) (by kernel_rfl) (fun qK qa wr hB qO qF hK => ?_) ?_
            · have e23 : qa.tmps[23]? = some (.slice (some ⟨lb, lo, none⟩) l.length lc) := fis qF.1 rfl rfl
              have e24 : qa.tmps[24]? = some (.int .i64 ((m + 1 : Nat) : Int)) := fis qF.2.1 rfl rfl
              clear qO qF
              go_simp
              exact hK _ _ (Below.refl _ _) rfl
            refine BOk.yes rfl [5] [] rfl 2 true rfl rfl rfl (by kernel_rfl) (by kernel_rfl) (by kernel_rfl) (fun qK qa wr hB qO qF hK => ?_) ?_
            · have e25 : qa.tmps[25]? = some (.pointer (some ⟨lb, lo + (m + 1) * 3, none⟩)) := fis qF.1 rfl rfl
              clear qO qF
              go_simp
              exact hK _ _ (Below.refl _ _) rfl
            refine BOk.yes rfl [6] [] rfl 2 true rfl rfl rfl (by kernel_rfl) (by kernel_rfl) (by kernel_rfl) (fun qK qa wr hB qO qF hK => ?_) ?_
            · have e26 : qa.tmps[26]? = some (.pointer (some ⟨lb, lo + (m + 1) * 3 + 1, none⟩)) := fis qF.1 rfl rfl
              clear qO qF
              have hx1 := (bcell hB _ _ (World.block_lt_of_cell? _ _ x1)).trans x1
              go_simp
              exact hK _ _ (Below.refl _ _) rfl
            refine BOk.yes rfl [] [1] rfl 2 true rfl rfl rfl (by kernel_rfl) (by kernel_rfl) (by kernel_rfl) (fun qK qa wr hB qO qF hK => ?_) ?_
            · have e1 : qa.tmps[1]? = some (.slice (some ⟨lb, lo, none⟩) l.length lc) := qO.1.trans rfl
              clear qO qF
              go_simp
              exact hK _ _ (Below.refl _ _) rfl
            refine BOk.yes rfl [] [6] rfl 2 true rfl rfl rfl (by kernel_rfl) (by kernel_rfl) (by kernel_rfl) (fun qK qa wr hB qO qF hK => ?_) ?_
            · have e6 : qa.tmps[6]? = some (.int .i64 ((m + 1 : Nat) : Int)) := qO.1.trans rfl
              clear qO qF
              go_simp
              exact hK _ _ (Below.refl _ _) rfl
            refine BOk.yes rfl [9] [] rfl 2 true rfl rfl rfl (by kernel_rfl) (by kernel_rfl) (by kernel_rfl) (fun qK qa wr hB qO qF hK => ?_) ?_
            · have e29 : qa.tmps[29]? = some (.int .i64 ((m + 1 : Nat) : Int)) := fis qF.1 rfl rfl
              clear qO qF
              go_simp
              exact hK _ _ (Below.refl _ _) (by first | rfl | (show (_ : Value) = _; first | (simp; done) | (congr 1; omega) | exact congrArg (Value.int .i64) (IntWalk.i64_in _ (by omega))))
            refine BOk.yes rfl [8, 10] [] rfl 2 true rfl rfl rfl (by kernel_rfl) (by kernel_rfl) (by kernel_rfl) (fun qK qa wr hB qO qF hK => ?_) ?_
            · have e28 : qa.tmps[28]? = some (.slice (some ⟨lb, lo, none⟩) l.length lc) := fis qF.1 rfl rfl
              have e30 : qa.tmps[30]? = some (.int .i64 (m : Nat)) := fis qF.2.1 rfl rfl
              clear qO qF
              go_simp
              exact hK _ _ (Below.refl _ _) rfl
            refine BOk.yes rfl [11] [] rfl 2 true rfl rfl rfl (by kernel_rfl) (by kernel_rfl) (by kernel_rfl) (fun qK qa wr hB qO qF hK => ?_) ?_
            · have e31 : qa.tmps[31]? = some (.pointer (some ⟨lb, lo + m * 3, none⟩)) := fis qF.1 rfl rfl
              clear qO qF
              go_simp
              exact hK _ _ (Below.refl _ _) rfl
            refine BOk.yes rfl [12] [] rfl 2 true rfl rfl rfl (by kernel_rfl) (by kernel_rfl) (by kernel_rfl) (fun qK qa wr hB qO qF hK => ?_) ?_
            · have e32 : qa.tmps[32]? = some (.pointer (some ⟨lb, lo + m * 3 + 1, none⟩)) := fis qF.1 rfl rfl
              clear qO qF
              have hp1 := (bcell hB _ _ (World.block_lt_of_cell? _ _ p1)).trans p1
              go_simp
              exact hK _ _ (Below.refl _ _) rfl
            refine BOk.yes rfl [7, 13] [] rfl 2 true rfl rfl rfl (by kernel_rfl) (by kernel_rfl) (by kernel_rfl) (fun qK qa wr hB qO qF hK => ?_) ?_
            · have e27 : qa.tmps[27]? = some (.int .i64 x.time) := fis qF.1 rfl rfl
              have e33 : qa.tmps[33]? = some (.int .i64 tp) := fis qF.2.1 rfl rfl
              clear qO qF
              go_simp
              refine hK _ _ (Below.refl _ _) ?_
              show (_ : Value) = _
              first | rfl | (simp; done) | (simp; omega) | (congr 1; simp; done) | (congr 1; rw [decide_eq_decide]; omega) | exact congrArg Value.bool (nat_bne _ _) | exact congrArg Value.bool (nat_beq _ _)
            refine BOk.cons rfl [2, 14] [] rfl rfl (by kernel_rfl) (by kernel_rfl) (fun qK qa wr hB qO qF hK => ?_) ?_
            · have e22 : qa.tmps[22]? = some (.bool true) := fis qF.1 rfl rfl
              have e34 : qa.tmps[34]? = some (.bool (decide (x.time < tp))) := fis qF.2.1 rfl rfl
              clear qO qF
              go_simp
              refine hK _ _ (Below.refl _ _) ?_
              show (_ : Value) = _
              first | rfl | (simp; done) | (simp; omega)
            exact BOk.nil
          intro vals wr hl hB hR
          match vals, hl with
          | [q20, q21, q22, q23, q24, q25, q26, q27, q28, q29, q30, q31, q32, q33, q34, q35], _ =>
          have r15 : q35 = .bool (decide (x.time < tp)) := hR 15 _ rfl
          subst r15
          clear hR
          simp only [List.cons_append, List.nil_append, putAll, Act.put, List.setIfInBounds_toArray, List.set_cons_zero, List.set_cons_succ]
          have hbe3 := hbe2.trans (hB.mono hbe2.size)
          have kb3 := kb2.old hB
          clear hB p1
          cases ht : decide (x.time < tp)
          · rw [ht, ite_f] at HREC
            clear ht
            go_wp2
            go_roundw
            case rel => exact ⟨m + 1 + 1, by omega, by go_num, hbe3, kb3, HREC⟩
            case measure => simp [intOf]; omega
          · rw [ht, ite_t] at HREC
            have hr1 : R1 = ((m + 1 : Nat) : Int) := by have := congrArg Prod.fst HREC.out; exact this
            have hr2 : R2 = 21 := by have := congrArg Prod.snd HREC.out; exact this
            have HR1 := Lib.hid hr1
            have HR2 := Lib.hid hr2
            clear hr1 hr2 ht
            go_wp2
            go_ret2
            exact ⟨ret_pair HR1.out.symm HR2.out.symm, hbe3⟩
    · as_aux_lemma =>
      obtain rfl : k = l.length := by omega
      have hend := hrec.out
      rw [List.drop_eq_nil_of_le (by simp)] at hend
      have hr1 : R1 = 0 := by have := congrArg Prod.fst hend; exact this
      have hr2 : R2 = 0 := by have := congrArg Prod.snd hend; exact this
      have HR1 := Lib.hid hr1
      have HR2 := Lib.hid hr2
      clear hrec hend hr1 hr2
      go_wp2
      go_ret2
      exact ⟨ret_pair HR1.out.symm HR2.out.symm, hbel⟩
end Go.Proofs.YtpakcicbojbonaaDoor
