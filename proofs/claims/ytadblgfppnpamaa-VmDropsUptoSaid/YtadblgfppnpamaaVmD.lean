/- Layer 18: what the program's Run tells. No conditions. -/
import Derived.Test.YtadblgfppnpamaaVmC
namespace Go.Proofs.Ytadblgfppnpamaa
open Go.RowKit
set_option linter.unusedVariables false
set_option linter.unusedSimpArgs false

theorem made_zero (n : Nat) : madeCells #[.int .i64 0, .int .u64 0] (n * 2) = ((List.replicate n none0).flatMap V.cells).toArray := by
  have hlen : ((List.replicate n none0).flatMap V.cells).length = n * 2 := by rw [flat_len (n := 2) V.cells (fun _ => rfl)]; simp
  apply Array.ext_getElem?
  intro i
  by_cases hi : i < n * 2
  · have hk : i / 2 < n := by omega
    have := flat_at (n := 2) V.cells (fun _ => rfl) (List.replicate n none0) (i / 2) (i % 2) (by simpa using hk) (by omega)
    rw [show i / 2 * 2 + i % 2 = i by omega] at this
    have e1 : ((List.replicate n none0).flatMap V.cells).toArray[i]? = (V.cells none0)[i % 2]? := by rw [← List.getElem_replicate (a := none0) (n := n) (i := i / 2) (by simpa using hk), ← this]; simp
    have e2 : (madeCells #[.int .i64 0, .int .u64 0] (n * 2))[i]? = some ((#[.int .i64 0, .int .u64 0] : Array Value)[i % 2]!) := by simp [madeCells, hi]
    rw [e1, e2]
    rcases Nat.mod_two_eq_zero_or_one i with h | h <;> simp [h, none0, V.cells]
  · rw [Array.getElem?_eq_none (by rw [size_madeCells]; omega), Array.getElem?_eq_none (by simpa [hlen] using hi)]
theorem infoW : (Try.prog.info? 31).map (fun i => (i.zero, i.size, i.bytes)) = some (some (.agg #[.int .i64 0, .int .u64 0]), 2, 16) := by kernel_rfl
theorem mk_vals (n : Nat) (hn : n ≤ 1024) (w : World) : (Instr.makeSlice 23 (.int .i64 n) (.int .i64 n)).run Try.prog w = .ok (.slice (some ⟨w.heap.size, 0, none⟩) n n) (w.alloc (.cells ((List.replicate n none0).flatMap V.cells).toArray 31)) := by
  obtain ⟨i, hi, hz, hs, hb⟩ := info_parts infoW
  have := run_make (P := Try.prog) w 23 31 i _ Try.underlying23 hi hz .i64 .i64 n n (by omega) (by omega) (by rw [hb]; omega) (by omega)
  rw [this]
  simp only [Int.toNat_natCast, hs]
  rw [← made_zero]
  rfl

def regTell (a : Int) (regs : List V) (Y : V) (w wl : World) : List Spec := [.is (.pointer (some ⟨w.heap.size + 1 + 1, 0, none⟩)),
  .is (.pointer (some ⟨w.heap.size + 1 + 1, 0, none⟩)),
  .is (.pointer (some ⟨w.heap.size + 1 + 1, 0, none⟩)),
  .is (.slice (some ⟨w.heap.size + 3, 0, none⟩) regs.length regs.length),
  .is (.pointer (some ⟨wl.heap.size, 2, none⟩)),
  .is (.int .i64 a),
  .is (.agg #[.int .i64 Y.k, .int .u64 Y.b])]
theorem func_ne (f : Nat) (w : World) : (binOp .neq 50 (.func (.func f) #[] #[]) .nilFunc).run Try.prog w = .ok (.bool true) w := by kernel_rfl
theorem func_eq (w : World) : (binOp .neq 50 .nilFunc .nilFunc).run Try.prog w = .ok (.bool false) w := by kernel_rfl
set_option maxRecDepth 100000 in
set_option maxHeartbeats 4000000 in
theorem run_any (cd : CodeV) (A : Option Addr) (c : Nat) (inp : List V) (w : World) (h : cd.ok w w.heap.size) (hr : Rd w w.heap.size A (inp.flatMap V.cells)) (hf : ∀ x ∈ inp, x.fits) (hl : inp.length ≤ 1048576) :
    Calls Try.prog 9 #[cd.val, .slice A inp.length c] w fun e w' => e = .returned (runV cd inp).v ∧ Below w.heap.size w w' := by
  obtain ⟨nr, ns, Ai, ci, li, Ak, ck, lk, Al, cl, ll⟩ := cd
  obtain ⟨ri, rk, rl, ni, nk, nl, fi, fk, fl, fr, fs⟩ := h
  simp only at ri rk rl ni nk nl fi fk fl fr fs
  obtain ⟨N, hN⟩ : ∃ N, lim nr 1024 = N := ⟨_, rfl⟩
  obtain ⟨M, hM⟩ : ∃ M, lim ns 256 = M := ⟨_, rfl⟩
  have hN1 : N ≤ 1024 := by subst hN; unfold lim; omega
  have hM1 : M ≤ 1024 := by subst hM; unfold lim; omega
  obtain ⟨q, eq1⟩ : ∃ q : Int, (if 1024 < nr then 1024 else nr) = q := ⟨_, rfl⟩
  obtain ⟨p, ep1⟩ : ∃ p : Int, (if 256 < ns then 256 else ns) = p := ⟨_, rfl⟩
  have eq2 : (if 0 < q then q else 0) = (N : Int) := by subst hN; unfold lim; subst eq1; split <;> split at * <;> omega
  have ep2 : (if 0 < p then p else 0) = (M : Int) := by subst hM; unfold lim; subst ep1; split <;> split at * <;> omega
  generalize hRV : runV ⟨nr, ns, Ai, ci, li, Ak, ck, lk, Al, cl, ll⟩ inp = RV
  unfold runV at hRV
  simp only [hN, hM] at hRV
  have HRV := Lib.hid hRV
  have hmN := mk_vals N hN1
  have hmM := mk_vals M hM1
  unfold CodeV.val
  have hfn := func_ne
  have hfe := func_eq
  clear hRV hN hM fr fs fi ri ni
  go_enter Try.func9, Try.ntmps9
  go_wp2_with fail
  go_loopw [33] (fun i wl => ∃ (k : Nat) (regs slots : List V), k ≤ ll.length ∧ i = .int .i64 k ∧ Below w.heap.size w wl ∧ Mach wl w.heap.size ⟨w.heap.size + 2, w.heap.size + 3, w.heap.size + 4, regs, slots, A, c, inp, Ak, ck, lk⟩ ∧ Bk wl (w.heap.size + 1) 31 #[.int .i64 0, .int .u64 0] ∧ regs.length = N ∧ slots.length = M ∧
      Hid (runM inp lk (ll.drop k) (regs, slots) = RV)) (fun i _ => ll.length - (intOf i).toNat)
  case atStart =>
    have kb : Below w.heap.size w (((((w.alloc (.cells #[.int .i64 nr, .int .i64 ns, .slice Ai li.length ci, .slice Ak lk.length ck, .slice Al ll.length cl] 26)).alloc (.cells #[.int .i64 0, .int .u64 0] 31)).alloc (.cells #[.slice (some ⟨w.heap.size + 1 + 1 + 1, 0, none⟩) N N, .slice (some ⟨w.heap.size + 1 + 1 + 1 + 1, 0, none⟩) M M, .slice A inp.length c, .slice Ak lk.length ck] 48)).alloc (.cells ((List.replicate N none0).flatMap V.cells).toArray 31)).alloc (.cells ((List.replicate M none0).flatMap V.cells).toArray 31)) := by
      repeat (first | exact Below.refl _ _ | refine Below.alloc ?_ (by first | (simp; done) | (simp; omega)) _)
    have z0 : ∀ n, ∀ x ∈ List.replicate n none0, x.fits := fun n x hx => by rw [List.eq_of_mem_replicate hx]; exact fits0
    have km := ((Bk.newAt (w := (w.alloc (.cells #[.int .i64 nr, .int .i64 ns, .slice Ai li.length ci, .slice Ak lk.length ck, .slice Al ll.length cl] 26)).alloc (.cells #[.int .i64 0, .int .u64 0] 31)) (g := w.heap.size + 2) (by simp) 48 #[.slice (some ⟨w.heap.size + 1 + 1 + 1, 0, none⟩) N N, .slice (some ⟨w.heap.size + 1 + 1 + 1 + 1, 0, none⟩) M M, .slice A inp.length c, .slice Ak lk.length ck]).alloc (.cells ((List.replicate N none0).flatMap V.cells).toArray 31)).alloc (.cells ((List.replicate M none0).flatMap V.cells).toArray 31)
    refine ⟨0, List.replicate N none0, List.replicate M none0, Nat.zero_le _, rfl, kb, ⟨by simpa using km, (Bk.newAt (by simp) _ _).alloc _, Bk.newAt (by simp) _ _, hr.below kb, rk.below kb, by simp, by simp, by simp, by simp, by simp, by simp, by simp; omega, z0 N, z0 M, hf, fk, by simpa using hN1, by simpa using hM1, hl, nk⟩, ?_, List.length_replicate, List.length_replicate, HRV⟩
    exact (((Bk.newAt (by simp) _ _).alloc _).alloc _).alloc _
  case round =>
    obtain ⟨k, regs, slots, hk, rfl, hbe, hm, kr, hrl, hsl, hrun⟩ := hrel
    rename World => wl
    by_cases hlt : k < ll.length
    · obtain ⟨bb, oo, rfl, hb, hc⟩ := (rl.below hbe).elem (f := InsV.cells) (n := 4) (fun _ => rfl) (by omega) hlt
      have hrun := hrun.out
      rw [List.drop_eq_getElem_cons hlt] at hrun
      generalize ll[k] = x at *
      obtain ⟨op, dst, a, b⟩ := x
      have hc0 : wl.cell? ⟨bb, oo + k * 4, none⟩ = some (.int .i64 op) := hc 0 _ rfl
      have hc1 : wl.cell? ⟨bb, oo + k * 4 + 1, none⟩ = some (.int .i64 dst) := hc 1 _ rfl
      have hc2 : wl.cell? ⟨bb, oo + k * 4 + 2, none⟩ = some (.int .i64 a) := hc 2 _ rfl
      have hc3 : wl.cell? ⟨bb, oo + k * 4 + 3, none⟩ = some (.int .i64 b) := hc 3 _ rfl
      have hsz := hbe.size
      have kx := Bk.new wl 43 #[.int .i64 op, .int .i64 dst, .int .i64 a, .int .i64 b]
      have hm0 := hm.old ((Below.refl _ _).alloc (Nat.le_refl _) (.cells #[.int .i64 op, .int .i64 dst, .int .i64 a, .int .i64 b] 43))
      have kr0 := kr.alloc (.cells #[.int .i64 op, .int .i64 dst, .int .i64 a, .int .i64 b] 43)
      have hbe0 := hbe.alloc hbe.size (.cells #[.int .i64 op, .int .i64 dst, .int .i64 a, .int .i64 b] 43)
      clear hc hm kr hbe
      have hm := hm0
      have kr := kr0
      have hbe := hbe0
      clear hm0 kr0 hbe0
      by_cases h52 : op = 52
      · as_aux_lemma =>
          subst h52
          rw [runM, if_pos rfl] at hrun
          obtain ⟨Y, hY⟩ : ∃ Y, takeL regs a = Y := ⟨_, rfl⟩
          have hg : ∀ w' : World, Below (wl.alloc (.cells #[.int .i64 52, .int .i64 dst, .int .i64 a, .int .i64 b] 43)).heap.size (wl.alloc (.cells #[.int .i64 52, .int .i64 dst, .int .i64 a, .int .i64 b] 43)) w' → Calls Try.prog 20 #[.slice (some ⟨w.heap.size + 3, 0, none⟩) regs.length regs.length, .int .i64 a] w' fun e w2 => e = .returned (.agg #[.int .i64 Y.k, .int .u64 Y.b]) ∧ Below w'.heap.size w' w2 := by
            intro w' hw
            have hm := hm.old hw
            have := get_any (some ⟨w.heap.size + 3, 0, none⟩) regs.length regs a w' (Row.rd hm.rr) hm.f1 (Nat.le_trans hm.l1 (by decide))
            rw [hY] at this
            exact this
          have HY := Lib.hid hg
          have HB := Lib.hid hbe
          have m0 : (wl.alloc (.cells #[.int .i64 52, .int .i64 dst, .int .i64 a, .int .i64 b] 43)).cell? ⟨w.heap.size + 1 + 1, 0, none⟩ = some (.slice (some ⟨w.heap.size + 3, 0, none⟩) regs.length regs.length) := hm.mb.cell 0
          have x2 := kx.cell 2
          rw [hY] at hrun
          have HR := Lib.hid hrun
          clear hg hY hrun hm hbe HRV hrl hsl
          go_wp2_with fail
          refine wp_region_t 7 (fun k => false) (by kernel_rfl) (fun qk => (regTell a regs Y w wl).getD qk .any) (by kernel_rfl) ?_ ?_
          · refine BOk.cons rfl [] [5] rfl rfl (by kernel_rfl) (by kernel_rfl) (fun qK qa wr hB qO qF hK => ?_) ?_
            · have e5 : qa.tmps[5]? = some (.pointer (some ⟨w.heap.size + 1 + 1, 0, none⟩)) := qO.1.trans rfl
              clear qO qF
              go_simp
              exact hK _ _ (Below.refl _ _) rfl
            refine BOk.cons rfl [0] [] rfl rfl (by kernel_rfl) (by kernel_rfl) (fun qK qa wr hB qO qF hK => ?_) ?_
            · have e40 : qa.tmps[40]? = some (.pointer (some ⟨w.heap.size + 1 + 1, 0, none⟩)) := fis qF.1 rfl rfl
              clear qO qF
              go_simp
              exact hK _ _ (Below.refl _ _) rfl
            refine BOk.cons rfl [1] [] rfl rfl (by kernel_rfl) (by kernel_rfl) (fun qK qa wr hB qO qF hK => ?_) ?_
            · have e41 : qa.tmps[41]? = some (.pointer (some ⟨w.heap.size + 1 + 1, 0, none⟩)) := fis qF.1 rfl rfl
              clear qO qF
              go_simp
              exact hK _ _ (Below.refl _ _) rfl
            refine BOk.cons rfl [2] [] rfl rfl (by kernel_rfl) (by kernel_rfl) (fun qK qa wr hB qO qF hK => ?_) ?_
            · have e42 : qa.tmps[42]? = some (.pointer (some ⟨w.heap.size + 1 + 1, 0, none⟩)) := fis qF.1 rfl rfl
              clear qO qF
              have hm0 := (bcell hB _ _ (World.block_lt_of_cell? _ _ m0)).trans m0
              go_simp
              exact hK _ _ (Below.refl _ _) rfl
            refine BOk.cons rfl [] [7] rfl rfl (by kernel_rfl) (by kernel_rfl) (fun qK qa wr hB qO qF hK => ?_) ?_
            · have e7 : qa.tmps[7]? = some (.pointer (some ⟨wl.heap.size, 0, none⟩)) := qO.1.trans rfl
              clear qO qF
              go_simp
              exact hK _ _ (Below.refl _ _) rfl
            refine BOk.cons rfl [4] [] rfl rfl (by kernel_rfl) (by kernel_rfl) (fun qK qa wr hB qO qF hK => ?_) ?_
            · have e44 : qa.tmps[44]? = some (.pointer (some ⟨wl.heap.size, 2, none⟩)) := fis qF.1 rfl rfl
              clear qO qF
              have hx2 := (bcell hB _ _ (World.block_lt_of_cell? _ _ x2)).trans x2
              go_simp
              exact hK _ _ (Below.refl _ _) rfl
            refine BOk.cons rfl [3, 5] [] rfl rfl (by kernel_rfl) (by kernel_rfl) (fun qK qa wr hB qO qF hK => ?_) ?_
            · have e43 : qa.tmps[43]? = some (.slice (some ⟨w.heap.size + 3, 0, none⟩) regs.length regs.length) := fis qF.1 rfl rfl
              have e45 : qa.tmps[45]? = some (.int .i64 a) := fis qF.2.1 rfl rfl
              clear qO qF
              go_simp
              go_at_call 20
              refine (HY.out _ hB).mono ?_
              rintro e w2 ⟨rfl, hb2⟩
              exact hK _ _ hb2 rfl
            exact BOk.nil
          intro vals wr hl hB hR hS
          match vals, hl with
          | [z40, z41, z42, z43, z44, z45, z46], _ =>
          have r6 : z46 = .agg #[.int .i64 Y.k, .int .u64 Y.b] := hR 6 _ rfl
          subst r6
          clear hS
          clear hR
          simp only [List.take_succ_cons, List.take_zero, List.drop_succ_cons, List.drop_zero, List.toList_toArray, List.cons_append, List.nil_append, putAll, Act.put, List.setIfInBounds_toArray, List.set_cons_zero, List.set_cons_succ]
          have kr := kr.old hB
          have hbe := HB.out.trans (hB.mono HB.out.size)
          obtain ⟨c0, c1, f0, f1⟩ := vcells kr
          obtain ⟨d0, d1, _, _⟩ := vcells (vput kr (.int .i64 Y.k) (.int .u64 Y.b))
          clear kr hB HB
          go_wp2_with fail
          exact bodyPost_ret (v := .agg #[.int .i64 Y.k, .int .u64 Y.b]) (by simp [results, Try.results9, go_sem, d0, d1]) rfl ⟨by rw [← HR.out]; rfl, (hbe.setCell (by simp) _).setCell (by simp) _⟩
      rw [runM, if_neg h52] at hrun
      by_cases h50 : op = 50
      · as_aux_lemma =>
        subst h50
        have hst : stepM inp lk ⟨50, dst, a, b⟩ (regs, slots) = (setL regs dst (takeL inp a), slots) := rfl
        rw [hst] at hrun
        have HR := Lib.hid hrun
        clear hst hrun
        go_wp2_with fail
        refine (does_in _).mono ?_
        rintro e wq ⟨rfl, rfl⟩
        go_wp2_with fail
        refine (m_input_any _ dst a b _ _ _ _ _ _ _ _ _ _ _ _ _ hm).mono ?_
        rintro e w3 ⟨rfl, hr3, hg3⟩
        have hm3 := hm.setR (take_fits _ hm.f3) hr3 hg3
        have hbe3 := below_gb hbe hg3 hm.b0 hm.b2
        have kr3 := kr.grown hg3 (by simp)
        clear hr3 hg3 hm hbe kr
        go_wp2_with fail
        go_roundw
        case rel => exact ⟨k + 1, _, _, by omega, by go_num, hbe3, hm3, kr3, (setL_len _ _ _).trans hrl, hsl, HR⟩
        case measure => simp [intOf]; omega
      by_cases h51 : op = 51
      · as_aux_lemma =>
        subst h51
        have hst : stepM inp lk ⟨51, dst, a, b⟩ (regs, slots) = (setL regs dst (takeL lk a), slots) := rfl
        rw [hst] at hrun
        have HR := Lib.hid hrun
        clear hst hrun
        go_wp2_with fail
        refine (does_ko _).mono ?_
        rintro e wq ⟨rfl, rfl⟩
        go_wp2_with fail
        refine (m_konst_any _ dst a b _ _ _ _ _ _ _ _ _ _ _ _ _ hm).mono ?_
        rintro e w3 ⟨rfl, hr3, hg3⟩
        have hm3 := hm.setR (take_fits _ hm.f4) hr3 hg3
        have hbe3 := below_gb hbe hg3 hm.b0 hm.b2
        have kr3 := kr.grown hg3 (by simp)
        clear hr3 hg3 hm hbe kr
        go_wp2_with fail
        go_roundw
        case rel => exact ⟨k + 1, _, _, by omega, by go_num, hbe3, hm3, kr3, (setL_len _ _ _).trans hrl, hsl, HR⟩
        case measure => simp [intOf]; omega
      by_cases h53 : op = 53
      · as_aux_lemma =>
        subst h53
        have hst : stepM inp lk ⟨53, dst, a, b⟩ (regs, slots) = (regs, setL slots a (takeL regs b)) := rfl
        rw [hst] at hrun
        have HR := Lib.hid hrun
        clear hst hrun
        go_wp2_with fail
        refine (does_st _).mono ?_
        rintro e wq ⟨rfl, rfl⟩
        go_wp2_with fail
        refine (m_store_any _ dst a b _ _ _ _ _ _ _ _ _ _ _ _ _ hm).mono ?_
        rintro e w3 ⟨rfl, hr3, hg3⟩
        have hm3 := hm.setS (take_fits _ hm.f1) hr3 hg3
        have hbe3 := below_gb hbe hg3 hm.b0 hm.b3
        have kr3 := kr.grown hg3 (by simp)
        clear hr3 hg3 hm hbe kr
        go_wp2_with fail
        go_roundw
        case rel => exact ⟨k + 1, _, _, by omega, by go_num, hbe3, hm3, kr3, hrl, (setL_len _ _ _).trans hsl, HR⟩
        case measure => simp [intOf]; omega
      by_cases h54 : op = 54
      · as_aux_lemma =>
        subst h54
        have hst : stepM inp lk ⟨54, dst, a, b⟩ (regs, slots) = (setL regs dst (takeL slots a), slots) := rfl
        rw [hst] at hrun
        have HR := Lib.hid hrun
        clear hst hrun
        go_wp2_with fail
        refine (does_lo _).mono ?_
        rintro e wq ⟨rfl, rfl⟩
        go_wp2_with fail
        refine (m_load_any _ dst a b _ _ _ _ _ _ _ _ _ _ _ _ _ hm).mono ?_
        rintro e w3 ⟨rfl, hr3, hg3⟩
        have hm3 := hm.setR (take_fits _ hm.f2) hr3 hg3
        have hbe3 := below_gb hbe hg3 hm.b0 hm.b2
        have kr3 := kr.grown hg3 (by simp)
        clear hr3 hg3 hm hbe kr
        go_wp2_with fail
        go_roundw
        case rel => exact ⟨k + 1, _, _, by omega, by go_num, hbe3, hm3, kr3, (setL_len _ _ _).trans hrl, hsl, HR⟩
        case measure => simp [intOf]; omega
      by_cases h1 : oneB op
      · as_aux_lemma =>
        have hst : stepM inp lk ⟨op, dst, a, b⟩ (regs, slots) = (setL regs dst (applyV op [takeL regs a]), slots) := by unfold stepM; rw [if_neg h50, if_neg h51, if_neg h53, if_neg h54, if_pos h1]
        have g52 : (op == 52) = false := by rw [beq_eq_false_iff_ne]; exact h52
        rw [hst] at hrun
        have HR := Lib.hid hrun
        clear hst hrun
        go_wp2_with fail
        refine (does_one op h1 _).mono ?_
        rintro e wq ⟨rfl, rfl⟩
        go_wp2_with fail
        refine (m_one_any _ dst a b _ _ _ _ _ _ _ _ _ _ _ _ _ hm).mono ?_
        rintro e w3 ⟨rfl, hr3, hg3⟩
        have hm3 := hm.setR (apply_fits _ _ (by intro x hx; simp only [List.mem_cons, List.not_mem_nil, or_false] at hx; subst hx; exact take_fits _ hm.f1)) hr3 hg3
        have hbe3 := below_gb hbe hg3 hm.b0 hm.b2
        have kr3 := kr.grown hg3 (by simp)
        clear hr3 hg3 hm hbe kr
        go_wp2_with fail
        go_roundw
        case rel => exact ⟨k + 1, _, _, by omega, by go_num, hbe3, hm3, kr3, (setL_len _ _ _).trans hrl, hsl, HR⟩
        case measure => simp [intOf]; omega
      by_cases h2 : 1 ≤ op ∧ op ≤ 14
      · as_aux_lemma =>
        have hst : stepM inp lk ⟨op, dst, a, b⟩ (regs, slots) = (setL regs dst (applyV op [takeL regs a, takeL regs b]), slots) := by unfold stepM; rw [if_neg h50, if_neg h51, if_neg h53, if_neg h54, if_neg h1, if_pos h2]
        have g52 : (op == 52) = false := by rw [beq_eq_false_iff_ne]; exact h52
        rw [hst] at hrun
        have HR := Lib.hid hrun
        clear hst hrun
        go_wp2_with fail
        refine (does_two op h2.1 h2.2 (fun e => h1 (.inl e)) _).mono ?_
        rintro e wq ⟨rfl, rfl⟩
        go_wp2_with fail
        refine (m_two_any _ dst a b _ _ _ _ _ _ _ _ _ _ _ _ _ hm).mono ?_
        rintro e w3 ⟨rfl, hr3, hg3⟩
        have hm3 := hm.setR (apply_fits _ _ (by intro x hx; simp only [List.mem_cons, List.not_mem_nil, or_false] at hx; rcases hx with rfl | rfl <;> exact take_fits _ hm.f1)) hr3 hg3
        have hbe3 := below_gb hbe hg3 hm.b0 hm.b2
        have kr3 := kr.grown hg3 (by simp)
        clear hr3 hg3 hm hbe kr
        go_wp2_with fail
        go_roundw
        case rel => exact ⟨k + 1, _, _, by omega, by go_num, hbe3, hm3, kr3, (setL_len _ _ _).trans hrl, hsl, HR⟩
        case measure => simp [intOf]; omega
      · as_aux_lemma =>
        have hst : stepM inp lk ⟨op, dst, a, b⟩ (regs, slots) = (regs, slots) := by unfold stepM; rw [if_neg h50, if_neg h51, if_neg h53, if_neg h54, if_neg h1, if_neg h2]
        have g52 : (op == 52) = false := by rw [beq_eq_false_iff_ne]; exact h52
        rw [hst] at hrun
        have HR := Lib.hid hrun
        clear hst hrun
        go_wp2_with fail
        refine (does_none op h50 h51 h53 h54 h1 h2 _).mono ?_
        rintro e wq ⟨rfl, rfl⟩
        go_wp2_with fail
        go_roundw
        case rel => exact ⟨k + 1, _, _, by omega, by go_num, hbe, hm, kr, hrl, hsl, HR⟩
        case measure => simp [intOf]; omega
    · as_aux_lemma =>
      obtain rfl : k = ll.length := by omega
      have hRV := hrun.out
      rw [List.drop_length] at hRV
      have HR := Lib.hid hRV
      obtain ⟨c0, c1, f0, f1⟩ := vcells kr
      obtain ⟨d0, d1, _, _⟩ := vcells (vput kr (.int .i64 0) (.int .u64 0))
      clear kr hm hRV hrun HRV
      go_wp2_with fail
      exact bodyPost_ret (v := .agg #[.int .i64 0, .int .u64 0]) (by simp [results, Try.results9, go_sem, d0, d1]) rfl ⟨by rw [← HR.out]; rfl, (hbe.setCell (by simp) _).setCell (by simp) _⟩
end Go.Proofs.Ytadblgfppnpamaa
