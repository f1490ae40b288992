/- Layer 10: the line of a match, by the program. No conditions. -/
import Derived.Test.YtbopndepklafgaaDoorMatA
import Derived.Test.YtbopndepklafgaaDoorShA
namespace Go.Proofs.YtbopndepklafgaaDoor
open Go.RowKit
set_option maxRecDepth 10000
set_option linter.unusedVariables false
set_option linter.unusedSimpArgs false

/-- The library's table of powers of ten is there. -/
def Tab (w : World) : Prop := Lib.TabIs Tryd.prog w "internal/strconv.uint64pow10" .u64 Lib.pow10Tab
theorem Tab.old {w w' : World} (h : Tab w) (hb : Below w.heap.size w w') : Tab w' := Lib.tabBelow_of_tabIs h w' hb
theorem itoa_any (n : Int) (h : -9223372036854775808 ≤ n ∧ n ≤ 9223372036854775807) (w : World) (ht : Tab w) :
    Calls Tryd.prog 21 #[.int .i64 n] w fun e w' => e = .returned (.string (bytes (Lib.itoa n))) ∧ Below w.heap.size w w' :=
  (Tryd.strconv_Itoa n h.1 h.2 w ht).mono fun e w' ⟨h1, k, os, h2⟩ => ⟨h1, by rw [h2]; exact Lib.below_grow _ w (Nat.le_refl _) k os⟩
def numsL (l : List Int) : List UInt8 := l.flatMap fun n => 32 :: Lib.itoa n
def restL (k : Nat) : List (List Int) → List UInt8
  | [] => []
  | l :: L => ((if 0 < k then [59] else []) ++ numsL l) ++ restL (k + 1) L
theorem rest_cat (L' : List (List Int)) : ∀ (L : List (List Int)) (k : Nat), restL k (L ++ L') = restL k L ++ restL (k + L.length) L'
  | [], k => by simp [restL]
  | l :: L, k => by
    show ((if 0 < k then [59] else []) ++ numsL l) ++ restL (k + 1) (L ++ L') = _
    rw [rest_cat L' L (k + 1)]
    simp [restL, Nat.add_assoc, Nat.add_comm 1]
theorem rest_snoc (L : List (List Int)) (k : Nat) (h : k < L.length) : restL 0 (L.take (k + 1)) = restL 0 (L.take k) ++ ((if 0 < k then [59] else []) ++ numsL L[k]) := by
  rw [List.take_succ_eq_append_getElem h, rest_cat]
  simp [restL, Nat.min_eq_left (Nat.le_of_lt h)]
theorem rest_take (L : List (List Int)) (k : Nat) : (restL 0 (L.take k)).length ≤ (restL 0 L).length := by
  have h := congrArg List.length (congrArg (restL 0) (List.take_append_drop k L))
  rw [rest_cat, List.length_append] at h
  omega
theorem nums_snoc (l : List Int) (k : Nat) (h : k < l.length) : numsL (l.take (k + 1)) = numsL (l.take k) ++ 32 :: Lib.itoa l[k] := by
  unfold numsL
  rw [List.take_succ_eq_append_getElem h, List.flatMap_append]; simp
theorem nums_take (l : List Int) (k : Nat) : (numsL (l.take k)).length ≤ (numsL l).length := by
  have h := congrArg List.length (congrArg numsL (List.take_append_drop k l))
  unfold numsL at *
  rw [List.flatMap_append, List.length_append] at h
  omega
def headL (st br : Int) : List UInt8 := Lib.itoa st ++ 32 :: (Lib.itoa br ++ [58])
/-- The line of a match. -/
def lineL (st br : Int) (L : List (List Int)) : List UInt8 := headL st br ++ restL 0 L
def maxI : Int := 9223372036854775807
def lineT (st br : Int) (L : List (List Int)) : List UInt8 := if goodB st br maxI L = true then lineL st br L else []
theorem good_more (st br : Int) (L : List (List Int)) (h : st < 9223372036854775807) : goodB st br (st + 1) L = goodB st br maxI L := by
  unfold goodB maxI
  cases partsT (-1) L with
  | none => rfl
  | some q =>
    show lastB st br (st + 1) q = lastB st br 9223372036854775807 q
    rw [Bool.eq_iff_iff]
    simp only [lastB, Bool.and_eq_true, decide_eq_true_eq]
    omega
theorem cells_bytes (l : List UInt8) : Lib.strCells (bytes l) = Lib.byteCells l := by simp [Lib.strCells, bytes, Lib.byteCells]
/-- What a well made match's numbers are. -/
theorem asc_range : ∀ (l : List Int) (p q : Int), ascT p l = some q → p ≤ q ∧ ∀ x ∈ l, p < x ∧ x ≤ q
  | [], p, q, h => by simp [ascT] at h; exact ⟨by omega, by simp⟩
  | x :: l, p, q, h => by
    unfold ascT at h
    split at h
    · cases h
    · obtain ⟨h1, h2⟩ := asc_range l x q h
      refine ⟨by omega, fun y hy => ?_⟩
      rcases List.mem_cons.1 hy with rfl | hy
      · exact ⟨by omega, h1⟩
      · have := h2 y hy; omega
theorem parts_range : ∀ (L : List (List Int)) (p q : Int), partsT p L = some q → p ≤ q ∧ ∀ l ∈ L, ∀ x ∈ l, p < x ∧ x ≤ q
  | [], p, q, h => by simp [partsT] at h; exact ⟨by omega, by simp⟩
  | l :: L, p, q, h => by
    unfold partsT at h
    split at h
    · cases h
    · split at h
      · cases h
      · rename_i r hr
        obtain ⟨h1, h2⟩ := parts_range L r q h
        obtain ⟨h3, h4⟩ := asc_range l p r hr
        refine ⟨by omega, fun l' hl' x hx => ?_⟩
        rcases List.mem_cons.1 hl' with rfl | hl'
        · have := h4 x hx; omega
        · have := h2 l' hl' x hx; omega
theorem good_range {st br n : Int} {L : List (List Int)} (h : goodB st br n L = true) (hst : st ≤ 9223372036854775807) : ∀ l ∈ L, ∀ x ∈ l, -9223372036854775808 ≤ x ∧ x ≤ 9223372036854775807 := by
  unfold goodB at h
  split at h
  · cases h
  · rename_i q hq
    simp only [lastB, Bool.and_eq_true, decide_eq_true_eq] at h
    intro l hl x hx
    have := (parts_range L _ q hq).2 l hl x hx
    omega
def linR4 (m : MatV) (w w2 : World) : List Spec := [.is (.pointer (some ⟨w.heap.size, 0, none⟩)),
  .is (.int .i64 m.step),
  .is (.string (bytes (Lib.itoa m.step))),
  .is (.string (bytes (Lib.itoa m.step) ++ ⟨#[32]⟩)),
  .is (.pointer (some ⟨w.heap.size, 1, none⟩)),
  .is (.int .i64 m.branch),
  .is (.string (bytes (Lib.itoa m.branch))),
  .is (.string (bytes (Lib.itoa m.step) ++ ⟨#[32]⟩ ++ bytes (Lib.itoa m.branch))),
  .is (.string (bytes (Lib.itoa m.step) ++ ⟨#[32]⟩ ++ bytes (Lib.itoa m.branch) ++ ⟨#[58]⟩))]
set_option maxRecDepth 100000 in
set_option maxHeartbeats 8000000 in
theorem line_any (m : MatV) (w : World) (h : m.ok w w.heap.size) (ht : Tab w) (hlen : goodB m.step m.branch maxI m.L = true → (lineL m.step m.branch m.L).length ≤ 140737488355328) :
    Calls Tryd.prog 10 #[m.val] w fun r w' => r = .returned (.string (bytes (lineT m.step m.branch m.L))) ∧ Below w.heap.size w w' := by
  have hW : Below w.heap.size w (w.alloc (.cells #[.int .i64 m.step, .int .i64 m.branch, .slice m.A m.rows.length m.c] 27)) := (Below.refl _ _).alloc (Nat.le_refl _) _
  have x0 := Bk.new w 27 #[.int .i64 m.step, .int .i64 m.branch, .slice m.A m.rows.length m.c]
  have HG1 := Lib.hid (good_any m maxI _ (h.old hW))
  have HG2 := Lib.hid (good_any m (m.step + 1) _ (h.old hW))
  have HT := Lib.hid ht
  have HL0 := Lib.hid hlen
  have hst := h.stepR
  have hbr := h.branchR
  have HM := Lib.hid h
  have hml := h.len
  clear h ht hlen
  unfold lineT
  unfold MatV.val at *
  obtain ⟨g, hg⟩ : ∃ g, goodB m.step m.branch maxI m.L = g := ⟨_, rfl⟩
  have HGd := Lib.hid hg
  rw [hg] at HG1 ⊢
  obtain ⟨TT, hTT⟩ : ∃ TT, (if g = true then lineL m.step m.branch m.L else []) = TT := ⟨_, rfl⟩
  rw [hTT]
  have HTT := Lib.hid hTT
  clear hTT
  by_cases hmx : m.step = 9223372036854775807
  case' pos =>
    rw [← show m.step = maxI from hmx] at HG1
    have HGG := HG1
    have hmb : (m.step == 9223372036854775807) = true := by simpa using hmx
    have hmc : ¬ m.step < 9223372036854775807 := by omega
  case' neg =>
    have hms : m.step < 9223372036854775807 := by omega
    rw [good_more _ _ _ hms, hg] at HG2
    have HGG := HG2
    have hmb : (m.step == 9223372036854775807) = false := by simpa using hmx
    have hmc : m.step < 9223372036854775807 := hms
  all_goals
    clear HG1 HG2 hg hmx
    have s0 := x0.cell 0
    have s1 := x0.cell 1
    have s2 := x0.cell 2
    go_enter Tryd.func10, Tryd.ntmps10
    go_wp2_with fail
    refine HGG.out.mono ?_
    rintro r w2 ⟨rfl, hb2⟩
    have hb3 := hW.trans (hb2.mono hW.size)
    have y0 := x0.old hb2
    clear x0 hb2 hW HGG s0 s1 s2
    have p0 := y0.cell 0
    cases g
    · go_wp2
      go_ret
      exact ⟨by rw [← HTT.out]; rfl, hb3⟩
    rw [if_pos rfl] at HTT
    have HL := Lib.hid (HL0.out HGd.out)
    clear HL0
    go_wp2_with fail
    have hbW : Below w2.heap.size w2 (w2.alloc (.cells #[.pointer none, .slice none 0 0] 50)) := (Below.refl _ _).alloc (Nat.le_refl _) _
    have hbl := Lib.fresh_isBuilder 50 5 w2
    have hzz : (w2.alloc (.cells #[.pointer none, .slice none 0 0] 50)).heap.size = w2.heap.size + 1 := by simp
    generalize w2.alloc (.cells #[.pointer none, .slice none 0 0] 50) = W at *
    have s0 := (y0.old hbW).cell 0
    have s1 := (y0.old hbW).cell 1
    have htW : Tab W := (HT.out.old hb3).old hbW
    clear hmb hmc p0
    have hcat : (bytes (Lib.itoa m.step)).size + 1 + (bytes (Lib.itoa m.branch)).size + 1 ≤ 140737488355328 := by
      have h2 := HL.out
      unfold lineL headL at h2
      simp only [List.length_append, List.length_cons] at h2
      rw [bytes_size, bytes_size]; omega
    have hcat1 : ¬ 9223372036854775807 < (bytes (Lib.itoa m.step)).size + 1 := by omega
    have hcat2 : ¬ 9223372036854775807 < (bytes (Lib.itoa m.step)).size + 1 + (bytes (Lib.itoa m.branch)).size := by omega
    have hcat3 : ¬ 9223372036854775807 < (bytes (Lib.itoa m.step)).size + 1 + (bytes (Lib.itoa m.branch)).size + 1 := by omega
    refine wp_region_t 9 (fun k => false) (by kernel_rfl) (fun qk => (linR4 m w w2).getD qk .any) (by kernel_rfl) ?_ ?_
    · refine BOk.cons rfl [] [1] rfl rfl (by kernel_rfl) (by kernel_rfl) (fun qK qa wr hB qO qF hK => ?_) ?_
      · have e1 : qa.tmps[1]? = some (.pointer (some ⟨w.heap.size, 0, none⟩)) := qO.1.trans rfl
        clear qO qF
        go_simp
        exact hK _ _ (Below.refl _ _) rfl
      refine BOk.cons rfl [0] [] rfl rfl (by kernel_rfl) (by kernel_rfl) (fun qK qa wr hB qO qF hK => ?_) ?_
      · have e31 : qa.tmps[31]? = some (.pointer (some ⟨w.heap.size, 0, none⟩)) := fis qF.1 rfl rfl
        clear qO qF
        have hs0 := (bcell hB _ _ (World.block_lt_of_cell? _ _ s0)).trans s0
        go_simp
        exact hK _ _ (Below.refl _ _) rfl
      refine BOk.cons rfl [1] [] rfl rfl (by kernel_rfl) (by kernel_rfl) (fun qK qa wr hB qO qF hK => ?_) ?_
      · have e32 : qa.tmps[32]? = some (.int .i64 m.step) := fis qF.1 rfl rfl
        clear qO qF
        go_simp
        go_at_call 21
        refine (itoa_any m.step hst _ (htW.old hB)).mono ?_
        rintro e9 w9 ⟨rfl, hb9⟩
        exact hK _ _ hb9 rfl
      refine BOk.cons rfl [2] [] rfl rfl (by kernel_rfl) (by kernel_rfl) (fun qK qa wr hB qO qF hK => ?_) ?_
      · have e33 : qa.tmps[33]? = some (.string (bytes (Lib.itoa m.step))) := fis qF.1 rfl rfl
        clear qO qF
        go_simp
        exact hK _ _ (Below.refl _ _) (by first | rfl | (show (_ : Value) = _; simp; done))
      refine BOk.cons rfl [] [1] rfl rfl (by kernel_rfl) (by kernel_rfl) (fun qK qa wr hB qO qF hK => ?_) ?_
      · have e1 : qa.tmps[1]? = some (.pointer (some ⟨w.heap.size, 0, none⟩)) := qO.1.trans rfl
        clear qO qF
        go_simp
        exact hK _ _ (Below.refl _ _) rfl
      refine BOk.cons rfl [4] [] rfl rfl (by kernel_rfl) (by kernel_rfl) (fun qK qa wr hB qO qF hK => ?_) ?_
      · have e35 : qa.tmps[35]? = some (.pointer (some ⟨w.heap.size, 1, none⟩)) := fis qF.1 rfl rfl
        clear qO qF
        have hs1 := (bcell hB _ _ (World.block_lt_of_cell? _ _ s1)).trans s1
        go_simp
        exact hK _ _ (Below.refl _ _) rfl
      refine BOk.cons rfl [5] [] rfl rfl (by kernel_rfl) (by kernel_rfl) (fun qK qa wr hB qO qF hK => ?_) ?_
      · have e36 : qa.tmps[36]? = some (.int .i64 m.branch) := fis qF.1 rfl rfl
        clear qO qF
        go_simp
        go_at_call 21
        refine (itoa_any m.branch hbr _ (htW.old hB)).mono ?_
        rintro e9 w9 ⟨rfl, hb9⟩
        exact hK _ _ hb9 rfl
      refine BOk.cons rfl [3, 6] [] rfl rfl (by kernel_rfl) (by kernel_rfl) (fun qK qa wr hB qO qF hK => ?_) ?_
      · have e34 : qa.tmps[34]? = some (.string (bytes (Lib.itoa m.step) ++ ⟨#[32]⟩)) := fis qF.1 rfl rfl
        have e37 : qa.tmps[37]? = some (.string (bytes (Lib.itoa m.branch))) := fis qF.2.1 rfl rfl
        clear qO qF
        go_simp
        exact hK _ _ (Below.refl _ _) (by first | rfl | (show (_ : Value) = _; simp; done))
      refine BOk.cons rfl [7] [] rfl rfl (by kernel_rfl) (by kernel_rfl) (fun qK qa wr hB qO qF hK => ?_) ?_
      · have e38 : qa.tmps[38]? = some (.string (bytes (Lib.itoa m.step) ++ ⟨#[32]⟩ ++ bytes (Lib.itoa m.branch))) := fis qF.1 rfl rfl
        clear qO qF
        go_simp
        exact hK _ _ (Below.refl _ _) (by first | rfl | (show (_ : Value) = _; simp; done))
      exact BOk.nil
    intro vals wr hl hB hR hS
    match vals, hl with
    | [y31, y32, y33, y34, y35, y36, y37, y38, y39], _ =>
    have r8 : y39 = .string (bytes (Lib.itoa m.step) ++ ⟨#[32]⟩ ++ bytes (Lib.itoa m.branch) ++ ⟨#[58]⟩) := hR 8 _ rfl
    subst r8
    clear hS
    clear hR
    simp only [List.take_succ_cons, List.take_zero, List.drop_succ_cons, List.drop_zero, List.toList_toArray, List.cons_append, List.nil_append, putAll, Act.put, List.setIfInBounds_toArray, List.set_cons_zero, List.set_cons_succ]
    clear hcat1 hcat2 hcat3 hcat
    have hblr := bld_old hbl hB
    have hbr' := hbW.trans (hB.mono hbW.size)
    have hsz := hB.size
    clear s0 s1 htW hB hbW hbl
    have hcells : Lib.strCells (bytes (Lib.itoa m.step) ++ ⟨#[32]⟩ ++ bytes (Lib.itoa m.branch) ++ ⟨#[58]⟩) = Lib.byteCells (headL m.step m.branch) := by
      rw [cat_bytes _ ⟨#[58]⟩, cat_bytes (bytes (Lib.itoa m.step) ++ ⟨#[32]⟩), cat_bytes (bytes (Lib.itoa m.step)), ByteArray.toList_eq (bs := ⟨#[32]⟩), ByteArray.toList_eq (bs := ⟨#[58]⟩), bytes_list, bytes_list, bytes_list, bytes_list, cells_bytes]
      simp [headL]
    have hsize : (bytes (Lib.itoa m.step) ++ ⟨#[32]⟩ ++ bytes (Lib.itoa m.branch) ++ ⟨#[58]⟩).size ≤ 140737488355328 := by
      have := congrArg List.length hcells
      rw [Lib.strCells_length] at this
      rw [this]
      have h2 := HL.out
      unfold lineL at h2
      simp only [Lib.byteCells, List.length_map, List.length_append] at h2 ⊢
      omega
    have HC := Lib.hid hcells
    clear hcells
    generalize bytes (Lib.itoa m.step) ++ ⟨#[32]⟩ ++ bytes (Lib.itoa m.branch) ++ ⟨#[58]⟩ = STR at *
    go_wp2_with fail
    refine (write_any w2.heap.size w2.heap.size [] STR _ hblr (by simpa using hsize) (by omega)).mono ?_
    rintro r w3 ⟨rfl, hbl3, hb4⟩
    rw [List.nil_append, HC.out] at hbl3
    have hbx := hbr'.trans hb4
    have z0 := y0.below hbx y0.lt
    have q2 := z0.cell 2
    clear hblr hb4 hbr' HC hsize
    go_wp2
    clear q2
    have HR := Lib.hid (good_range HGd.out hst.2)
    go_loopw [44] (fun i wr => ∃ k : Nat, k ≤ m.rows.length ∧ i = .int .i64 k ∧ Below w2.heap.size w2 wr ∧ Hid (Lib.IsBuilder 50 5 w2.heap.size w2.heap.size (Lib.byteCells (headL m.step m.branch ++ restL 0 (m.L.take k))) wr)) (fun i _ => m.rows.length - (intOf i).toNat)
    case atStart => exact ⟨0, Nat.zero_le _, rfl, hbx, Lib.hid (by simpa [restL] using hbl3)⟩
    case round =>
      obtain ⟨k, hk, rfl, hbel, hbld⟩ := hrel
      obtain ⟨wl, rfl⟩ : ∃ wl : World, wl = wr := ⟨_, rfl⟩
      have hsz4 := hbel.size
      by_cases hlk : k < m.rows.length
      · as_aux_lemma =>
        obtain ⟨vb, vo, hA, hvb, hvc⟩ := ((HM.out.rd.below hb3).below (hbel.mono hb3.size)).elem (n := 1) (fun _ => rfl) (by omega) hlk
        have r0 : wl.cell? ⟨vb, vo + k * 1, none⟩ = some (.slice m.rows[k].A m.rows[k].l.length m.rows[k].c) := hvc 0 _ rfl
        rw [Nat.mul_one] at r0
        have hkL : k < m.L.length := by unfold MatV.L; simpa using hlk
        have e1 : m.L[k] = m.rows[k].l := by simp [MatV.L]
        have hnx := rest_snoc m.L k hkL
        have hle := rest_take m.L (k + 1)
        have hrg := HR.out m.L[k] (List.getElem_mem _)
        rw [e1] at hnx hrg
        have HNX := Lib.hid hnx
        have HLE := Lib.hid hle
        have HRG := Lib.hid hrg
        have hRok := (HM.out.each m.rows[k] (List.getElem_mem _)).keep (hb3.trans (hbel.mono hb3.size)) (Nat.le_refl _)
        have HRD := Lib.hid (HM.out.each m.rows[k] (List.getElem_mem _)).rd
        clear hnx hle hrg e1 hvc
        generalize m.rows[k] = R at *
        have hrl := hRok.len
        clear hRok
        rw [hA]
        have hsum : (headL m.step m.branch ++ (restL 0 (m.L.take k) ++ ((if 0 < k then [59] else []) ++ numsL R.l))).length ≤ 140737488355328 := by
          rw [← HNX.out]
          have h2 := HL.out
          have h3 := HLE.out
          unfold lineL at h2
          simp only [List.length_append] at h2 ⊢
          omega
        have HSUM := Lib.hid hsum
        clear hsum
        obtain ⟨B0, hB0⟩ : ∃ B0, headL m.step m.branch ++ (restL 0 (m.L.take k) ++ (if 0 < k then [59] else [])) = B0 := ⟨_, rfl⟩
        have HB0 := Lib.hid hB0
        by_cases hk0 : 0 < k
        case' pos =>
          have hkI : (0 : Int) < (k : Int) := by omega
          rw [if_pos hk0] at hB0
          have hsm : (headL m.step m.branch ++ restL 0 (m.L.take k)).length + 1 ≤ 140737488355328 := by
            have h2 := HSUM.out
            rw [if_pos hk0] at h2
            simp only [List.length_append, List.length_cons] at h2 ⊢
            omega
          have HSM := Lib.hid hsm
          clear hsm
          go_wp2_with fail
          refine (write_any w2.heap.size w2.heap.size _ ⟨#[59]⟩ _ hbld.out (by simp only [Lib.byteCells, List.length_map]; exact HSM.out) hsz4).mono ?_
          rintro r w4 ⟨rfl, hbld4, hb5⟩
          have hbe4 := hbel.trans hb5
          have HB4 : Hid (Lib.IsBuilder 50 5 w2.heap.size w2.heap.size (Lib.byteCells B0) w4) := Lib.hid (by
            rw [← hB0, ← List.append_assoc, Lib.byteCells_append]; exact hbld4)
          clear hbld4 hb5
          go_wp2
        case' neg =>
          have hkI : ¬ (0 : Int) < (k : Int) := by omega
          rw [if_neg hk0] at hB0
          have hbe4 := hbel
          have HB4 : Hid (Lib.IsBuilder 50 5 w2.heap.size w2.heap.size (Lib.byteCells B0) wl) := Lib.hid (by
            rw [← hB0, List.append_nil]; exact hbld.out)
          go_wp2
        all_goals
          clear r0 hbld hB0
          have hHS : Hid ((B0 ++ numsL R.l).length ≤ 140737488355328) := Lib.hid (by rw [← HB0.out]; have h2 := HSUM.out; simp only [List.length_append] at h2 ⊢; omega)
          go_loopw [54] (fun i wr => ∃ j : Nat, j ≤ R.l.length ∧ i = .int .i64 j ∧ Below w2.heap.size w2 wr ∧ Hid (Below wl.heap.size wl wl) ∧ Hid (Lib.IsBuilder 50 5 w2.heap.size w2.heap.size (Lib.byteCells (B0 ++ numsL (R.l.take j))) wr)) (fun i _ => R.l.length - (intOf i).toNat)
          case atStart => exact ⟨0, Nat.zero_le _, rfl, hbe4, Below.refl _ _, Lib.hid (by simpa [numsL] using HB4.out)⟩
          case round =>
            clear HB4 hbe4
            obtain ⟨j, hj, rfl, hbi, _, hbldi⟩ := hrel
            have hszi := hbi.size
            by_cases hlj : j < R.l.length
            · as_aux_lemma =>
              obtain ⟨b', o', hA', hb', hc'⟩ := ((HRD.out.below hb3).below (hbi.mono hb3.size)).elem1 hlj
              have hnx2 := nums_snoc R.l j hlj
              have hrg2 := HRG.out R.l[j] (List.getElem_mem _)
              have hle2 := nums_take R.l (j + 1)
              have HN2 := Lib.hid hnx2
              have HL2 := Lib.hid hle2
              clear hnx2 hle2
              rw [hA']
              generalize R.l[j] = x at *
              have HTX := Lib.hid (itoa_any x hrg2 wr ((HT.out.old hb3).old (hbi.mono (Nat.le_refl _))))
              go_wp2_with fail
              refine HTX.out.mono ?_
              rintro r w5 ⟨rfl, hb5⟩
              have hbe5 := hbi.trans (hb5.mono hbi.size)
              have hbld5 := bld_old hbldi.out hb5
              have hz5 := hbe5.size
              have hsum : (B0 ++ (numsL (R.l.take j) ++ 32 :: Lib.itoa x)).length ≤ 140737488355328 := by
                rw [← HN2.out]
                have h2 := hHS.out
                have h3 := HL2.out
                simp only [List.length_append] at h2 ⊢
                omega
              have hx9 : Lib.strCells (⟨#[32]⟩ ++ bytes (Lib.itoa x)) = Lib.byteCells (32 :: Lib.itoa x) := by rw [cat_bytes, ByteArray.toList_eq (bs := ⟨#[32]⟩), bytes_list, cells_bytes]; rfl
              have hs9 : (⟨#[32]⟩ ++ bytes (Lib.itoa x) : ByteArray).size = (Lib.itoa x).length + 1 := by rw [← Lib.strCells_length, hx9]; simp [Lib.byteCells]
              have hcat : ¬ 9223372036854775807 < 1 + (bytes (Lib.itoa x)).size := by
                rw [bytes_size]
                simp only [List.length_append, List.length_cons] at hsum
                omega
              have HX9 := Lib.hid hx9
              have HS9 := Lib.hid hs9
              clear hx9 hs9 hb5 HTX
              go_wp2_with fail
              refine (write_any w2.heap.size w2.heap.size _ _ _ hbld5 ?_ hz5).mono ?_
              · rw [HS9.out]
                simp only [Lib.byteCells, List.length_map, List.length_append, List.length_cons] at hsum ⊢
                omega
              rintro r w6 ⟨rfl, hbld6, hb6⟩
              rw [HX9.out, ← Lib.byteCells_append, List.append_assoc, ← HN2.out] at hbld6
              have hbe6 := hbe5.trans hb6
              have HB6 := Lib.hid hbld6
              clear hbld6 hbld5 hb6 hbe5 hcat HX9 HS9 hsum HN2 HL2
              go_wp2
              go_roundw
              case rel => exact ⟨j + 1, by omega, by go_num, hbe6, Below.refl _ _, HB6⟩
              case measure => simp [intOf]; omega
            · as_aux_lemma =>
              obtain rfl : j = R.l.length := by omega
              rw [List.take_length] at hbldi
              have HB7 : Hid (Lib.IsBuilder 50 5 w2.heap.size w2.heap.size (Lib.byteCells (headL m.step m.branch ++ restL 0 (m.L.take (k + 1)))) wr) := Lib.hid (by
                rw [HNX.out, ← List.append_assoc, ← List.append_assoc, List.append_assoc (headL m.step m.branch), HB0.out]; exact hbldi.out)
              clear hbldi
              go_wp2
              go_roundw
              case rel => exact ⟨k + 1, by omega, by go_num, hbi, HB7⟩
              case measure => simp [intOf]; omega
      · as_aux_lemma =>
        obtain rfl : k = m.rows.length := by omega
        rw [List.take_of_length_le (by simp [MatV.L])] at hbld
        go_wp2_with fail
        refine (Tryd.Builder_String_any w2.heap.size w2.heap.size _ _ hbld.out hsz4).mono ?_
        rintro r w5 ⟨rfl, hb5⟩
        have hfin := hb3.trans ((hbel.trans hb5).mono hb3.size)
        clear hb5 hbel hbld
        go_wp2
        go_ret
        exact ⟨by rw [← HTT.out]; rfl, hfin⟩
end Go.Proofs.YtbopndepklafgaaDoor
