/- Layer 10: the document's list of matches put in order. No conditions. -/
import Derived.Test.YtbopndepklafgaaDoorSrtY
import Derived.Test.YtbopndepklafgaaDoorMatR
namespace Go.Proofs.YtbopndepklafgaaDoor
open Go.RowKit
set_option maxRecDepth 10000
set_option linter.unusedVariables false
set_option linter.unusedSimpArgs false

section
variable {α : Type} {lt : α → α → Bool}
/-- The list with one more at the place j. -/
def putAt (l : List α) (j : Nat) (x : α) : List α := l.take j ++ x :: l.drop j
theorem putAt_len (l : List α) (j : Nat) (x : α) (h : j ≤ l.length) : (putAt l j x).length = l.length + 1 := by unfold putAt; simp; omega
theorem putAt_end (l : List α) (x : α) : putAt l l.length x = l ++ [x] := by unfold putAt; simp
theorem putAt_set (l : List α) (j : Nat) (x y : α) (h : j ≤ l.length) : (putAt l j x).set j y = putAt l j y := by
  unfold putAt
  have e : (l.take j).length = j := by simp; omega
  rw [List.set_append_right _ _ (by omega), e, Nat.sub_self]; rfl
theorem putAt_ahead (l : List α) (j : Nat) (x : α) (h0 : 0 < j) (h : j ≤ l.length) : (putAt l j x)[j - 1]? = l[j - 1]? := by
  unfold putAt
  rw [List.getElem?_append_left (by simp; omega), List.getElem?_take_of_lt (by omega)]
theorem putAt_down (l : List α) (j : Nat) (y : α) (h0 : 0 < j) (h : j ≤ l.length) (hy : l[j - 1]? = some y) : putAt l j y = putAt l (j - 1) y := by
  obtain ⟨q, rfl⟩ : ∃ q, j = q + 1 := ⟨j - 1, by omega⟩
  rw [Nat.add_sub_cancel] at hy ⊢
  obtain ⟨hq, e⟩ := List.getElem?_eq_some_iff.1 hy
  unfold putAt
  rw [List.take_succ_eq_append_getElem hq, List.drop_eq_getElem_cons hq, e]; simp
theorem putAt_perm (l : List α) (j : Nat) (x : α) : (putAt l j x).Perm (x :: l) := by
  unfold putAt
  refine List.perm_middle.trans ?_
  rw [List.take_append_drop]
theorem putAt_sorted (hc : Cmp lt) {l : List α} {j : Nat} {x : α} (hj : j ≤ l.length) (h : l.Pairwise (Le lt)) (hup : ∀ y ∈ l.drop j, lt x y = true) (hlo : j = 0 ∨ ∀ y, l[j - 1]? = some y → lt x y = false) : (putAt l j x).Pairwise (Le lt) := by
  unfold putAt
  rw [← List.take_append_drop j l] at h
  obtain ⟨h1, h2, h3⟩ := List.pairwise_append.1 h
  have hle : ∀ y ∈ l.take j, Le lt y x := by
    intro y hy
    rcases hlo with rfl | hlo
    · simp at hy
    · obtain ⟨i, hi, e⟩ := List.mem_iff_getElem.1 hy
      have hi2 : i < j := by simp at hi; omega
      have hq : j - 1 < l.length := by simp at hi; omega
      have hz := hlo _ (List.getElem?_eq_getElem hq)
      by_cases hij : i = j - 1
      · subst hij
        rw [← e, List.getElem_take]; exact hz
      · have hp := List.pairwise_iff_getElem.1 h1 i (j - 1) hi (by simp; omega) (by omega)
        rw [e, List.getElem_take] at hp
        exact hc.letr _ _ _ hp hz
  refine List.pairwise_append.2 ⟨h1, List.pairwise_cons.2 ⟨fun y hy => hc.asym _ _ (hup y hy), h2⟩, fun a ha b hb => ?_⟩
  rcases List.mem_cons.1 hb with rfl | hb
  · exact hle a ha
  · exact h3 a ha b hb
end
def dsR7 (m y : MatV) (g c gb k j : Nat) (lb : Bool) : List Spec := [.is (.int .i64 (j : Nat)),
  .is (.bool true),
  .is (.bool true),
  .is (m.val),
  .is (.slice (some ⟨g, 0, none⟩) (k + 1) c),
  .is (.int .i64 (j : Nat)),
  .is (.int .i64 (j - 1 : Nat)),
  .is (.pointer (some ⟨g, (j - 1) * 3, none⟩)),
  .is (y.val),
  .is (.int .i64 (m.ord y)),
  .is (.bool lb),
  .is (.bool lb)]
def dsR7f (g c gb k j : Nat) : List Spec := [.is (.int .i64 (j : Nat)),
  .is (.bool false),
  .is (.bool false),
  .is (undef),
  .is (undef),
  .is (undef),
  .is (undef),
  .is (undef),
  .is (undef),
  .is (undef),
  .is (undef),
  .is (.bool false)]
set_option maxRecDepth 100000 in
set_option maxHeartbeats 8000000 in
theorem rsort_any (ms : List MatV) (A0 : Option Addr) (c0 : Nat) (w : World) (hrd : Rd w w.heap.size A0 (ms.flatMap MatV.cells)) (hok : ∀ m ∈ ms, m.ok w w.heap.size) (hlen : ms.length ≤ 3518437208880) :
    Calls Tryd.prog 8 #[.slice A0 ms.length c0] w fun r w' => ∃ (A : Option Addr) (c : Nat) (ts : List MatV), r = .returned (.slice A ms.length c) ∧ ts.Perm ms ∧ ts.Pairwise (Le ltM) ∧
      w'.ownsRow w.heap.size 27 3 (.slice A ms.length c) ms.length (ts.flatMap MatV.cells) ∧ Below w.heap.size w w' := by
  obtain ⟨iM, hM, hM0, hM1, hM2⟩ := info_parts infoMr
  have HRD := Lib.hid hrd
  have HOK := Lib.hid hok
  clear hrd hok
  go_enter Tryd.func8, Tryd.ntmps8
  go_wp2
  go_loopw [3, 9] (fun o i wr => ∃ (k : Nat) (A : Option Addr) (c : Nat) (ts : List MatV), k ≤ ms.length ∧ o = .slice A k c ∧ i = .int .i64 k ∧ Below w.heap.size w wr ∧ Hid (ts.Perm (ms.take k)) ∧ Hid (ts.Pairwise (Le ltM)) ∧
    wr.ownsRow w.heap.size 27 3 (.slice A k c) k (ts.flatMap MatV.cells)) (fun _ i _ => ms.length - (intOf i).toNat)
  case atStart => exact ⟨0, none, 0, [], Nat.zero_le _, rfl, rfl, Below.refl _ _, Lib.hid (List.Perm.refl _), Lib.hid List.Pairwise.nil, World.ownsRow_nil _ _ _ _⟩
  case round =>
    obtain ⟨k, A, c, ts, hk, rfl, rfl, hbel, hprm, hsrt, hown⟩ := hrel
    obtain ⟨wo, rfl⟩ : ∃ wo : World, wo = wr := ⟨_, rfl⟩
    by_cases hlt : k < ms.length
    · as_aux_lemma =>
      obtain ⟨b, o, hA, hb, hc⟩ := (HRD.out.below hbel).elem (n := 3) mat_len (by omega) hlt
      have r0 : wo.cell? ⟨b, o + k * 3, none⟩ = some (.int .i64 ms[k].step) := hc 0 _ rfl
      have r1 : wo.cell? ⟨b, o + k * 3 + 1, none⟩ = some (.int .i64 ms[k].branch) := hc 1 _ rfl
      have r2 : wo.cell? ⟨b, o + k * 3 + 2, none⟩ = some (.slice ms[k].A ms[k].rows.length ms[k].c) := hc 2 _ rfl
      have HNX : Hid ((ms.take (k + 1)) = (ms.take k) ++ [ms[k]]) := Lib.hid (by rw [List.take_succ_eq_append_getElem hlt])
      have hmem : ms[k] ∈ ms := List.getElem_mem _
      clear hc
      generalize ms[k] = m at *
      rw [hA]
      clear hA
      have hws := hbel.size
      have q0 := Bk.new wo 27 #[.int .i64 m.step, .int .i64 m.branch, .slice m.A m.rows.length m.c]
      have hbA : Below wo.heap.size wo (wo.alloc (.cells #[.int .i64 m.step, .int .i64 m.branch, .slice m.A m.rows.length m.c] 27)) := (Below.refl _ _).alloc (Nat.le_refl _) _
      have HOKS : Hid (∀ z ∈ ts ++ [m], z ∈ ms) := Lib.hid fun z hz => by
        rcases List.mem_append.1 hz with hz | hz
        · exact List.mem_of_mem_take (hprm.out.subset hz)
        · obtain rfl := List.mem_singleton.1 hz; exact hmem
      have htl : ts.length = k := by
        have := hown.1
        rw [flat_len MatV.cells cells3] at this; omega
      have q1 := q0.cell 0
      have q2 := q0.cell 1
      have q3 := q0.cell 2
      go_upto_region 5 with fail
      have hown1 := own_old hown hbA
      have hbel1 := hbel.trans (hbA.mono hws)
      generalize hgb : wo.heap.size = gb at *
      generalize wo.alloc (.cells #[.int .i64 m.step, .int .i64 m.branch, .slice m.A m.rows.length m.c] 27) = W1 at *
      have hbl1 : gb < W1.heap.size := q0.lt
      have hne1 : some gb ≠ (Value.slice A k c).ownBlock := fun e => by
        have := (hown.lt gb e.symm).2
        omega
      clear r0 r1 r2 hbA hbel hown
      have hzF : w.heap.size ≤ (W1.alloc (.cells #[.int .i64 m.step, .int .i64 m.branch, .slice m.A m.rows.length m.c] 27)).heap.size := by simp; omega
      go_wp2_with (at_builtin; refine wpList_append_rd (by rfl) _ _ 22 (by rfl) w.heap.size 27 iM _ 3 40 Tryd.underlying22 hM hM0 hM1 hM2 rfl (by decide) (.slice A k c) k _ (by rfl) (hown1.alloc _) (W1.heap.size + 1) (some ⟨W1.heap.size, 0, none⟩) 1 1 [.int .i64 m.step, .int .i64 m.branch, .slice m.A m.rows.length m.c] (by rfl) (Rd.lit rfl _ _) (by rfl) ?c2 ?c3 ?c4 hzF ?_)
      case c2 => intro u hu; simp at hu; rcases hu with rfl | rfl | rfl <;> rfl
      case c3 => unfold maxLen; omega
      case c4 => omega
      intro A6 c6 w6 hown6 hg6 hnew6
      obtain ⟨g, hg⟩ : ∃ g, A6 = some ⟨g, 0, none⟩ := by
        rcases hown6.2 with ⟨_, h0⟩ | ⟨g', cap, cur, hv, _⟩
        · omega
        · exact ⟨g', by injection hv⟩
      subst hg
      have hgg : gb ≠ g := fun e => by
        rcases hnew6 with h | h
        · exact hne1 (by rw [← h, ← e]; rfl)
        · have : g = W1.heap.size + 1 := Option.some.inj h
          omega
      have hbel6 : Below w.heap.size w w6 := below_own (hbel1.alloc (by omega) _) (hown1.alloc _) (Nat.le_refl _) hg6 hzF
      have hbase : w.heap.size ≤ g := (hown6.lt g rfl).1
      have hown7 : w6.ownsRow w.heap.size 27 3 (.slice (some ⟨g, 0, none⟩) (k + 1) c6) (k + 1) ((ts ++ [m]).flatMap MatV.cells) := by
        rw [List.flatMap_append]
        exact hown6
      have hbx6 : Bk w6 gb 27 #[.int .i64 m.step, .int .i64 m.branch, .slice m.A m.rows.length m.c] := (q0.alloc _).grown hg6 (by simpa using hne1)
      have HOKG : Hid (∀ z ∈ ts ++ [m], ∀ w', w6.grownBy w' (some g) → z.ok w' w'.heap.size) := Lib.hid fun z hz w' hg => by
        have hb' : Below w.heap.size w w' := hbel6.grown hg hbel6.size (fun q hq => by injection hq with hq; omega)
        exact (HOK.out z (HOKS.out z hz)).keep hb' hb'.size
      have HROW6 : Hid (Row w.heap.size g c6 (k + 1) (putAt ts k m) w6) := Lib.hid (by
        have e : putAt ts k m = ts ++ [m] := by rw [← htl]; exact putAt_end ts m
        rw [e]; exact ⟨hown7, HOKG.out⟩)
      have hgb6 : gb < w6.heap.size := hbx6.lt
      clear hown7 hown6 hg6 hnew6 hown1 q0 q1 q2 q3 hbl1 hzF hne1 hbel1
      generalize c6 = c at *
      go_wp2
      go_loopw [6] (fun i wi => ∃ (j : Nat) (X : MatV), j ≤ k ∧ i = .int .i64 j ∧ Hid (Row w.heap.size g c (k + 1) (putAt ts j X) wi) ∧ Hid (∀ y ∈ ts.drop j, ltM m y = true) ∧ Hid (Bk wi gb 27 #[.int .i64 m.step, .int .i64 m.branch, .slice m.A m.rows.length m.c]) ∧ Hid (w6.grownBy wi (some g))) (fun i _ => (intOf i).toNat)
      case atStart => exact ⟨k, m, Nat.le_refl _, rfl, HROW6, Lib.hid (by rw [← htl, List.drop_length]; simp), Lib.hid hbx6, Lib.hid (World.grownBy.refl _ _)⟩
      case round =>
        obtain ⟨j, X, hj, rfl, HROW3, HUP, HBK, HGR⟩ := hrel
        clear HROW6 hbx6
        obtain ⟨W, rfl⟩ : ∃ W : World, W = wr := ⟨_, rfl⟩
        have hgl : g < W.heap.size := by obtain ⟨cur, h0, _⟩ := HROW3.out.bk; exact h0.lt
        have hbl : gb < W.heap.size := HBK.out.lt
        have HBX : Hid (∀ (j : Nat) (u : Value), m.cells[j]? = some u → W.cell? ⟨gb, 0 + j, none⟩ = some u) := Lib.hid fun j u hu => by
          rw [Nat.zero_add, HBK.out.cell j]
          simpa [MatV.cells] using hu
        by_cases hj0 : 0 < j
        · as_aux_lemma =>
          obtain ⟨y, hy, hym, hyc⟩ := HROW3.out.cell (i := j - 1) (by omega)
          have HY := Lib.hid hyc
          have HTY : Hid (ts[j - 1]? = some y) := Lib.hid (by rw [← putAt_ahead ts j X hj0 (by omega)]; exact hy)
          have hyts : y ∈ ts := List.mem_of_getElem? HTY.out
          have HORDmy : Hid (∀ wx : World, W.grownBy wx (some g) → Calls Tryd.prog 16 #[m.val, y.val] wx fun r w' => r = .returned (.int .i64 (m.ord y)) ∧ Below wx.heap.size wx w') := Lib.hid fun wx hg => rord_any m y wx (HOKG.out m (by simp) wx (HGR.out.trans hg)) (HOKG.out y (by simp [hyts]) wx (HGR.out.trans hg))
          obtain ⟨lb, hlb⟩ : ∃ lb : Bool, ltM m y = lb := ⟨_, rfl⟩
          have HLB : Hid (decide (m.ord y < 0) = lb) := Lib.hid hlb
          clear hyc hy hlb hym
          go_upto_region 7 with fail
          refine wp_region_b (by kernel_rfl) (fun qk => (dsR7 m y g c gb k j lb).getD qk .any) (by kernel_rfl) ?_ ?_
          · refine BOk.cons rfl [] [6] rfl rfl (by kernel_rfl) (by kernel_rfl) (fun qK qa wr hB qO qF hK => ?_) ?_
            · have e6 : qa.tmps[6]? = some (.int .i64 (j : Nat)) := qO.1.trans rfl
              clear qO qF
              exact op_move _ rfl (ev e6) (hK _ _ (Below.refl _ _) rfl)
            refine BOk.cons rfl [0] [] rfl rfl (by kernel_rfl) (by kernel_rfl) (fun qK qa wr hB qO qF hK => ?_) ?_
            · have e19 : qa.tmps[19]? = some (.int .i64 (j : Nat)) := fis qF.1 rfl rfl
              clear qO qF
              exact op_gtr _ _ _ _ rfl (ev e19) rfl (by simp; omega) (hK _ _ (Below.refl _ _) rfl)
            refine BOk.cons rfl [1] [] rfl rfl (by kernel_rfl) (by kernel_rfl) (fun qK qa wr hB qO qF hK => ?_) ?_
            · have e20 : qa.tmps[20]? = some (.bool true) := fis qF.1 rfl rfl
              clear qO qF
              exact op_move _ rfl (ev e20) (hK _ _ (Below.refl _ _) rfl)
            refine BOk.yes rfl [] [5] rfl 2 true rfl rfl rfl (by kernel_rfl) (by kernel_rfl) (by kernel_rfl) (fun qK qa wr hB qO qF hK => ?_) ?_
            · have e5 : qa.tmps[5]? = some (.pointer (some ⟨gb, 0, none⟩)) := qO.1.trans rfl
              clear qO qF
              exact op_load (m := m) (p := 0) _ rfl (ev e5) (fun j u hu => (bcell hB _ _ hbl).trans (HBX.out j u hu)) (hK _ _ (Below.refl _ _) rfl)
            refine BOk.yes rfl [] [3] rfl 2 true rfl rfl rfl (by kernel_rfl) (by kernel_rfl) (by kernel_rfl) (fun qK qa wr hB qO qF hK => ?_) ?_
            · have e3 : qa.tmps[3]? = some (.slice (some ⟨g, 0, none⟩) (k + 1) c) := qO.1.trans rfl
              clear qO qF
              exact op_move _ rfl (ev e3) (hK _ _ (Below.refl _ _) rfl)
            refine BOk.yes rfl [] [6] rfl 2 true rfl rfl rfl (by kernel_rfl) (by kernel_rfl) (by kernel_rfl) (fun qK qa wr hB qO qF hK => ?_) ?_
            · have e6 : qa.tmps[6]? = some (.int .i64 (j : Nat)) := qO.1.trans rfl
              clear qO qF
              exact op_move _ rfl (ev e6) (hK _ _ (Below.refl _ _) rfl)
            refine BOk.yes rfl [5] [] rfl 2 true rfl rfl rfl (by kernel_rfl) (by kernel_rfl) (by kernel_rfl) (fun qK qa wr hB qO qF hK => ?_) ?_
            · have e24 : qa.tmps[24]? = some (.int .i64 (j : Nat)) := fis qF.1 rfl rfl
              clear qO qF
              exact op_sub _ _ _ _ rfl (ev e24) rfl (by omega) (by omega) (by omega) (hK _ _ (Below.refl _ _) rfl)
            refine BOk.yes rfl [4, 6] [] rfl 2 true rfl rfl rfl (by kernel_rfl) (by kernel_rfl) (by kernel_rfl) (fun qK qa wr hB qO qF hK => ?_) ?_
            · have e23 : qa.tmps[23]? = some (.slice (some ⟨g, 0, none⟩) (k + 1) c) := fis qF.1 rfl rfl
              have e25 : qa.tmps[25]? = some (.int .i64 (j - 1 : Nat)) := fis qF.2.1 rfl rfl
              clear qO qF
              exact op_index _ _ rfl (ev e23) (ev e25) (by omega) (hK _ _ (Below.refl _ _) rfl)
            refine BOk.yes rfl [7] [] rfl 2 true rfl rfl rfl (by kernel_rfl) (by kernel_rfl) (by kernel_rfl) (fun qK qa wr hB qO qF hK => ?_) ?_
            · have e26 : qa.tmps[26]? = some (.pointer (some ⟨g, (j - 1) * 3, none⟩)) := fis qF.1 rfl rfl
              clear qO qF
              exact op_load _ rfl (ev e26) (fun j u hu => (bcell hB _ _ hgl).trans (HY.out j u hu)) (hK _ _ (Below.refl _ _) rfl)
            refine BOk.yes rfl [3, 8] [] rfl 2 true rfl rfl rfl (by kernel_rfl) (by kernel_rfl) (by kernel_rfl) (fun qK qa wr hB qO qF hK => ?_) ?_
            · have e22 : qa.tmps[22]? = some (m.val) := fis qF.1 rfl rfl
              have e27 : qa.tmps[27]? = some (y.val) := fis qF.2.1 rfl rfl
              clear qO qF
              go_simp
              go_at_call 16
              refine (HORDmy.out wr (below_grown hB _)).mono ?_
              rintro r w2 ⟨rfl, hb2⟩
              exact hK _ _ hb2 rfl
            refine BOk.yes rfl [9] [] rfl 2 true rfl rfl rfl (by kernel_rfl) (by kernel_rfl) (by kernel_rfl) (fun qK qa wr hB qO qF hK => ?_) ?_
            · have e28 : qa.tmps[28]? = some (.int .i64 (m.ord y)) := fis qF.1 rfl rfl
              clear qO qF
              exact op_lss _ _ _ _ rfl (ev e28) rfl (HLB.out) (hK _ _ (Below.refl _ _) rfl)
            refine BOk.cons rfl [2, 10] [] rfl rfl (by kernel_rfl) (by kernel_rfl) (fun qK qa wr hB qO qF hK => ?_) ?_
            · have e21 : qa.tmps[21]? = some (.bool true) := fis qF.1 rfl rfl
              have e29 : qa.tmps[29]? = some (.bool lb) := fis qF.2.1 rfl rfl
              clear qO qF
              exact op_pick _ _ _ rfl (ev e21) (ev e29) rfl (hK _ _ (Below.refl _ _) rfl)
            exact BOk.nil
          intro vals W5 hl hB hR
          match vals, hl with
          | [u19, u20, u21, u22, u23, u24, u25, u26, u27, u28, u29, u30], _ =>
          have r11 : u30 = .bool lb := hR 11 _ rfl
          subst r11
          clear hR
          simp only [List.cons_append, List.nil_append, putAll, Act.put, List.setIfInBounds_toArray, List.set_cons_zero, List.set_cons_succ]
          cases lb
          · as_aux_lemma =>
            have HROW4 := Lib.hid (HROW3.out.old hB)
            have HBK4 := Lib.hid (HBK.out.old hB)
            have HGR4 := Lib.hid (HGR.out.trans (below_grown hB _))
            have HST : Hid (j = 0 ∨ ∀ y, ts[j - 1]? = some y → ltM m y = false) := Lib.hid (.inr fun z hz => by
              rw [HTY.out] at hz
              injection hz with hz
              subst hz; exact HLB.out)
            clear HY HORDmy HLB HTY hB hgl HROW3 HGR hbl HBX HBK hyts
            have hB4 := HBK4.out
            have b0 := hB4.cell 0
            have b1 := hB4.cell 1
            have b2 := hB4.cell 2
            have HOKm : Hid (∀ w2, W5.grownBy w2 (some g) → m.ok w2 w2.heap.size) := Lib.hid fun w2 h2 => HOKG.out m (by simp) w2 (HGR4.out.trans h2)
            clear hB4 HRD HOK
            go_wp2_with (first | (refine wpList_putR (m := m) (i := j) rfl _ _ rfl rfl rfl HROW4.out (by omega) (fun w2 h2 => HOKm.out w2 h2) ?_; intro w9 p9 g9 z9))
            rw [putAt_set ts j X m (by omega)] at p9
            have hb9 : Below w.heap.size w w9 := hbel6.grown (HGR4.out.trans g9) hbel6.size (fun q hq => by injection hq with hq; omega)
            have HPR : Hid ((putAt ts j m).Perm (ms.take (k + 1))) := Lib.hid (by
              rw [HNX.out]
              exact (putAt_perm ts j m).trans ((hprm.out.cons m).trans (List.perm_append_singleton m _).symm))
            have HSR : Hid ((putAt ts j m).Pairwise (Le ltM)) := Lib.hid (putAt_sorted cmp_lt (by omega) hsrt.out HUP.out HST.out)
            have hown9 := p9.own
            clear p9 g9 HBK4 HROW4 HGR4 HNX HOKS HOKG HUP HST HOKm b0 b1 b2 hprm hsrt hbel6
            go_wp2
            go_roundw
            case rel => exact ⟨k + 1, some ⟨g, 0, none⟩, c, putAt ts j m, by omega, by first | rfl | trivial, by go_num, hb9, HPR, HSR, hown9⟩
            case measure => simp [intOf]; omega
          · as_aux_lemma =>
            have HROW := Lib.hid (HROW3.out.old hB)
            have HBK4 := Lib.hid (HBK.out.old hB)
            have HGR4 := Lib.hid (HGR.out.trans (below_grown hB _))
            have HOKy : Hid (∀ w2, W5.grownBy w2 (some g) → y.ok w2 w2.heap.size) := Lib.hid fun w2 h2 => HOKG.out y (by simp [hyts]) w2 (HGR4.out.trans h2)
            have hY : ∀ (i : Nat) (u : Value), y.cells[i]? = some u → W5.cell? ⟨g, (j - 1) * 3 + i, none⟩ = some u := fun i u hu => (bcell hB _ _ hgl).trans (HY.out i u hu)
            have y0 := hY 0 _ rfl
            have y1 := hY 1 _ rfl
            have y2 := hY 2 _ rfl
            rw [Nat.add_zero] at y0
            have HUP4 : Hid (∀ z ∈ ts.drop (j - 1), ltM m z = true) := Lib.hid fun z hz => by
              have hq : j - 1 < ts.length := by omega
              rw [List.drop_eq_getElem_cons hq] at hz
              rcases List.mem_cons.1 hz with rfl | hz
              · have := HTY.out
                rw [List.getElem?_eq_getElem hq] at this
                injection this with this
                rw [this]; exact HLB.out
              · rw [show j - 1 + 1 = j by omega] at hz
                exact HUP.out z hz
            have HPA : Hid ((putAt ts j X).set j y = putAt ts (j - 1) y) := Lib.hid (by rw [putAt_set ts j X y (by omega)]; exact putAt_down ts j y hj0 (by omega) HTY.out)
            clear HY HORDmy HLB HTY hB hgl HROW3 HGR hbl HBX HBK hyts hY HUP
            have e1 : ((j : Int) - 1) = ((j - 1 : Nat) : Int) := by omega
            go_wp2_with (first | (refine wpList_putR (m := y) (i := j) rfl _ _ rfl rfl rfl HROW.out (by omega) (fun w2 h2 => HOKy.out w2 h2) ?_; intro w9 p9 g9 z9))
            have HBK9 : Hid (Bk w9 gb 27 #[.int .i64 m.step, .int .i64 m.branch, .slice m.A m.rows.length m.c]) := Lib.hid (HBK4.out.grown g9 (by simpa using hgg))
            rw [HPA.out] at p9
            have HP9 := Lib.hid p9
            have HG9 := Lib.hid (HGR4.out.trans g9)
            clear p9 g9 HBK4 HROW HGR4 HPA
            go_wp2
            go_roundw
            case rel => exact ⟨j - 1, y, by omega, by go_num, HP9, HUP4, HBK9, HG9⟩
            case measure => simp [intOf]; omega
        · as_aux_lemma =>
          go_upto_region 7 with fail
          refine wp_region_b (by kernel_rfl) (fun qk => (dsR7f g c gb k j).getD qk .any) (by kernel_rfl) ?_ ?_
          · refine BOk.cons rfl [] [6] rfl rfl (by kernel_rfl) (by kernel_rfl) (fun qK qa wr hB qO qF hK => ?_) ?_
            · have e6 : qa.tmps[6]? = some (.int .i64 (j : Nat)) := qO.1.trans rfl
              clear qO qF
              exact op_move _ rfl (ev e6) (hK _ _ (Below.refl _ _) rfl)
            refine BOk.cons rfl [0] [] rfl rfl (by kernel_rfl) (by kernel_rfl) (fun qK qa wr hB qO qF hK => ?_) ?_
            · have e19 : qa.tmps[19]? = some (.int .i64 (j : Nat)) := fis qF.1 rfl rfl
              clear qO qF
              exact op_gtr _ _ _ _ rfl (ev e19) rfl (by simp; omega) (hK _ _ (Below.refl _ _) rfl)
            refine BOk.cons rfl [1] [] rfl rfl (by kernel_rfl) (by kernel_rfl) (fun qK qa wr hB qO qF hK => ?_) ?_
            · have e20 : qa.tmps[20]? = some (.bool false) := fis qF.1 rfl rfl
              clear qO qF
              exact op_move _ rfl (ev e20) (hK _ _ (Below.refl _ _) rfl)
            refine BOk.no rfl rfl 2 true rfl rfl rfl (by kernel_rfl) (fun _ => rfl) ?_
            refine BOk.no rfl rfl 2 true rfl rfl rfl (by kernel_rfl) (fun _ => rfl) ?_
            refine BOk.no rfl rfl 2 true rfl rfl rfl (by kernel_rfl) (fun _ => rfl) ?_
            refine BOk.no rfl rfl 2 true rfl rfl rfl (by kernel_rfl) (fun _ => rfl) ?_
            refine BOk.no rfl rfl 2 true rfl rfl rfl (by kernel_rfl) (fun _ => rfl) ?_
            refine BOk.no rfl rfl 2 true rfl rfl rfl (by kernel_rfl) (fun _ => rfl) ?_
            refine BOk.no rfl rfl 2 true rfl rfl rfl (by kernel_rfl) (fun _ => rfl) ?_
            refine BOk.no rfl rfl 2 true rfl rfl rfl (by kernel_rfl) (fun _ => rfl) ?_
            refine BOk.cons rfl [2] [] rfl rfl (by kernel_rfl) (by kernel_rfl) (fun qK qa wr hB qO qF hK => ?_) ?_
            · have e21 : qa.tmps[21]? = some (.bool false) := fis qF.1 rfl rfl
              clear qO qF
              exact op_pick _ _ _ rfl (ev e21) rfl rfl (hK _ _ (Below.refl _ _) rfl)
            exact BOk.nil
          intro vals W5 hl hB hR
          match vals, hl with
          | [u19, u20, u21, u22, u23, u24, u25, u26, u27, u28, u29, u30], _ =>
          have r11 : u30 = .bool false := hR 11 _ rfl
          subst r11
          clear hR
          simp only [List.cons_append, List.nil_append, putAll, Act.put, List.setIfInBounds_toArray, List.set_cons_zero, List.set_cons_succ]
          have HROW4 := Lib.hid (HROW3.out.old hB)
          have HBK4 := Lib.hid (HBK.out.old hB)
          have HGR4 := Lib.hid (HGR.out.trans (below_grown hB _))
          have HST : Hid (j = 0 ∨ ∀ y, ts[j - 1]? = some y → ltM m y = false) := Lib.hid (.inl (by omega))
          clear hB hgl HROW3 HGR hbl HBX HBK
          have hB4 := HBK4.out
          have b0 := hB4.cell 0
          have b1 := hB4.cell 1
          have b2 := hB4.cell 2
          have HOKm : Hid (∀ w2, W5.grownBy w2 (some g) → m.ok w2 w2.heap.size) := Lib.hid fun w2 h2 => HOKG.out m (by simp) w2 (HGR4.out.trans h2)
          clear hB4 HRD HOK
          go_wp2_with (first | (refine wpList_putR (m := m) (i := j) rfl _ _ rfl rfl rfl HROW4.out (by omega) (fun w2 h2 => HOKm.out w2 h2) ?_; intro w9 p9 g9 z9))
          rw [putAt_set ts j X m (by omega)] at p9
          have hb9 : Below w.heap.size w w9 := hbel6.grown (HGR4.out.trans g9) hbel6.size (fun q hq => by injection hq with hq; omega)
          have HPR : Hid ((putAt ts j m).Perm (ms.take (k + 1))) := Lib.hid (by
            rw [HNX.out]
            exact (putAt_perm ts j m).trans ((hprm.out.cons m).trans (List.perm_append_singleton m _).symm))
          have HSR : Hid ((putAt ts j m).Pairwise (Le ltM)) := Lib.hid (putAt_sorted cmp_lt (by omega) hsrt.out HUP.out HST.out)
          have hown9 := p9.own
          clear p9 g9 HBK4 HROW4 HGR4 HNX HOKS HOKG HUP HST HOKm b0 b1 b2 hprm hsrt hbel6
          go_wp2
          go_roundw
          case rel => exact ⟨k + 1, some ⟨g, 0, none⟩, c, putAt ts j m, by omega, by first | rfl | trivial, by go_num, hb9, HPR, HSR, hown9⟩
          case measure => simp [intOf]; omega
    · obtain rfl : k = ms.length := by omega
      rw [List.take_length] at hprm
      go_wp2
      go_ret
      first | exact ⟨A, c, ts, rfl, hprm.out, hsrt.out, hown, hbel⟩ | exact ⟨A, c, rfl, ts, hprm.out, hsrt.out, hown, hbel⟩ | exact ⟨A, c, rfl, ⟨ts, hprm.out, hsrt.out, hown⟩, hbel⟩
end Go.Proofs.YtbopndepklafgaaDoor
