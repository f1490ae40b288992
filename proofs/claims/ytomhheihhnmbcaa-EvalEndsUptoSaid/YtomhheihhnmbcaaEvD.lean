/- Layer 9: the document's sum. No conditions. -/
import Derived.Test.YtomhheihhnmbcaaEvC
import Derived.Test.YtomhheihhnmbcaaValZ
namespace Go.Proofs.Ytomhheihhnmbcaa
open Go.RowKit
set_option linter.unusedVariables false
set_option linter.unusedSimpArgs false

def addV (a b : V) : V := applyV 1 [a, b]
def sumV : List V → V
  | [] => none0
  | x :: l => l.foldl addV x
theorem sumV_snoc {l : List V} (h : l ≠ []) (x : V) : sumV (l ++ [x]) = addV (sumV l) x := by
  match l, h with
  | y :: l, _ => simp [sumV, List.foldl_append]
theorem sumV_take {l : List V} {n : Nat} (h : n + 1 < l.length) : sumV (l.take (n + 2)) = addV (sumV (l.take (n + 1))) l[n + 1] := by
  rw [List.take_succ_eq_append_getElem h, sumV_snoc]
  intro he
  have := congrArg List.length he
  rw [List.length_take, List.length_nil] at this
  omega
theorem bk_rd {w : World} {g : Nat} {t : TypeId} {cs : Array Value} (h : Bk w g t cs) : Rd w w.heap.size (some ⟨g, 0, none⟩) cs.toList :=
  .inr ⟨g, 0, rfl, h.lt, fun j u hu => by rw [Nat.zero_add, h.cell j]; simpa using hu⟩
theorem radd_bk (S X : V) (g : Nat) (w : World) (hk : Bk w g 46 #[.int .i64 S.k, .int .u64 S.b, .int .i64 X.k, .int .u64 X.b]) (hS : S.fits) (hX : X.fits) :
    Calls Try.prog 32 #[.int .i64 1, .slice (some ⟨g, 0, none⟩) 2 2] w fun e w' => e = .returned (addV S X).v ∧ Below w.heap.size w w' :=
  rapply_any 1 [S, X] _ 2 w (bk_rd hk) (by intro x hx; simp only [List.mem_cons, List.not_mem_nil, or_false] at hx; rcases hx with rfl | rfl <;> assumption) (by simp)
def evSum (S R X : V) (b o n c : Nat) : List Spec := [.is (.slice (some ⟨b, o, none⟩) (n + 2) c),
  .is (.slice (some ⟨b, o, none⟩) (n + 2) c),
  .is (.int .i64 (n + 2 : Nat)),
  .is (.int .i64 ((n + 1 : Nat) : Int)),
  .is (.slice (some ⟨b, o, none⟩) (n + 1) c),
  .is (.agg #[.int .i64 S.k, .int .u64 S.b]),
  .is (.slice (some ⟨b, o, none⟩) (n + 2) c),
  .is (.slice (some ⟨b, o, none⟩) (n + 2) c),
  .is (.int .i64 (n + 2 : Nat)),
  .is (.int .i64 ((n + 1 : Nat) : Int)),
  .is (.pointer (some ⟨b, o + (n + 1) * 2, none⟩)),
  .is (.agg #[.int .i64 X.k, .int .u64 X.b]),
  .st (fun v w => ∃ g, v = .slice (some ⟨g, 0, none⟩) 2 2 ∧ Bk w g 46 #[.int .i64 S.k, .int .u64 S.b, .int .i64 X.k, .int .u64 X.b]) (fun _ _ _ hb ⟨g, h1, h2⟩ => ⟨g, h1, h2.old hb⟩),
  .is (.agg #[.int .i64 R.k, .int .u64 R.b])]

theorem rsum_one (l : List V) (b o c : Nat) (w : World) (x : V) (hb : b < w.heap.size) (h0 : w.cell? ⟨b, o, none⟩ = some (.int .i64 x.k)) (h1 : w.cell? ⟨b, o + 1, none⟩ = some (.int .u64 x.b)) :
    Calls Try.prog 55 #[.slice (some ⟨b, o, none⟩) 1 c] w fun e w' => e = .returned x.v ∧ Below w.heap.size w w' := by
  go_enter Try.func55, Try.ntmps55
  go_wp2
  exact bodyPost_ret (v := .agg #[.int .i64 x.k, .int .u64 x.b]) (by simp [results, Try.results55, go_sem]) rfl ⟨rfl, by repeat (first | exact Below.refl _ _ | refine Below.setCell ?_ (by first | (simp; done) | (simp; omega)) _ | refine Below.alloc ?_ (by first | (simp; done) | (simp; omega)) _)⟩

set_option maxRecDepth 100000 in
set_option maxHeartbeats 4000000 in
theorem rsum_step (S X : V) (b o n c : Nat) (hn : n + 2 ≤ c) (hn2 : n + 2 ≤ 1048577) (w0 : World) (hS : S.fits) (hX : X.fits) (hb : b < w0.heap.size)
    (h0 : w0.cell? ⟨b, o + (n + 1) * 2, none⟩ = some (.int .i64 X.k)) (h1 : w0.cell? ⟨b, o + (n + 1) * 2 + 1, none⟩ = some (.int .u64 X.b))
    (ih : ∀ w : World, Below w0.heap.size w0 w → Calls Try.prog 55 #[.slice (some ⟨b, o, none⟩) (n + 1) c] w fun e w' => e = .returned S.v ∧ Below w.heap.size w w') :
    Calls Try.prog 55 #[.slice (some ⟨b, o, none⟩) (n + 2) c] w0 fun e w' => e = .returned (addV S X).v ∧ Below w0.heap.size w0 w' := by
  generalize hR : addV S X = R
  have HR := Lib.hid hR
  clear hR
  have IH := Lib.hid ih
  clear ih
  go_enter Try.func55, Try.ntmps55
  go_wp2_with fail
  have HW : Hid (Below w0.heap.size w0 (w0.alloc (.cells #[.int .i64 0, .int .u64 0] 46))) := Lib.hid ((Below.refl _ _).alloc (Nat.le_refl _) _)
  have cx0 := (bcell HW.out _ _ hb).trans h0
  have cx1 := (bcell HW.out _ _ hb).trans h1
  clear h0 h1
  have hws : IntKind.i64.wrap ((n : Int) + 2 - 1) = (n : Int) + 1 := by rw [IntKind.wrap_i64]; omega
  refine wp_region_t 14 (fun k => false) (by kernel_rfl) (fun qk => (evSum S R X b o n c).getD qk .any) (by kernel_rfl) ?_ ?_
  · refine BOk.cons rfl [] [0] rfl rfl (by kernel_rfl) (by kernel_rfl) (fun qK qa wr hB qO qF hK => ?_) ?_
    · have e0 : qa.tmps[0]? = some (.slice (some ⟨b, o, none⟩) (n + 2) c) := qO.1.trans rfl
      clear qO qF
      go_simp
      exact hK _ _ (Below.refl _ _) rfl
    refine BOk.cons rfl [] [0] rfl rfl (by kernel_rfl) (by kernel_rfl) (fun qK qa wr hB qO qF hK => ?_) ?_
    · have e0 : qa.tmps[0]? = some (.slice (some ⟨b, o, none⟩) (n + 2) c) := qO.1.trans rfl
      clear qO qF
      go_simp
      exact hK _ _ (Below.refl _ _) rfl
    refine BOk.cons rfl [1] [] rfl rfl (by kernel_rfl) (by kernel_rfl) (fun qK qa wr hB qO qF hK => ?_) ?_
    · obtain ⟨u10, e10, r1⟩ := qF.1
      have e10 : qa.tmps[10]? = some (.slice (some ⟨b, o, none⟩) (n + 2) c) := (show u10 = .slice (some ⟨b, o, none⟩) (n + 2) c from r1) ▸ e10
      clear r1
      clear qO qF
      go_simp
      exact hK _ _ (Below.refl _ _) rfl
    refine BOk.cons rfl [2] [] rfl rfl (by kernel_rfl) (by kernel_rfl) (fun qK qa wr hB qO qF hK => ?_) ?_
    · obtain ⟨u11, e11, r2⟩ := qF.1
      have e11 : qa.tmps[11]? = some (.int .i64 (n + 2 : Nat)) := (show u11 = .int .i64 (n + 2 : Nat) from r2) ▸ e11
      clear r2
      clear qO qF
      go_simp
      refine hK _ _ (Below.refl _ _) ?_
      show (_ : Value) = _
      first | rfl | (simp [hws]; done)
    refine BOk.cons rfl [0, 3] [] rfl rfl (by kernel_rfl) (by kernel_rfl) (fun qK qa wr hB qO qF hK => ?_) ?_
    · obtain ⟨u9, e9, r0⟩ := qF.1
      have e9 : qa.tmps[9]? = some (.slice (some ⟨b, o, none⟩) (n + 2) c) := (show u9 = .slice (some ⟨b, o, none⟩) (n + 2) c from r0) ▸ e9
      clear r0
      obtain ⟨u12, e12, r3⟩ := qF.2.1
      have e12 : qa.tmps[12]? = some (.int .i64 ((n + 1 : Nat) : Int)) := (show u12 = .int .i64 ((n + 1 : Nat) : Int) from r3) ▸ e12
      clear r3
      clear qO qF
      go_simp
      rw [if_pos ⟨by omega, by omega⟩]
      exact hK _ _ (Below.refl _ _) rfl
    refine BOk.cons rfl [4] [] rfl rfl (by kernel_rfl) (by kernel_rfl) (fun qK qa wr hB qO qF hK => ?_) ?_
    · obtain ⟨u13, e13, r4⟩ := qF.1
      have e13 : qa.tmps[13]? = some (.slice (some ⟨b, o, none⟩) (n + 1) c) := (show u13 = .slice (some ⟨b, o, none⟩) (n + 1) c from r4) ▸ e13
      clear r4
      clear qO qF
      go_simp
      go_at_call 55
      refine (IH.out _ (HW.out.trans (hB.mono HW.out.size))).mono ?_
      rintro e w2 ⟨rfl, hb2⟩
      exact hK _ _ hb2 rfl
    refine BOk.cons rfl [] [0] rfl rfl (by kernel_rfl) (by kernel_rfl) (fun qK qa wr hB qO qF hK => ?_) ?_
    · have e0 : qa.tmps[0]? = some (.slice (some ⟨b, o, none⟩) (n + 2) c) := qO.1.trans rfl
      clear qO qF
      go_simp
      exact hK _ _ (Below.refl _ _) rfl
    refine BOk.cons rfl [] [0] rfl rfl (by kernel_rfl) (by kernel_rfl) (fun qK qa wr hB qO qF hK => ?_) ?_
    · have e0 : qa.tmps[0]? = some (.slice (some ⟨b, o, none⟩) (n + 2) c) := qO.1.trans rfl
      clear qO qF
      go_simp
      exact hK _ _ (Below.refl _ _) rfl
    refine BOk.cons rfl [7] [] rfl rfl (by kernel_rfl) (by kernel_rfl) (fun qK qa wr hB qO qF hK => ?_) ?_
    · obtain ⟨u16, e16, r7⟩ := qF.1
      have e16 : qa.tmps[16]? = some (.slice (some ⟨b, o, none⟩) (n + 2) c) := (show u16 = .slice (some ⟨b, o, none⟩) (n + 2) c from r7) ▸ e16
      clear r7
      clear qO qF
      go_simp
      exact hK _ _ (Below.refl _ _) rfl
    refine BOk.cons rfl [8] [] rfl rfl (by kernel_rfl) (by kernel_rfl) (fun qK qa wr hB qO qF hK => ?_) ?_
    · obtain ⟨u17, e17, r8⟩ := qF.1
      have e17 : qa.tmps[17]? = some (.int .i64 (n + 2 : Nat)) := (show u17 = .int .i64 (n + 2 : Nat) from r8) ▸ e17
      clear r8
      clear qO qF
      go_simp
      refine hK _ _ (Below.refl _ _) ?_
      show (_ : Value) = _
      first | rfl | (simp [hws]; done)
    refine BOk.cons rfl [6, 9] [] rfl rfl (by kernel_rfl) (by kernel_rfl) (fun qK qa wr hB qO qF hK => ?_) ?_
    · obtain ⟨u15, e15, r6⟩ := qF.1
      have e15 : qa.tmps[15]? = some (.slice (some ⟨b, o, none⟩) (n + 2) c) := (show u15 = .slice (some ⟨b, o, none⟩) (n + 2) c from r6) ▸ e15
      clear r6
      obtain ⟨u18, e18, r9⟩ := qF.2.1
      have e18 : qa.tmps[18]? = some (.int .i64 ((n + 1 : Nat) : Int)) := (show u18 = .int .i64 ((n + 1 : Nat) : Int) from r9) ▸ e18
      clear r9
      clear qO qF
      go_simp
      refine hK _ _ (Below.refl _ _) ?_
      show (_ : Value) = _
      first | rfl | (simp; done) | (simp; omega) | go_num
    refine BOk.cons rfl [10] [] rfl rfl (by kernel_rfl) (by kernel_rfl) (fun qK qa wr hB qO qF hK => ?_) ?_
    · obtain ⟨u19, e19, r10⟩ := qF.1
      have e19 : qa.tmps[19]? = some (.pointer (some ⟨b, o + (n + 1) * 2, none⟩)) := (show u19 = .pointer (some ⟨b, o + (n + 1) * 2, none⟩) from r10) ▸ e19
      clear r10
      clear qO qF
      have hcx0 := (bcell hB _ _ (World.block_lt_of_cell? _ _ cx0)).trans cx0
      have hcx1 := (bcell hB _ _ (World.block_lt_of_cell? _ _ cx1)).trans cx1
      go_simp
      exact hK _ _ (Below.refl _ _) rfl
    refine BOk.cons rfl [5, 11] [] rfl rfl (by kernel_rfl) (by kernel_rfl) (fun qK qa wr hB qO qF hK => ?_) ?_
    · obtain ⟨u14, e14, r5⟩ := qF.1
      have e14 : qa.tmps[14]? = some (.agg #[.int .i64 S.k, .int .u64 S.b]) := (show u14 = .agg #[.int .i64 S.k, .int .u64 S.b] from r5) ▸ e14
      clear r5
      obtain ⟨u20, e20, r11⟩ := qF.2.1
      have e20 : qa.tmps[20]? = some (.agg #[.int .i64 X.k, .int .u64 X.b]) := (show u20 = .agg #[.int .i64 X.k, .int .u64 X.b] from r11) ▸ e20
      clear r11
      clear qO qF
      go_simp
      exact hK _ _ ((Below.refl _ _).alloc (Nat.le_refl _) _) ⟨_, rfl, Bk.new _ _ _⟩
    refine BOk.cons rfl [12] [] rfl rfl (by kernel_rfl) (by kernel_rfl) (fun qK qa wr hB qO qF hK => ?_) ?_
    · obtain ⟨u21, e21, r12⟩ := qF.1
      obtain ⟨g21, h21, k21⟩ := (show ∃ g, u21 = .slice (some ⟨g, 0, none⟩) 2 2 ∧ Bk wr g 46 #[.int .i64 S.k, .int .u64 S.b, .int .i64 X.k, .int .u64 X.b] from r12)
      subst h21
      have e21 : qa.tmps[21]? = some (.slice (some ⟨g21, 0, none⟩) 2 2) := e21
      clear qO qF
      go_simp
      go_at_call 32
      refine (radd_bk S X _ _ k21 hS hX).mono ?_
      rintro e w2 ⟨rfl, hb2⟩
      rw [HR.out]
      exact hK _ _ hb2 rfl
    exact BOk.nil
  intro vals wr hl hB hR hS
  match vals, hl with
  | [z9, z10, z11, z12, z13, z14, z15, z16, z17, z18, z19, z20, z21, z22], _ =>
  have r13 : z22 = .agg #[.int .i64 R.k, .int .u64 R.b] := hR 13 _ rfl
  subst r13
  clear hS
  clear hR
  simp only [List.take_succ_cons, List.take_zero, List.drop_succ_cons, List.drop_zero, List.toList_toArray, List.cons_append, List.nil_append, putAll, Act.put, List.setIfInBounds_toArray, List.set_cons_zero, List.set_cons_succ]
  have kr := (Bk.new w0 46 #[.int .i64 0, .int .u64 0]).old hB
  have hbel := HW.out.trans (hB.mono HW.out.size)
  obtain ⟨c0, c1, f0, f1⟩ := vcells kr
  obtain ⟨d0, d1, _, _⟩ := vcells (vput kr (.int .i64 R.k) (.int .u64 R.b))
  clear kr hB
  go_wp2_with fail
  exact bodyPost_ret (v := .agg #[.int .i64 R.k, .int .u64 R.b]) (by simp [results, Try.results55, go_sem, d0, d1]) rfl ⟨rfl, (hbel.setCell (Nat.le_refl _) _).setCell (Nat.le_refl _) _⟩

theorem addV_fits (a b : V) (ha : a.fits) (hb : b.fits) : (addV a b).fits := apply_fits _ _ (by intro x hx; simp only [List.mem_cons, List.not_mem_nil, or_false] at hx; rcases hx with rfl | rfl <;> assumption)
theorem rsum_any (l : List V) (b o c : Nat) (w0 : World) (hb : b < w0.heap.size) (hc : ∀ (j : Nat) (u : Value), (l.flatMap V.cells)[j]? = some u → w0.cell? ⟨b, o + j, none⟩ = some u) (hf : ∀ x ∈ l, x.fits) (hl : l.length ≤ 1048577) (hlc : l.length ≤ c) :
    ∀ (n : Nat), n + 1 ≤ l.length → (sumV (l.take (n + 1))).fits ∧ ∀ w : World, Below w0.heap.size w0 w → Calls Try.prog 55 #[.slice (some ⟨b, o, none⟩) (n + 1) c] w fun e w' => e = .returned (sumV (l.take (n + 1))).v ∧ Below w.heap.size w w' := by
  have at_ : ∀ (w : World), Below w0.heap.size w0 w → ∀ (k : Nat) (h : k < l.length), w.cell? ⟨b, o + k * 2, none⟩ = some (.int .i64 l[k].k) ∧ w.cell? ⟨b, o + k * 2 + 1, none⟩ = some (.int .u64 l[k].b) := by
    intro w hw k h
    have e0 := flat_at (n := 2) V.cells (fun _ => rfl) l k 0 h (by omega)
    have e1 := flat_at (n := 2) V.cells (fun _ => rfl) l k 1 h (by omega)
    exact ⟨(bcell hw _ _ hb).trans (hc _ _ e0), (bcell hw _ _ hb).trans (by have := hc _ _ e1; rwa [← Nat.add_assoc] at this)⟩
  intro n
  induction n with
  | zero =>
    intro h
    have e : sumV (l.take (0 + 1)) = l[0] := by
      match l, h with
      | x :: l, _ => rfl
    rw [e]
    refine ⟨hf _ (List.getElem_mem _), fun w hw => ?_⟩
    have h2 := at_ w hw 0 (by omega)
    rw [Nat.zero_mul, Nat.add_zero] at h2
    exact rsum_one l b o c w l[0] (Nat.lt_of_lt_of_le hb hw.size) h2.1 h2.2
  | succ n ih =>
    intro h
    obtain ⟨h1, h2⟩ := ih (by omega)
    have hlt : n + 1 < l.length := by omega
    rw [show n + 1 + 1 = n + 2 from rfl, sumV_take hlt]
    refine ⟨addV_fits _ _ h1 (hf _ (List.getElem_mem _)), fun w hw => ?_⟩
    have h3 := at_ w hw (n + 1) hlt
    exact rsum_step _ l[n + 1] b o n c (by omega) (by omega) w h1 (hf _ (List.getElem_mem _)) (Nat.lt_of_lt_of_le hb hw.size) h3.1 h3.2 (fun w' hw' => h2 w' (hw.trans (hw'.mono hw.size)))
end Go.Proofs.Ytomhheihhnmbcaa
