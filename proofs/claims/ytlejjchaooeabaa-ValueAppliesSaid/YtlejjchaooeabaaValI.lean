/- The program's Apply at every list; the law's all, num, do, awake. No conditions. -/
import Derived.Test.YtlejjchaooeabaaValH
namespace Go.Proofs.Ytlejjchaooeabaa
open Go.RowKit
set_option linter.unusedSimpArgs false
set_option linter.unusedVariables false

theorem apply_any (op : Int) (l : List V) (A : Option Addr) (c : Nat) (w : World) (hr : Rd w w.heap.size A (l.flatMap V.cells)) (hf : ∀ x ∈ l, x.fits) (hl : l.length * 16 ≤ 140737488351232) :
    Calls Try.prog 21 #[.int .i64 op, .slice A l.length c] w fun e w' => e = .returned (applyV op l).v ∧ Below w.heap.size w w' := by
  by_cases h2 : l.length = 2
  · match l, h2, hr, hf with
    | [x, y], _, hr, hf =>
      by_cases hop : op = 13 ∨ op = 14
      · have := apply_logic op x y (hf x (by simp)) (hf y (by simp)) A c w hr hop
        rw [show applyV op [x, y] = (logicV op x y).getD none0 from if_pos hop]
        exact this
      · have := apply_two op [x, y] A c w hr hf (by simp) rfl (by rw [beq_eq_false_iff_ne]; omega) (by rw [beq_eq_false_iff_ne]; omega)
        rw [show applyV op [x, y] = (restV op [x, y]).getD none0 from if_neg hop]
        exact this
  · have := apply_one op l A c w hr hf hl h2
    rw [show applyV op l = (restV op l).getD none0 from by
      match l, h2 with
      | [], _ => rfl
      | [_], _ => rfl
      | [_, _], h2 => exact absurd rfl h2
      | _ :: _ :: _ :: _, _ => rfl]
    exact this

theorem all_any (l : List V) (A : Option Addr) (c : Nat) (w : World) (hr : Rd w w.heap.size A (l.flatMap V.cells)) (hl : l.length * 16 ≤ 140737488351232) :
    Calls Try.prog 20 #[.slice A l.length c] w fun e w' => ∃ A' c', e = .returned (.slice A' l.length c') ∧ w'.ownsRow w.heap.size 27 2 (.slice A' l.length c') l.length (l.flatMap V.cells) ∧ Below w.heap.size w w' := by
  obtain ⟨iV, hV, hV0, hV1, hV2⟩ := info_parts infoV
  go_enter Try.func20, Try.ntmps20
  go_wp2
  go_loopw [3, 8] (fun vs i wr => ∃ (k : Nat) (Av : Option Addr) (cv : Nat), k ≤ l.length ∧ i = .int .i64 k ∧ vs = .slice Av k cv ∧ Below w.heap.size w wr ∧
      wr.ownsRow w.heap.size 27 2 vs k ((l.take k).flatMap V.cells)) (fun _ i _ => l.length - (intOf i).toNat)
  case atStart => exact ⟨0, none, 0, Nat.zero_le _, rfl, rfl, Below.refl _ _, World.ownsRow_nil _ _ _ _⟩
  case round =>
    obtain ⟨k, Av, cv, hk, rfl, rfl, hbel, hown⟩ := hrel
    by_cases hlt : k < l.length
    · obtain ⟨b, o, rfl, hb, hc⟩ := (hr.below hbel).elem (f := V.cells) (n := 2) (fun _ => rfl) (by omega) hlt
      have hc0 : wr.cell? ⟨b, o + k * 2, none⟩ = some (.int .i64 l[k].k) := hc 0 _ rfl
      have hc1 : wr.cell? ⟨b, o + k * 2 + 1, none⟩ = some (.int .u64 l[k].b) := hc 1 _ rfl
      clear hc
      go_wp2_with fail
      refine (to_any l[k] _).mono ?_
      rintro e w1 ⟨rfl, hb1⟩
      have hown := own_old (hown.alloc _) hb1
      have hbel : Below w.heap.size w w1 := (hbel.alloc hbel.size _).trans (hb1.mono (by have := hbel.size; simp; omega))
      have hz := hbel.size
      clear hb1 hc0 hc1
      simp only [V.v]
      go_wp2_with (at_builtin; refine wpList_append_rd rfl _ _ 36 rfl w.heap.size 27 iV _ 2 16 Try.underlying36 hV hV0 hV1 hV2 rfl (by decide) (.slice Av k cv) k ((l.take k).flatMap V.cells) rfl (hown.alloc _) (w1.heap.size + 1) (some ⟨w1.heap.size, 0, none⟩) 1 1 (l[k].cells) rfl (Rd.lit rfl _ _) rfl ?c2 ?c3 ?c4 ?c5 ?_)
      case c2 => intro u hu; simp [V.cells] at hu; rcases hu with rfl | rfl <;> rfl
      case c3 => unfold maxLen; omega
      case c4 => omega
      case c5 => simp; omega
      intro A2 c2 w2 hown2 hg _
      have hbel2 : Below w.heap.size w w2 := below_own (hbel.alloc hz _) (hown.alloc _) (Nat.le_refl _) hg (by simp; omega)
      clear hg hown
      rw [flat_snoc V.cells l k hlt] at hown2
      go_wp2
      go_roundw
      case rel => exact ⟨k + 1, A2, c2, by omega, by go_num, rfl, hbel2, hown2⟩
      case measure => simp [intOf]; omega
    · obtain rfl : k = l.length := by omega
      rw [List.take_length] at hown
      go_wp2
      go_ret
      exact ⟨Av, cv, rfl, hown, hbel⟩

theorem num_any (n : Int) (w : World) : Calls Try.prog 24 #[.int .i64 n] w fun e w' => e = .returned (intV n).v ∧ Below w.heap.size w w' := by
  go_enter Try.func24, Try.ntmps24
  obtain ⟨c0, c1, f0, f1⟩ := vcells (Bk.new w 24 #[.int .i64 0, .int .u64 0])
  obtain ⟨d0, d1, _, _⟩ := vcells (vput (Bk.new w 24 #[.int .i64 0, .int .u64 0]) (.int .i64 1) (.int .u64 (IntKind.u64.wrap n)))
  go_wp2
  exact bodyPost_ret (v := .agg #[.int .i64 1, .int .u64 (IntKind.u64.wrap n)]) (by simp [results, Try.results24, go_sem, d0, d1]) rfl ⟨by simp only [intV, V.v, un_wrap], by repeat (first | exact Below.refl _ _ | refine Below.setCell ?_ (Nat.le_refl _) _ | refine Below.alloc ?_ (by simp) _)⟩

theorem do_any (op : Int) (l : List V) (A : Option Addr) (c : Nat) (w : World) (hr : Rd w w.heap.size A (l.flatMap V.cells)) (hf : ∀ x ∈ l, x.fits) (hl : l.length * 16 ≤ 140737488351232) :
    Calls Try.prog 23 #[.int .i64 op, .slice A l.length c] w fun e w' => e = .returned (applyV op l).v ∧ Below w.heap.size w w' := by
  have HF := Lib.hid hf
  clear hf
  generalize hR : applyV op l = R
  go_enter Try.func23, Try.ntmps23
  go_wp2_with fail
  refine (all_any l A c _ (hr.below ((Below.refl _ _).alloc (Nat.le_refl _) _) |>.more (by simp)) hl).mono ?_
  rintro e w1 ⟨A', c', rfl, hown, hb1⟩
  have k1 := (Bk.new w 24 #[.int .i64 0, .int .u64 0]).old hb1
  have hbel : Below w.heap.size w w1 := ((Below.refl _ _).alloc (Nat.le_refl _) _).trans (hb1.mono (by simp))
  have hrd := own_rd hown
  clear hb1 hown
  go_wp2_with fail
  refine (apply_any op l A' c' _ hrd HF.out hl).mono ?_
  rintro e w2 ⟨rfl, hb2⟩
  rw [hR]
  clear hrd hR
  have k2 := k1.old hb2
  have hbel := hbel.trans (hb2.mono hbel.size)
  clear hb2 k1
  go_wp2_with fail
  refine (of_any R _).mono ?_
  rintro e w3 ⟨rfl, hb3⟩
  have k3 := k2.old hb3
  have hbel := hbel.trans (hb3.mono hbel.size)
  clear hb3 k2
  obtain ⟨k, b⟩ := R
  simp only [V.v]
  obtain ⟨c0, c1, f0, f1⟩ := vcells k3
  obtain ⟨d0, d1, _, _⟩ := vcells (vput k3 (.int .i64 k) (.int .u64 b))
  go_wp2
  exact bodyPost_ret (v := .agg #[.int .i64 k, .int .u64 b]) (by simp [results, Try.results23, go_sem, d0, d1]) rfl ⟨rfl, (hbel.setCell (Nat.le_refl _) _).setCell (Nat.le_refl _) _⟩

theorem apply_awake : applyV 1 [intV 2, intV 3] = intV 5 := by
  simp [applyV, restV, resK, twoK, clean, intV, intsV, numV, fitI, wrap64, un]
theorem intV_fits (n : Int) : (intV n).fits := un_lt n
theorem awake_any (w : World) : Calls Try.prog 13 #[] w fun e w' => e = .returned (.bool true) ∧ Below w.heap.size w w' := by
  go_enter Try.func13, Try.ntmps13
  go_wp2_with fail
  refine (num_any 2 _).mono ?_
  rintro e w1 ⟨rfl, hb1⟩
  go_wp2_with fail
  refine (num_any 3 _).mono ?_
  rintro e w2 ⟨rfl, hb2⟩
  have hbel := hb1.trans (hb2.mono hb1.size)
  clear hb1 hb2
  simp only [V.v]
  go_wp2_with fail
  have hd := do_any 1 [intV 2, intV 3] (some ⟨w2.heap.size, 0, none⟩) 2 _ (Rd.lit rfl #[.int .i64 (intV 2).k, .int .u64 (intV 2).b, .int .i64 (intV 3).k, .int .u64 (intV 3).b] 24 |>.more (by simp)) (by intro x hx; simp at hx; rcases hx with rfl | rfl <;> exact intV_fits _) (by simp)
  rw [apply_awake] at hd
  refine hd.mono ?_
  rintro e w3 ⟨rfl, hb3⟩
  have hbel : Below w.heap.size w w3 := (hbel.alloc hbel.size _).trans (hb3.mono (by have := hbel.size; simp; omega))
  clear hb3 hd
  go_wp2_with fail
  refine (num_any 5 _).mono ?_
  rintro e w4 ⟨rfl, hb4⟩
  have hbel := hbel.trans (hb4.mono hbel.size)
  clear hb4
  simp only [V.v]
  go_wp2
  go_ret
  exact ⟨by simp, hbel⟩
end Go.Proofs.Ytlejjchaooeabaa
