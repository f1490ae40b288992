/- The program's Apply at AND and OR of two. No conditions. -/
import Derived.Test.YtadblgfppnpamaaValF
namespace Go.Proofs.Ytadblgfppnpamaa
open Go.RowKit
set_option linter.unusedSimpArgs false
set_option linter.unusedVariables false
set_option maxRecDepth 20000

theorem leaves_eq {P : Program} {fn : Func} {T T' : Array Value} {R : Ending → World → Prop} (h : results fn T = results fn T') : ∀ (ds : List Deferred) (m : FrameMode) (w : World), Leaves P fn T R ds m w → Leaves P fn T' R ds m w
  | [], .returning, w => by unfold Leaves; rw [h]; exact id
  | [], .panicking c, w => id
  | [], .run, w => id
  | d :: ds, m, w => by
    unfold Leaves
    rintro ⟨hm, fv, cap, f, args, h1, h2, h3⟩
    refine ⟨hm, fv, cap, f, args, h1, h2, h3.mono ?_⟩
    intro e u' w' he
    cases e with
    | returned _ => exact leaves_eq h ds _ _ he
    | panicked _ => exact leaves_eq h ds _ _ he
    | outgrown => exact he
theorem res_put {a : Act} {d : Nat} {v : Value} (hd : d ≠ 4) : results Try.f48 (a.put (some d) v).tmps = results Try.f48 a.tmps := by
  simp [results, Try.results48, Act.put, hd]
theorem panic_put {R : Ending → World → Prop} {d : Nat} (v : Value) (hd : d ≠ 4) (c : List PanicEntry) (a : Act) (w : World) (h : bodyPostD Try.prog Try.f48 R (.panic c) (a.put (some d) v) w) : bodyPostD Try.prog Try.f48 R (.panic c) a w :=
  leaves_eq (res_put hd) _ _ _ h

theorem bk_ex {g t : Nat} {w w' : World} (h : ∃ (u v : Int), Bk w g t #[.int .i64 u, .int .u64 v]) (hb : Below w.heap.size w w') : ∃ (u v : Int), Bk w' g t #[.int .i64 u, .int .u64 v] := by
  obtain ⟨u, v, h⟩ := h
  exact ⟨u, v, h.old hb⟩

set_option maxHeartbeats 1600000 in
theorem apply_logic (op : Int) (x y : V) (hx : x.fits) (hy : y.fits) (A : Option Addr) (c : Nat) (w : World) (hr : Rd w w.heap.size A ([x, y].flatMap V.cells)) (hop : op = 13 ∨ op = 14) :
    Calls Try.prog 48 #[.int .i64 op, .slice A 2 c] w fun e w' => e = .returned ((logicV op x y).getD none0).v ∧ Below w.heap.size w w' := by
  have hmf : ∀ (fn : Fn) (first cap : Array Value) (w : World), (Instr.makeFunc fn first cap).run Try.prog w = .ok (.func fn first cap) w := fun _ _ _ _ => rfl
  obtain ⟨b, o, rfl, hb, hc⟩ := hr.at_ (j := 0) (by simp [V.cells])
  have hc0 : ∀ w', Below w.heap.size w w' → (∃ (u v : Int), Bk w' w.heap.size 31 #[.int .i64 u, .int .u64 v]) → Below w.heap.size w w' ∧ (∃ (u v : Int), Bk w' w.heap.size 31 #[.int .i64 u, .int .u64 v]) ∧ w'.cell? ⟨b, o, none⟩ = some (.int .i64 x.k) ∧ w'.cell? ⟨b, o + 1, none⟩ = some (.int .u64 x.b) ∧ w'.cell? ⟨b, o + 2, none⟩ = some (.int .i64 y.k) ∧ w'.cell? ⟨b, o + 3, none⟩ = some (.int .u64 y.b) := fun w' hw hk =>
    ⟨hw, hk, (hw.cell (p := ⟨b, o, none⟩) hb).trans (hc 0 _ rfl), (hw.cell (p := ⟨b, o + 1, none⟩) hb).trans (hc 1 _ rfl), (hw.cell (p := ⟨b, o + 2, none⟩) hb).trans (hc 2 _ rfl), (hw.cell (p := ⟨b, o + 3, none⟩) hb).trans (hc 3 _ rfl)⟩
  have HC := Lib.hid hc0
  clear hc hr hc0
  generalize hR : logicV op x y = R
  unfold logicV at hR
  have hlog : ∀ w, Calls Try.prog 58 #[.int .i64 (truthI x), .int .i64 (truthI y), .bool (op == 14)] w fun e w' => e = endsV R ∧ Below w.heap.size w w' := fun w => by have := logic_any (truthI x) (truthI y) (op == 14) w; rw [hR] at this; exact this
  clear hR
  rcases hop with rfl | rfl
  rotate_left
  all_goals simp only [Int.reduceBEq, beq_self_eq_true] at hlog
  rotate_left
  all_goals go_enter_defers Try.func48, Try.ntmps48
  all_goals go_wp2
  all_goals refine wp_region_held_drew (S := fun w' => Below w.heap.size w w' ∧ (∃ (u v : Int), Bk w' w.heap.size 31 #[.int .i64 u, .int .u64 v]) ∧ w'.cell? ⟨b, o, none⟩ = some (.int .i64 x.k) ∧ w'.cell? ⟨b, o + 1, none⟩ = some (.int .u64 x.b) ∧ w'.cell? ⟨b, o + 2, none⟩ = some (.int .i64 y.k) ∧ w'.cell? ⟨b, o + 3, none⟩ = some (.int .u64 y.b)) (by kernel_rfl) (HC.out _ (((Below.refl _ _).alloc (Nat.le_refl _) _).drew) ⟨_, _, (Bk.new w 31 #[.int .i64 0, .int .u64 0]).drew⟩) (fun hHeld => ?_)
  · refine wpAnyH_take (i := 0) (oi := _) (v := .slice (some ⟨b, o, none⟩) 2 c) rfl (by kernel_rfl) (by kernel_rfl) (by kernel_rfl) (panic_put _ (by decide)) (Or.inl ⟨by rfl, ?_⟩) hHeld ?_
    · intro w0 hS0
      obtain ⟨_, _, s0, s1, s2, s3⟩ := hS0
      go_simp
    simp only [Act.put, List.setIfInBounds_toArray, List.set_cons_zero, List.set_cons_succ]
    refine wpAnyH_take (i := 1) (oi := _) (v := .pointer (some ⟨b, o, none⟩)) rfl (by kernel_rfl) (by kernel_rfl) (by kernel_rfl) (panic_put _ (by decide)) (Or.inl ⟨by rfl, ?_⟩) hHeld ?_
    · intro w0 hS0
      obtain ⟨_, _, s0, s1, s2, s3⟩ := hS0
      go_simp
    simp only [Act.put, List.setIfInBounds_toArray, List.set_cons_zero, List.set_cons_succ]
    refine wpAnyH_take (i := 2) (oi := _) (v := .agg #[.int .i64 x.k, .int .u64 x.b]) rfl (by kernel_rfl) (by kernel_rfl) (by kernel_rfl) (panic_put _ (by decide)) (Or.inl ⟨by rfl, ?_⟩) hHeld ?_
    · intro w0 hS0
      obtain ⟨_, _, s0, s1, s2, s3⟩ := hS0
      go_simp
    simp only [Act.put, List.setIfInBounds_toArray, List.set_cons_zero, List.set_cons_succ]
    refine wpAnyH_take (i := 4) (oi := _) (v := .slice (some ⟨b, o, none⟩) 2 c) rfl (by kernel_rfl) (by kernel_rfl) (by kernel_rfl) (panic_put _ (by decide)) (Or.inl ⟨by rfl, ?_⟩) hHeld ?_
    · intro w0 hS0
      obtain ⟨_, _, s0, s1, s2, s3⟩ := hS0
      go_simp
    simp only [Act.put, List.setIfInBounds_toArray, List.set_cons_zero, List.set_cons_succ]
    refine wpAnyH_take (i := 5) (oi := _) (v := .pointer (some ⟨b, o + 2, none⟩)) rfl (by kernel_rfl) (by kernel_rfl) (by kernel_rfl) (panic_put _ (by decide)) (Or.inl ⟨by rfl, ?_⟩) hHeld ?_
    · intro w0 hS0
      obtain ⟨_, _, s0, s1, s2, s3⟩ := hS0
      go_simp
    simp only [Act.put, List.setIfInBounds_toArray, List.set_cons_zero, List.set_cons_succ]
    refine wpAnyH_take (i := 6) (oi := _) (v := .agg #[.int .i64 y.k, .int .u64 y.b]) rfl (by kernel_rfl) (by kernel_rfl) (by kernel_rfl) (panic_put _ (by decide)) (Or.inl ⟨by rfl, ?_⟩) hHeld ?_
    · intro w0 hS0
      obtain ⟨_, _, s0, s1, s2, s3⟩ := hS0
      go_simp
    simp only [Act.put, List.setIfInBounds_toArray, List.set_cons_zero, List.set_cons_succ]
    refine wpAnyH_take (i := 8) (oi := _) (v := .int .i64 13) rfl (by kernel_rfl) (by kernel_rfl) (by kernel_rfl) (panic_put _ (by decide)) (Or.inl ⟨by rfl, ?_⟩) hHeld ?_
    · intro w0 hS0
      obtain ⟨_, _, s0, s1, s2, s3⟩ := hS0
      go_simp
    simp only [Act.put, List.setIfInBounds_toArray, List.set_cons_zero, List.set_cons_succ]
    refine wpAnyH_take (i := 9) (oi := _) (v := .bool false) rfl (by kernel_rfl) (by kernel_rfl) (by kernel_rfl) (panic_put _ (by decide)) (Or.inl ⟨by rfl, ?_⟩) hHeld ?_
    · intro w0 hS0
      obtain ⟨_, _, s0, s1, s2, s3⟩ := hS0
      go_simp
    simp only [Act.put, List.setIfInBounds_toArray, List.set_cons_zero, List.set_cons_succ]
    refine wpAnyH_ready (rs := [3]) (by kernel_rfl) (by simp) (AllReadyH.cons (o := _) rfl (fun K hK => ?_) AllReadyH.nil)
    go_simp
    refine (truth_any x hx _).mono ?_
    rintro e w1 ⟨rfl, hb1⟩
    go_wp2_with fail
    refine hK.out _ _ (HC.out _ (hHeld.1.trans (hb1.mono hHeld.1.size)) (bk_ex hHeld.2.1 hb1)) (fun hHeld => ?_)
    clear hK K
    try simp only [Act.put, List.setIfInBounds_toArray, List.set_cons_zero, List.set_cons_succ]
    refine wpAnyH_ready (rs := [7]) (by kernel_rfl) (by simp) (AllReadyH.cons (o := _) rfl (fun K hK => ?_) AllReadyH.nil)
    go_simp
    refine (truth_any y hy _).mono ?_
    rintro e w1 ⟨rfl, hb1⟩
    go_wp2_with fail
    refine hK.out _ _ (HC.out _ (hHeld.1.trans (hb1.mono hHeld.1.size)) (bk_ex hHeld.2.1 hb1)) (fun hHeld => ?_)
    clear hK K
    try simp only [Act.put, List.setIfInBounds_toArray, List.set_cons_zero, List.set_cons_succ]
    refine wpAnyH_ready (rs := [10]) (by kernel_rfl) (by simp) (AllReadyH.cons (o := _) rfl (fun K hK => ?_) AllReadyH.nil)
    go_simp
    refine (hlog _).mono ?_
    rintro e w2 ⟨rfl, hb2⟩
    have hbel := hHeld.1.trans (hb2.mono hHeld.1.size)
    have hex := bk_ex hHeld.2.1 hb2
    obtain ⟨ku, kv, hb0⟩ := id hex
    clear hb2
    cases R with
    | none =>
      simp only [endsV, thrown]
      refine leaves_cons (f := 57) (args := #[.pointer (some ⟨w.heap.size, 0, none⟩)]) (by simp) (by simp [go_sem]) ?_
      refine (catch_panicking w.heap.size _ _ _ hb0).mono ?_
      rintro e u' w'' ⟨rfl, rfl, hk, hbb⟩
      obtain ⟨d0, d1, _, _⟩ := vcells hk
      have hB := hbb w.heap.size w hbel (Nat.le_refl _) hbel.size
      simp [Leaves, settle, results, Try.results48, go_sem, d0, d1]
      exact ⟨rfl, hB⟩
    | some r =>
      obtain ⟨rk, rb⟩ := r
      simp only [endsV, V.v]
      go_wp2_with fail
      refine hK.out _ _ (HC.out _ hbel hex) (fun hHeld => ?_)
      clear hK K
      try simp only [Act.put, List.setIfInBounds_toArray, List.set_cons_zero, List.set_cons_succ]
      refine wpAnyH_ready (rs := [11]) (by kernel_rfl) (by simp) (AllReadyH.cons (o := _) rfl (fun K hK => ?_) AllReadyH.nil)
      obtain ⟨c0, c1, f0, f1⟩ := vcells hb0
      obtain ⟨d0, d1, _, _⟩ := vcells (vput hb0 (.int .i64 rk) (.int .u64 rb))
      have hB : Below w.heap.size w ((w2.setCell ⟨w.heap.size, 0, none⟩ (.int .i64 rk)).setCell ⟨w.heap.size, 1, none⟩ (.int .u64 rb)) := (hbel.setCell (Nat.le_refl _) _).setCell (Nat.le_refl _) _
      have hex2 : ∃ (u v : Int), Bk ((w2.setCell ⟨w.heap.size, 0, none⟩ (.int .i64 rk)).setCell ⟨w.heap.size, 1, none⟩ (.int .u64 rb)) w.heap.size 31 #[.int .i64 u, .int .u64 v] := ⟨_, _, vput hb0 _ _⟩
      go_simp
      refine hK.out _ _ (HC.out _ hB hex2) (fun hHeld => ?_)
      clear hK K
      try simp only [Act.put, List.setIfInBounds_toArray, List.set_cons_zero, List.set_cons_succ]
      refine wpAnyH_done (by kernel_rfl) ?_ _
      clear hHeld
      go_wp2
      refine leaves_cons (f := 57) (args := #[.pointer (some ⟨w.heap.size, 0, none⟩)]) (by simp) (by simp [go_sem]) ?_
      refine (catch_idle w.heap.size _).mono ?_
      rintro e u' w'' ⟨rfl, rfl, rfl⟩
      simp [Leaves, settle, results, Try.results48, go_sem, d0, d1]
      exact ⟨rfl, hB⟩
  · refine wpAnyH_take (i := 0) (oi := _) (v := .slice (some ⟨b, o, none⟩) 2 c) rfl (by kernel_rfl) (by kernel_rfl) (by kernel_rfl) (panic_put _ (by decide)) (Or.inl ⟨by rfl, ?_⟩) hHeld ?_
    · intro w0 hS0
      obtain ⟨_, _, s0, s1, s2, s3⟩ := hS0
      go_simp
    simp only [Act.put, List.setIfInBounds_toArray, List.set_cons_zero, List.set_cons_succ]
    refine wpAnyH_take (i := 1) (oi := _) (v := .pointer (some ⟨b, o, none⟩)) rfl (by kernel_rfl) (by kernel_rfl) (by kernel_rfl) (panic_put _ (by decide)) (Or.inl ⟨by rfl, ?_⟩) hHeld ?_
    · intro w0 hS0
      obtain ⟨_, _, s0, s1, s2, s3⟩ := hS0
      go_simp
    simp only [Act.put, List.setIfInBounds_toArray, List.set_cons_zero, List.set_cons_succ]
    refine wpAnyH_take (i := 2) (oi := _) (v := .agg #[.int .i64 x.k, .int .u64 x.b]) rfl (by kernel_rfl) (by kernel_rfl) (by kernel_rfl) (panic_put _ (by decide)) (Or.inl ⟨by rfl, ?_⟩) hHeld ?_
    · intro w0 hS0
      obtain ⟨_, _, s0, s1, s2, s3⟩ := hS0
      go_simp
    simp only [Act.put, List.setIfInBounds_toArray, List.set_cons_zero, List.set_cons_succ]
    refine wpAnyH_take (i := 4) (oi := _) (v := .slice (some ⟨b, o, none⟩) 2 c) rfl (by kernel_rfl) (by kernel_rfl) (by kernel_rfl) (panic_put _ (by decide)) (Or.inl ⟨by rfl, ?_⟩) hHeld ?_
    · intro w0 hS0
      obtain ⟨_, _, s0, s1, s2, s3⟩ := hS0
      go_simp
    simp only [Act.put, List.setIfInBounds_toArray, List.set_cons_zero, List.set_cons_succ]
    refine wpAnyH_take (i := 5) (oi := _) (v := .pointer (some ⟨b, o + 2, none⟩)) rfl (by kernel_rfl) (by kernel_rfl) (by kernel_rfl) (panic_put _ (by decide)) (Or.inl ⟨by rfl, ?_⟩) hHeld ?_
    · intro w0 hS0
      obtain ⟨_, _, s0, s1, s2, s3⟩ := hS0
      go_simp
    simp only [Act.put, List.setIfInBounds_toArray, List.set_cons_zero, List.set_cons_succ]
    refine wpAnyH_take (i := 6) (oi := _) (v := .agg #[.int .i64 y.k, .int .u64 y.b]) rfl (by kernel_rfl) (by kernel_rfl) (by kernel_rfl) (panic_put _ (by decide)) (Or.inl ⟨by rfl, ?_⟩) hHeld ?_
    · intro w0 hS0
      obtain ⟨_, _, s0, s1, s2, s3⟩ := hS0
      go_simp
    simp only [Act.put, List.setIfInBounds_toArray, List.set_cons_zero, List.set_cons_succ]
    refine wpAnyH_take (i := 8) (oi := _) (v := .int .i64 14) rfl (by kernel_rfl) (by kernel_rfl) (by kernel_rfl) (panic_put _ (by decide)) (Or.inl ⟨by rfl, ?_⟩) hHeld ?_
    · intro w0 hS0
      obtain ⟨_, _, s0, s1, s2, s3⟩ := hS0
      go_simp
    simp only [Act.put, List.setIfInBounds_toArray, List.set_cons_zero, List.set_cons_succ]
    refine wpAnyH_take (i := 9) (oi := _) (v := .bool true) rfl (by kernel_rfl) (by kernel_rfl) (by kernel_rfl) (panic_put _ (by decide)) (Or.inl ⟨by rfl, ?_⟩) hHeld ?_
    · intro w0 hS0
      obtain ⟨_, _, s0, s1, s2, s3⟩ := hS0
      go_simp
    simp only [Act.put, List.setIfInBounds_toArray, List.set_cons_zero, List.set_cons_succ]
    refine wpAnyH_ready (rs := [3]) (by kernel_rfl) (by simp) (AllReadyH.cons (o := _) rfl (fun K hK => ?_) AllReadyH.nil)
    go_simp
    refine (truth_any x hx _).mono ?_
    rintro e w1 ⟨rfl, hb1⟩
    go_wp2_with fail
    refine hK.out _ _ (HC.out _ (hHeld.1.trans (hb1.mono hHeld.1.size)) (bk_ex hHeld.2.1 hb1)) (fun hHeld => ?_)
    clear hK K
    try simp only [Act.put, List.setIfInBounds_toArray, List.set_cons_zero, List.set_cons_succ]
    refine wpAnyH_ready (rs := [7]) (by kernel_rfl) (by simp) (AllReadyH.cons (o := _) rfl (fun K hK => ?_) AllReadyH.nil)
    go_simp
    refine (truth_any y hy _).mono ?_
    rintro e w1 ⟨rfl, hb1⟩
    go_wp2_with fail
    refine hK.out _ _ (HC.out _ (hHeld.1.trans (hb1.mono hHeld.1.size)) (bk_ex hHeld.2.1 hb1)) (fun hHeld => ?_)
    clear hK K
    try simp only [Act.put, List.setIfInBounds_toArray, List.set_cons_zero, List.set_cons_succ]
    refine wpAnyH_ready (rs := [10]) (by kernel_rfl) (by simp) (AllReadyH.cons (o := _) rfl (fun K hK => ?_) AllReadyH.nil)
    go_simp
    refine (hlog _).mono ?_
    rintro e w2 ⟨rfl, hb2⟩
    have hbel := hHeld.1.trans (hb2.mono hHeld.1.size)
    have hex := bk_ex hHeld.2.1 hb2
    obtain ⟨ku, kv, hb0⟩ := id hex
    clear hb2
    cases R with
    | none =>
      simp only [endsV, thrown]
      refine leaves_cons (f := 57) (args := #[.pointer (some ⟨w.heap.size, 0, none⟩)]) (by simp) (by simp [go_sem]) ?_
      refine (catch_panicking w.heap.size _ _ _ hb0).mono ?_
      rintro e u' w'' ⟨rfl, rfl, hk, hbb⟩
      obtain ⟨d0, d1, _, _⟩ := vcells hk
      have hB := hbb w.heap.size w hbel (Nat.le_refl _) hbel.size
      simp [Leaves, settle, results, Try.results48, go_sem, d0, d1]
      exact ⟨rfl, hB⟩
    | some r =>
      obtain ⟨rk, rb⟩ := r
      simp only [endsV, V.v]
      go_wp2_with fail
      refine hK.out _ _ (HC.out _ hbel hex) (fun hHeld => ?_)
      clear hK K
      try simp only [Act.put, List.setIfInBounds_toArray, List.set_cons_zero, List.set_cons_succ]
      refine wpAnyH_ready (rs := [11]) (by kernel_rfl) (by simp) (AllReadyH.cons (o := _) rfl (fun K hK => ?_) AllReadyH.nil)
      obtain ⟨c0, c1, f0, f1⟩ := vcells hb0
      obtain ⟨d0, d1, _, _⟩ := vcells (vput hb0 (.int .i64 rk) (.int .u64 rb))
      have hB : Below w.heap.size w ((w2.setCell ⟨w.heap.size, 0, none⟩ (.int .i64 rk)).setCell ⟨w.heap.size, 1, none⟩ (.int .u64 rb)) := (hbel.setCell (Nat.le_refl _) _).setCell (Nat.le_refl _) _
      have hex2 : ∃ (u v : Int), Bk ((w2.setCell ⟨w.heap.size, 0, none⟩ (.int .i64 rk)).setCell ⟨w.heap.size, 1, none⟩ (.int .u64 rb)) w.heap.size 31 #[.int .i64 u, .int .u64 v] := ⟨_, _, vput hb0 _ _⟩
      go_simp
      refine hK.out _ _ (HC.out _ hB hex2) (fun hHeld => ?_)
      clear hK K
      try simp only [Act.put, List.setIfInBounds_toArray, List.set_cons_zero, List.set_cons_succ]
      refine wpAnyH_done (by kernel_rfl) ?_ _
      clear hHeld
      go_wp2
      refine leaves_cons (f := 57) (args := #[.pointer (some ⟨w.heap.size, 0, none⟩)]) (by simp) (by simp [go_sem]) ?_
      refine (catch_idle w.heap.size _).mono ?_
      rintro e u' w'' ⟨rfl, rfl, rfl⟩
      simp [Leaves, settle, results, Try.results48, go_sem, d0, d1]
      exact ⟨rfl, hB⟩
end Go.Proofs.Ytadblgfppnpamaa
