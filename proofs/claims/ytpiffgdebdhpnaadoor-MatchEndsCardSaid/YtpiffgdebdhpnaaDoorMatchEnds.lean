/- MatchEnds holds. No conditions. -/
import Derived.Test.YtpiffgdebdhpnaaDoorMatW
import Derived.Test.YtpiffgdebdhpnaaDoorMatT
namespace Go.Proofs.YtpiffgdebdhpnaaDoor.matchEnds
open Go.ChangeShapes Go.WideShapes Go.ChangeAt Go.RowKit
open Go.ChangeMaps (open_string shut_string)
set_option linter.unusedSimpArgs false
set_option linter.unusedVariables false

theorem good_q {st br n : Int} {L : List (List Int)} (h : goodB st br n L = true) : ∃ q, partsT (-1) L = some q ∧ 0 ≤ br ∧ 0 ≤ q ∧ q < n ∧ q ≤ st ∧ st ≤ n := by
  unfold goodB at h
  split at h
  · cases h
  · rename_i q hq
    simp only [lastB, Bool.and_eq_true, decide_eq_true_eq] at h
    exact ⟨q, hq, h⟩
theorem good_facts {st br n : Int} {L : List (List Int)} (h : goodB st br n L = true) : 0 ≤ st ∧ 0 < n ∧ 0 < L.length := by
  obtain ⟨q, hq, h1, h2, h3, h4, h5⟩ := good_q h
  refine ⟨by omega, by omega, ?_⟩
  cases L with
  | nil => simp [partsT] at hq; omega
  | cons _ _ => simp
theorem good_up {st br n : Int} {L : List (List Int)} (h : goodB st br n L = true) : goodB st br (n + 1) L = true := by
  obtain ⟨q, hq, h1, h2, h3, h4, h5⟩ := good_q h
  unfold goodB
  rw [hq]
  show lastB st br (n + 1) q = true
  simp only [lastB, Bool.and_eq_true, decide_eq_true_eq]
  omega
theorem good_zero (st br n : Int) : goodB st br n [] = false := by simp [goodB, partsT, lastB]
theorem good_early (st br : Int) (L : List (List Int)) : goodB st br (st - 1) L = false := by
  unfold goodB
  split
  · rfl
  · rename_i q hq
    cases h : lastB st br (st - 1) q with
    | false => rfl
    | true =>
      simp only [lastB, Bool.and_eq_true, decide_eq_true_eq] at h
      omega
theorem parts_hole : ∀ (L : List (List Int)) (p : Int), [] ∈ L → partsT p L = none
  | l :: L, p, h => by
    show (if l.length = 0 then none else match ascT p l with | none => none | some q => partsT q L) = none
    by_cases h0 : l.length = 0
    · rw [if_pos h0]
    · rw [if_neg h0]
      have h1 : [] ∈ L := by
        rcases List.mem_cons.1 h with h | h
        · rw [← h] at h0; exact absurd rfl h0
        · exact h
      cases ascT p l with
      | none => rfl
      | some q => exact parts_hole L q h1
theorem good_hole (st br n : Int) (L : List (List Int)) (h : [] ∈ L) : goodB st br n L = false := by
  unfold goodB
  rw [parts_hole L _ h]
theorem flat_set (z : RowV) : ∀ (rows : List RowV) (i : Nat), (rows.set i z).flatMap RowV.cells = (rows.flatMap RowV.cells).set i (.slice z.A z.l.length z.c)
  | [], i => by simp
  | r :: rows, 0 => by simp [RowV.cells]
  | r :: rows, i + 1 => by
    have ih := flat_set z rows i
    simp only [List.set_cons_succ, List.flatMap_cons, RowV.cells] at ih ⊢
    rw [ih]; rfl
def zeroR : RowV := ⟨none, 0, []⟩
set_option maxRecDepth 100000 in
set_option maxHeartbeats 4000000 in
theorem walk (w : World) (he : Env w) (m : MatV) (hm : m.ok w w.heap.size) (n : Int) :
    Calls Tryd.prog 6 #[m.val, .int .i64 n] w fun e w' => e = .returned (.bool true) ∧ Below w.heap.size w w' := by
  have HE := Lib.hid he
  have HM := Lib.hid hm
  have hst := hm.stepR
  have HG : Hid (∀ (k : Int) (g : Bool) (W : World), m.ok W W.heap.size → goodB m.step m.branch k m.L = g → Calls Tryd.prog 11 #[m.val, .int .i64 k] W fun r w' => r = .returned (.bool g) ∧ Below W.heap.size W w') := Lib.hid fun k g W h1 h2 => by
    have h := good_any m k W h1
    rw [h2] at h
    exact h
  have HZ : Hid (∀ W : World, Calls Tryd.prog 11 #[.agg #[.int .i64 m.step, .int .i64 m.branch, .slice none 0 0], .int .i64 n] W fun r w' => r = .returned (.bool false) ∧ Below W.heap.size W w') := Lib.hid fun W => by
    have h := good_any ⟨m.step, m.branch, none, 0, []⟩ n W ⟨Rd.nil, by simp, by simp, hm.stepR, hm.branchR⟩
    rw [show goodB (⟨m.step, m.branch, none, 0, []⟩ : MatV).step (⟨m.step, m.branch, none, 0, []⟩ : MatV).branch n (⟨m.step, m.branch, none, 0, []⟩ : MatV).L = false from good_zero _ _ _] at h
    exact h
  clear he hm
  unfold MatV.val at HG ⊢
  go_enter Tryd.func6, Tryd.ntmps6
  have x0 := Bk.new w 24 #[.int .i64 m.step, .int .i64 m.branch, .slice m.A m.rows.length m.c]
  have hbW : Below w.heap.size w (w.alloc (.cells #[.int .i64 m.step, .int .i64 m.branch, .slice m.A m.rows.length m.c] 24)) := (Below.refl _ _).alloc (Nat.le_refl _) _
  go_wp2_with fail
  generalize w.alloc (.cells #[.int .i64 m.step, .int .i64 m.branch, .slice m.A m.rows.length m.c] 24) = W at *
  refine (awake_any W (HE.out.old hbW)).mono ?_
  rintro r w2 ⟨rfl, hb2⟩
  have hbe2 := hbW.trans (hb2.mono hbW.size)
  have x2 := x0.old hb2
  clear x0 hb2 hbW
  have s0 := x2.cell 0
  have s1 := x2.cell 1
  have s2 := x2.cell 2
  obtain ⟨g, hg⟩ : ∃ g, goodB m.step m.branch n m.L = g := ⟨_, rfl⟩
  go_wp2_with fail
  refine (HG.out n g w2 (HM.out.old hbe2) hg).mono ?_
  rintro r w3 ⟨rfl, hb3⟩
  have hbe3 := hbe2.trans (hb3.mono hbe2.size)
  have x3 := x2.old hb3
  clear x2 hb3 hbe2 s0 s1 s2
  cases g
  · clear hg
    go_wp2
    go_ret
    exact ⟨rfl, hbe3⟩
  obtain ⟨h0st, h0n, h0L⟩ := good_facts hg
  have hmr : 0 < m.rows.length := by simpa [MatV.L] using h0L
  have hmrI : ((m.rows.length : Int) == 0) = false := by rw [beq_eq_false_iff_ne]; omega
  have hup := Lib.hid (good_up hg)
  have hea := Lib.hid (good_early m.step m.branch m.L)
  clear hg h0L
  have s0 := x3.cell 0
  have s1 := x3.cell 1
  have s2 := x3.cell 2
  by_cases h62 : n < 4611686018427387904
  case' pos =>
    go_wp2_with fail
    refine (HG.out (n + 1) true w3 (HM.out.old hbe3) hup.out).mono ?_
    rintro r w4 ⟨rfl, hb4⟩
    have hbe4 := hbe3.trans (hb4.mono hbe3.size)
    have x4 := x3.old hb4
    clear x3 hb4 hbe3 s0 s1 s2
    have s0 := x4.cell 0
    have s1 := x4.cell 1
    have s2 := x4.cell 2
    go_wp2_with fail
  case' neg =>
    obtain ⟨w4, rfl⟩ : ∃ w4 : World, w4 = w3 := ⟨_, rfl⟩
    have hbe4 := hbe3
    have x4 := x3
    clear x3 hbe3
    go_wp2_with fail
  all_goals
    refine (HZ.out w4).mono ?_
    rintro r w5 ⟨rfl, hb5⟩
    have hbe5 := hbe4.trans (hb5.mono hbe4.size)
    have x5 := x4.old hb5
    clear x4 hb5 hbe4 s0 s1 s2 HZ hup h62 hmrI
    have s0 := x5.cell 0
    have s1 := x5.cell 1
    have s2 := x5.cell 2
    have hbA : Below w5.heap.size w5 (w5.alloc (.cells #[.int .i64 m.step, .int .i64 m.branch, .slice m.A m.rows.length m.c] 24)) := (Below.refl _ _).alloc (Nat.le_refl _) _
    have hrd : Rd (w5.alloc (.cells #[.int .i64 m.step, .int .i64 m.branch, .slice m.A m.rows.length m.c] 24)) (w5.alloc (.cells #[.int .i64 m.step, .int .i64 m.branch, .slice m.A m.rows.length m.c] 24)).heap.size (some ⟨w5.heap.size, 0, none⟩) ([m].flatMap MatV.cells) := (Rd.lit rfl #[.int .i64 m.step, .int .i64 m.branch, .slice m.A m.rows.length m.c] 24).more (by simp)
    have HTW := Lib.hid (twin_any [m] (some ⟨w5.heap.size, 0, none⟩) 1 _ hrd (fun x hx => by obtain rfl := List.mem_singleton.1 hx; exact HM.out.old (hbe5.trans (hbA.mono hbe5.size))) (by simp))
    clear hrd
    go_wp2_with fail
    refine HTW.out.mono ?_
    rintro r w6 ⟨A, c, ts, rfl, hkey, hown, heach, hb6⟩
    have hwb : w.heap.size ≤ (w5.alloc (.cells #[.int .i64 m.step, .int .i64 m.branch, .slice m.A m.rows.length m.c] 24)).heap.size := Nat.le_trans hbe5.size hbA.size
    have hbe6 := (hbe5.trans (hbA.mono hbe5.size)).trans (hb6.mono hwb)
    have x6 := (x5.old hbA).old hb6
    obtain ⟨t, rfl⟩ : ∃ t, ts = [t] := by
      have := congrArg List.length hkey
      match ts, this with
      | [t], _ => exact ⟨t, rfl⟩
    have hk : t.key = m.key := by simpa using hkey
    have e1 : t.step = m.step := congrArg (fun p => p.1) hk
    have e2 : t.branch = m.branch := congrArg (fun p => p.2.1) hk
    have e3 : t.L = m.L := congrArg (fun p => p.2.2) hk
    have htl : t.rows.length = m.rows.length := by have := congrArg List.length e3; simpa [MatV.L] using this
    have hO := heach t (by simp)
    clear hkey hk heach HTW hbe5 hb6 hbA x5 s0 s1 s2
    generalize (w5.alloc (.cells #[.int .i64 m.step, .int .i64 m.branch, .slice m.A m.rows.length m.c] 24)).heap.size = B0 at *
    obtain ⟨g2, hA⟩ : ∃ g2, A = some ⟨g2, 0, none⟩ := by
      rcases hown.2 with ⟨_, h⟩ | ⟨g, cap, cur, hv, _⟩
      · cases h
      · exact ⟨g, by injection hv⟩
    subst hA
    have u0 : w6.cell? ⟨g2, 0, none⟩ = some (.int .i64 t.step) := hown.cellAt 0 (by simp)
    have u1 : w6.cell? ⟨g2, 1, none⟩ = some (.int .i64 t.branch) := hown.cellAt 1 (by simp)
    have u2 : w6.cell? ⟨g2, 2, none⟩ = some (.slice t.A t.rows.length t.c) := hown.cellAt 2 (by simp)
    obtain ⟨i, hi⟩ : ∃ i, t.rows.length = i + 1 := ⟨t.rows.length - 1, by omega⟩
    obtain ⟨g3, hA3⟩ : ∃ g3, t.A = some ⟨g3, 0, none⟩ := by
      rcases hO.rows.2 with ⟨_, h⟩ | ⟨g, cap, cur, hv, _⟩
      · omega
      · exact ⟨g, by injection hv⟩
    have HLB : Hid (∀ r ∈ t.rows, r.l.length ≤ 17592186043904) := Lib.hid fun r hr => by
      have h1 : r.l ∈ m.L := by rw [← e3]; exact List.mem_map_of_mem hr
      obtain ⟨r', h2, h3⟩ := List.mem_map.1 h1
      rw [← h3]; exact (HM.out.each r' h2).len
    have hrows := hO.rows
    rw [hA3] at hrows u2
    have HEA := Lib.hid hO.each
    have hbz : w.heap.size ≤ g3 := Nat.le_trans hwb (hrows.lt g3 rfl).1
    rw [hi] at hrows u2
    have hlen3 : i < m.rows.length := by omega
    have HTL := Lib.hid e3
    have HMB : Hid (t.step = m.step ∧ t.branch = m.branch) := Lib.hid ⟨e1, e2⟩
    have HII := Lib.hid hi
    have hml := HM.out.len
    clear hO hown e3 hA3 e1 e2
    have hbB : Below w6.heap.size w6 (w6.alloc (.cells #[.int .i64 t.step, .int .i64 t.branch, .slice (some ⟨g3, 0, none⟩) (i + 1) t.c] 24)) := (Below.refl _ _).alloc (Nat.le_refl _) _
    have y0 := Bk.new w6 24 #[.int .i64 t.step, .int .i64 t.branch, .slice (some ⟨g3, 0, none⟩) (i + 1) t.c]
    have x7 := x6.old hbB
    have rows7 := own_old hrows hbB
    have HE7 : Hid (∀ r ∈ t.rows, (w6.alloc (.cells #[.int .i64 t.step, .int .i64 t.branch, .slice (some ⟨g3, 0, none⟩) (i + 1) t.c] 24)).ownsRow B0 3 1 (.slice r.A r.l.length r.c) r.l.length (ints r.l)) := Lib.hid fun r hr => own_old (HEA.out r hr) hbB
    have hbe7 := hbe6.trans (hbB.mono hbe6.size)
    have y2 := y0.cell 2
    go_upto_region 8 with fail
    clear u0 u1 u2 x6 hrows HEA hbB hbe6 hi htl
    generalize w6.alloc (.cells #[.int .i64 t.step, .int .i64 t.branch, .slice (some ⟨g3, 0, none⟩) (i + 1) t.c] 24) = W7 at *
    have f3 := rows7.frozenAt i
    obtain ⟨u, hu⟩ : ∃ u, (t.rows.flatMap RowV.cells)[i]? = some u := by
      have h1 : (t.rows.flatMap RowV.cells).length = t.rows.length := by rw [flat_len (n := 1) RowV.cells (fun _ => rfl), Nat.mul_one]
      exact ⟨_, List.getElem?_eq_getElem (by rw [h1, HII.out]; omega)⟩
    have c3 : W7.cell? ⟨g3, i, none⟩ = some u := (rows7.cellAt i (by omega)).trans hu
    have hst3 := rows7.stored i (.slice none 0 0)
    have x8 : Bk (W7.setCell ⟨g3, i, none⟩ (.slice none 0 0)) w.heap.size 24 #[.int .i64 m.step, .int .i64 m.branch, .slice m.A m.rows.length m.c] := x7.far (p := ⟨g3, i, none⟩) (by intro e; exact own_ne_bk rows7 x7 (by decide) (by rw [e]; rfl)) _
    have y8 : Bk (W7.setCell ⟨g3, i, none⟩ (.slice none 0 0)) w6.heap.size 24 #[.int .i64 t.step, .int .i64 t.branch, .slice (some ⟨g3, 0, none⟩) (i + 1) t.c] := y0.far (p := ⟨g3, i, none⟩) (by intro e; exact own_ne_bk rows7 y0 (by decide) (by rw [e]; rfl)) _
    have hbe8 : Below w.heap.size w (W7.setCell ⟨g3, i, none⟩ (.slice none 0 0)) := hbe7.setCell (by exact hbz) _
    have HE8 : Hid (∀ r ∈ t.rows, (W7.setCell ⟨g3, i, none⟩ (.slice none 0 0)).ownsRow B0 3 1 (.slice r.A r.l.length r.c) r.l.length (ints r.l)) := Lib.hid fun r hr => ownsRow_setCell_other (HE7.out r hr) (by
      rcases own_ne (HE7.out r hr) rows7 (by decide) with h | h
      · rw [h]; simp
      · exact h) _
    have rows8 := hst3.1
    go_upto_region 9 with fail
    clear f3 c3 hu hst3 y2 x7 y0 rows7 HE7 hbe7 u
    generalize W7.setCell ⟨g3, i, none⟩ (.slice none 0 0) = W8 at *
    have hless : (⟨m.step, m.branch, some ⟨g3, 0, none⟩, t.c, t.rows.set i zeroR⟩ : MatV).ok W8 W8.heap.size := by
      refine ⟨?_, ?_, ?_, HM.out.stepR, HM.out.branchR⟩
      · show Rd W8 W8.heap.size (some ⟨g3, 0, none⟩) ((t.rows.set i zeroR).flatMap RowV.cells)
        rw [flat_set]
        exact own_rd rows8
      · have := HM.out.len
        show (t.rows.set i zeroR).length ≤ _
        rw [List.length_set, HII.out]; omega
      · intro r hr
        rcases List.mem_or_eq_of_mem_set hr with hr | rfl
        · exact ⟨own_rd (HE8.out r hr), HLB.out r hr⟩
        · exact ⟨Rd.nil, by simp [zeroR]⟩
    have hgl : goodB m.step m.branch n (⟨m.step, m.branch, some ⟨g3, 0, none⟩, t.c, t.rows.set i zeroR⟩ : MatV).L = false := by
      refine good_hole _ _ _ _ ?_
      refine List.mem_map.2 ⟨zeroR, ?_, rfl⟩
      exact List.mem_iff_getElem.2 ⟨i, by rw [List.length_set, HII.out]; omega, by simp⟩
    have HGL : Hid (Calls Tryd.prog 11 #[.agg #[.int .i64 t.step, .int .i64 t.branch, .slice (some ⟨g3, 0, none⟩) (i + 1) t.c], .int .i64 n] W8 fun r w' => r = .returned (.bool false) ∧ Below W8.heap.size W8 w') := Lib.hid (by
      have h := good_any ⟨m.step, m.branch, some ⟨g3, 0, none⟩, t.c, t.rows.set i zeroR⟩ n W8 hless
      rw [hgl] at h
      unfold MatV.val at h
      simp only [List.length_set, HII.out] at h
      rw [HMB.out.1, HMB.out.2]
      exact h)
    clear hless hgl rows8 HE8 HLB
    have y0 := y8.cell 0
    have y1 := y8.cell 1
    have y2 := y8.cell 2
    go_wp2_with fail
    refine HGL.out.mono ?_
    rintro r w9 ⟨rfl, hb9⟩
    have hbe9 := hbe8.trans (hb9.mono hbe8.size)
    have x9 := x8.old hb9
    clear y0 y1 y2 y8 x8 hb9 hbe8 HGL
    have s0 := x9.cell 0
    have s1 := x9.cell 1
    have s2 := x9.cell 2
    go_wp2_with fail
    refine (HG.out (m.step - 1) false w9 (HM.out.old hbe9) hea.out).mono ?_
    rintro r w10 ⟨rfl, hb10⟩
    have hfin := hbe9.trans (hb10.mono hbe9.size)
    clear s0 s1 s2 x9 hb10 hbe9
    go_wp2
    go_ret
    exact ⟨rfl, hfin⟩

theorem laid_met (os : Os) : laidMet Tryd.prog Rows.matchEndsRow.laid ((laidWorld os #[.agg #[.int .i64 0, .int .i64 0, .slice none 0 0], .int .i64 0]).forCall (fun _ _ => 0) ⟨#[], #[.agg #[.int .i64 0, .int .i64 0, .slice none 0 0], .int .i64 0], []⟩).memory := laidMet_of_run' 8 (by kernel_rfl) (by kernel_rfl)
theorem reads (os : Os) {H : Type} (enc : TypeId × Value → H) : ∃ places, DataW.whole enc Tryd.prog ((laidWorld os #[.agg #[.int .i64 0, .int .i64 0, .slice none 0 0], .int .i64 0]).forCall (fun _ _ => 0) ⟨#[], #[.agg #[.int .i64 0, .int .i64 0, .slice none 0 0], .int .i64 0], []⟩).memory Tryd.f6.params.toList Rows.matchEndsSpec.vars false (#[.agg #[.int .i64 0, .int .i64 0, .slice none 0 0], .int .i64 0] : Array Value).toList 8 = some ([.agg [.lit (.int .i64 0), .lit (.int .i64 0), .nil], .lit (.int .i64 0)], [], places) := ⟨[], by kernel_rfl⟩
theorem rec0 : (Tryd.f6.params.toList.all fun t => Tryd.prog.readableRec t && decide (t < Tryd.prog.types.size)) = true := by kernel_rfl
set_option maxRecDepth 100000 in
theorem lifted (os : Os) (started : os.Started) (H : Type) (enc : TypeId × Value → H) (F : Stop.Interp) :
    ReturnsInHanded {} Tryd.checked os 6 .any ((OpenSpec.ofChange Rows.matchEndsSpec).preRow enc Tryd.prog Tryd.f6 Rows.matchEndsRow.domain false Rows.matchEndsRow.laid) (((OpenSpec.ofChange Rows.matchEndsSpec).at F).post enc Tryd.prog Tryd.f6 false true false false) := by
  obtain ⟨places, hx⟩ := reads os enc
  refine law_stepC (C := Tryd.checked) (s := Rows.matchEndsSpec) (tb := 4) own started (by kernel_rfl) Tryd.func6
    (witness_row_at (enc := enc) (C := Tryd.checked) false (laidWorld os #[.agg #[.int .i64 0, .int .i64 0, .slice none 0 0], .int .i64 0]) #[.agg #[.int .i64 0, .int .i64 0, .slice none 0 0], .int .i64 0] rfl (by kernel_rfl) (by kernel_rfl) (by kernel_rfl)
      (OpenSpec.preRow_of_cond 8 hx (by kernel_rfl) (fun k hk => by cases hk) (by kernel_rfl) (laid_met os))) laidOut ?_ rfl Tryd.underlying4 rfl ?_ ?_
  · intro t ht
    have := List.all_eq_true.1 rec0 t ht
    simp only [Bool.and_eq_true, decide_eq_true_eq] at this
    exact this
  · intro ds hd
    match ds, hd with
    | [d0, d1], _ => exact ⟨rfl, rfl, rfl⟩
  intro W base args ds p hval hA hsz hL hsh
  have htab := env_of hL hsh
  rw [Tryd.params6] at hA hval hsz
  obtain ⟨v0, vs0, d0, ds0, p0, q0, hargs, rfl, rfl, h0, r0⟩ := trodAll_cons hA
  obtain ⟨v1, vs1, d1, ds1, p1, q1, rfl, rfl, rfl, h1, r1⟩ := trodAll_cons r0
  obtain ⟨rfl, rfl, rfl⟩ := trodAll_nil r1
  obtain rfl : args = #[v0, v1] := by cases args; simp_all
  obtain ⟨m0, rfl, hm0⟩ := open_mat (hval 0 24 v0 rfl rfl) h0 (weights_each (i := 0) hsz rfl rfl)
  obtain ⟨n1, rfl, _, _, _⟩ := open_int Tryd.underlying3 (hval 1 3 v1 rfl rfl) h1
  exact walk W htab m0 hm0 n1

theorem said : Rows.MatchEndsSaid :=
  OpenClaim.holds_of_cond 6 Tryd.f6 rfl rfl rfl rfl rfl rfl rfl ⟨rfl, rfl, rfl, rfl, rfl⟩ rfl rfl rfl rfl rfl (by kernel_rfl) Tryd.func6 (by kernel_rfl)
    (of_decide_eq_true (by kernel_rfl)) (by unfold Func.isWrapper; first | (rw [if_pos (by decide +kernel)]; kernel_rfl) | (rw [if_neg (by decide +kernel)]; exact ⟨rfl, rfl⟩))
    (fun os started H enc _ F => by rw [OpenClaim.pre_eq_preRow]; exact lifted os started H enc F)
theorem noStand : (Tryd.f6.params.toList.all fun t => !(Tryd.prog.wantsStandIn t)) = true := by kernel_rfl
theorem plain (f : FuncId) (fn : Func) (hf : Tryd.pinned.checked.prog.funcNamed "auspice/auspicelaw10.MatchEnds" = some f) (hfn : Tryd.pinned.checked.prog.funcs[f]? = some fn) :
    true = Tryd.pinned.checked.prog.looks [] ∧ ∀ (j : Nat) t, fn.params[j]? = some t → Tryd.pinned.checked.prog.wantsStandIn t = false := by
  obtain rfl : f = 6 := Option.some.inj ((show Tryd.prog.funcNamed "auspice/auspicelaw10.MatchEnds" = some 6 by kernel_rfl).symm.trans hf) |>.symm
  obtain rfl : fn = Tryd.f6 := (Option.some.inj (Tryd.func6.symm.trans hfn)).symm
  refine ⟨by kernel_rfl, fun j t ht => ?_⟩
  have hm : t ∈ Tryd.f6.params.toList := by rw [Array.mem_toList_iff]; exact Array.mem_of_getElem? ht
  have := List.all_eq_true.1 noStand t hm
  exact (by simpa using this : Tryd.prog.wantsStandIn t = false)
theorem matchEnds_holds : Rows.MatchEndsCardSaid :=
  Claim7.holds_tied_plain_at .later [] _ _ _ _ said (fun _ h => by cases h) (by kernel_rfl) (fun _ h => by cases h) matchEnds_row_tie rfl ⟨rfl, rfl⟩ (by kernel_rfl) rfl plain (by kernel_rfl)
#print axioms matchEnds_holds
end Go.Proofs.YtpiffgdebdhpnaaDoor.matchEnds
