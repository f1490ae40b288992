/- ValueTruths holds. No conditions. -/
import Derived.Test.YtlejjchaooeabaaValM
import Derived.Test.YtlejjchaooeabaaReg
namespace Go.Proofs.Ytlejjchaooeabaa.valueTruths
open Go.ChangeShapes Go.WideShapes Go.ChangeAt Go.RowKit
open Go.ChangeMaps (open_string shut_string)
set_option linter.unusedSimpArgs false
set_option linter.unusedVariables false

theorem do_bk (op : Int) (l : List V) (g n : Nat) {w : World} {cs : Array Value} {t : TypeId} (hk : Bk w g t cs) (hc : cs.toList = l.flatMap V.cells) (hf : ∀ x ∈ l, x.fits) (hl : l.length * 16 ≤ 140737488351232) (hn : l.length = n := by rfl) :
    Calls Try.prog 23 #[.int .i64 op, .slice (some ⟨g, 0, none⟩) n n] w fun e w' => e = .returned (.agg #[.int .i64 (applyV op l).k, .int .u64 (applyV op l).b]) ∧ Below w.heap.size w w' := by
  subst hn
  exact do_any op l (some ⟨g, 0, none⟩) l.length w (hc ▸ Rd.bk hk hk.lt) hf hl
/-- What AND, OR say: by three values. -/
def tri (t : Int) : V := (toldV t).getD none0
theorem truth_bd (x : V) : truthI x = 0 ∨ truthI x = 1 ∨ truthI x = -1 := by
  unfold truthI
  split
  · split
    · exact .inr (.inl rfl)
    · exact .inr (.inr rfl)
  · exact .inl rfl
theorem logic_and (x y : V) : applyV 13 [x, y] = tri (min (truthI x) (truthI y)) := rfl
theorem logic_or (x y : V) : applyV 14 [x, y] = tri (max (truthI x) (truthI y)) := rfl
theorem truth_tri (t : Int) (h : t = 0 ∨ t = 1 ∨ t = -1) : truthI (tri t) = t := by
  rcases h with rfl | rfl | rfl <;> decide
theorem logic_comm (op : Int) (h : op = 13 ∨ op = 14) (x y : V) : applyV op [x, y] = applyV op [y, x] := by
  rcases h with rfl | rfl
  · rw [logic_and, logic_and, Int.min_comm]
  · rw [logic_or, logic_or, Int.max_comm]
theorem min_bd {a b : Int} (ha : a = 0 ∨ a = 1 ∨ a = -1) (hb : b = 0 ∨ b = 1 ∨ b = -1) : min a b = 0 ∨ min a b = 1 ∨ min a b = -1 := by omega
theorem max_bd {a b : Int} (ha : a = 0 ∨ a = 1 ∨ a = -1) (hb : b = 0 ∨ b = 1 ∨ b = -1) : max a b = 0 ∨ max a b = 1 ∨ max a b = -1 := by omega
theorem logic_assoc (op : Int) (h : op = 13 ∨ op = 14) (x y z : V) : applyV op [applyV op [x, y], z] = applyV op [x, applyV op [y, z]] := by
  rcases h with rfl | rfl
  · rw [logic_and x y, logic_and y z, logic_and, logic_and, truth_tri _ (min_bd (truth_bd _) (truth_bd _)), truth_tri _ (min_bd (truth_bd _) (truth_bd _)), Int.min_assoc]
  · rw [logic_or x y, logic_or y z, logic_or, logic_or, truth_tri _ (max_bd (truth_bd _) (truth_bd _)), truth_tri _ (max_bd (truth_bd _) (truth_bd _)), Int.max_assoc]
theorem not_tri (x : V) : applyV 15 [x] = tri (-truthI x) := by
  show (restV 15 [x]).getD none0 = _
  unfold restV
  show (if oneK 15 (clean x).k = 0 then none else _ : Option V).getD none0 = _
  by_cases h : (clean x).k = 2
  · have h1 : oneK 15 (clean x).k ≠ 0 := by rw [h]; decide
    rw [if_neg h1]
    have hb : (clean x).b < 2 := by
      rcases clean_cases x with ⟨h0, e⟩ | ⟨_, e⟩ | ⟨_, _, e⟩
      · rw [e] at h ⊢; omega
      · rw [e] at h; simp at h
      · rw [e] at h; simp [none0] at h
    show (if (clean x).k = 4 then _ else _ : Option V).getD none0 = _
    rw [if_neg (by omega)]
    have ht : truthI x = if (clean x).b = 1 then 1 else -1 := by unfold truthI; rw [if_pos h]
    rw [ht]
    generalize clean x = y at *
    obtain ⟨k, b⟩ := y
    simp only at h hb
    subst h
    have : b = 0 ∨ b = 1 := by omega
    rcases this with rfl | rfl
    · simp [intsV, yesV, tri, toldV, wrap64]
    · simp [intsV, yesV, tri, toldV, wrap64]
  · have h1 : oneK 15 (clean x).k = 0 := by
      unfold oneK; rw [if_neg (by omega), if_neg (by omega), if_neg (by omega)]
    rw [if_pos h1]
    have ht : truthI x = 0 := by unfold truthI; rw [if_neg h]
    rw [ht]; rfl
theorem logic_not (x y : V) : applyV 15 [applyV 13 [x, y]] = applyV 14 [applyV 15 [x], applyV 15 [y]] := by
  have hx := truth_bd x
  have hy := truth_bd y
  rw [not_tri, logic_and, logic_or, not_tri x, not_tri y, truth_tri _ (min_bd hx hy), truth_tri _ (by omega), truth_tri _ (by omega)]
  congr 1
  omega

def truthsR1 (x y z : V) : List Spec := [.is (.bool true),
  .is (.bool false),
  .is (.bool false),
  .is (.agg #[.int .i64 x.k, .int .u64 x.b]),
  .is (.agg #[.int .i64 y.k, .int .u64 y.b]),
  .st (fun v w => ∃ g, v = .slice (some ⟨g, 0, none⟩) 2 2 ∧ Bk w g 24 #[.int .i64 x.k, .int .u64 x.b, .int .i64 y.k, .int .u64 y.b]) (fun _ _ _ hb ⟨g, h1, h2⟩ => ⟨g, h1, h2.old hb⟩),
  .is (.agg #[.int .i64 (applyV 13 [x, y]).k, .int .u64 (applyV 13 [x, y]).b]),
  .is (.agg #[.int .i64 y.k, .int .u64 y.b]),
  .is (.agg #[.int .i64 x.k, .int .u64 x.b]),
  .st (fun v w => ∃ g, v = .slice (some ⟨g, 0, none⟩) 2 2 ∧ Bk w g 24 #[.int .i64 y.k, .int .u64 y.b, .int .i64 x.k, .int .u64 x.b]) (fun _ _ _ hb ⟨g, h1, h2⟩ => ⟨g, h1, h2.old hb⟩),
  .is (.agg #[.int .i64 (applyV 13 [x, y]).k, .int .u64 (applyV 13 [x, y]).b]),
  .is (.bool false),
  .is (.bool false),
  .is (.bool false),
  .is (.agg #[.int .i64 x.k, .int .u64 x.b]),
  .is (.agg #[.int .i64 y.k, .int .u64 y.b]),
  .st (fun v w => ∃ g, v = .slice (some ⟨g, 0, none⟩) 2 2 ∧ Bk w g 24 #[.int .i64 x.k, .int .u64 x.b, .int .i64 y.k, .int .u64 y.b]) (fun _ _ _ hb ⟨g, h1, h2⟩ => ⟨g, h1, h2.old hb⟩),
  .is (.agg #[.int .i64 (applyV 14 [x, y]).k, .int .u64 (applyV 14 [x, y]).b]),
  .is (.agg #[.int .i64 y.k, .int .u64 y.b]),
  .is (.agg #[.int .i64 x.k, .int .u64 x.b]),
  .st (fun v w => ∃ g, v = .slice (some ⟨g, 0, none⟩) 2 2 ∧ Bk w g 24 #[.int .i64 y.k, .int .u64 y.b, .int .i64 x.k, .int .u64 x.b]) (fun _ _ _ hb ⟨g, h1, h2⟩ => ⟨g, h1, h2.old hb⟩),
  .is (.agg #[.int .i64 (applyV 14 [x, y]).k, .int .u64 (applyV 14 [x, y]).b]),
  .is (.bool false),
  .is (.bool false)]

def truthsR3 (x y z : V) : List Spec := [.is (.agg #[.int .i64 x.k, .int .u64 x.b]),
  .is (.agg #[.int .i64 y.k, .int .u64 y.b]),
  .st (fun v w => ∃ g, v = .slice (some ⟨g, 0, none⟩) 2 2 ∧ Bk w g 24 #[.int .i64 x.k, .int .u64 x.b, .int .i64 y.k, .int .u64 y.b]) (fun _ _ _ hb ⟨g, h1, h2⟩ => ⟨g, h1, h2.old hb⟩),
  .is (.agg #[.int .i64 (applyV 13 [x, y]).k, .int .u64 (applyV 13 [x, y]).b]),
  .is (.agg #[.int .i64 z.k, .int .u64 z.b]),
  .st (fun v w => ∃ g, v = .slice (some ⟨g, 0, none⟩) 2 2 ∧ Bk w g 24 #[.int .i64 (applyV 13 [x, y]).k, .int .u64 (applyV 13 [x, y]).b, .int .i64 z.k, .int .u64 z.b]) (fun _ _ _ hb ⟨g, h1, h2⟩ => ⟨g, h1, h2.old hb⟩),
  .is (.agg #[.int .i64 (applyV 13 [(applyV 13 [x, y]), z]).k, .int .u64 (applyV 13 [(applyV 13 [x, y]), z]).b]),
  .is (.agg #[.int .i64 x.k, .int .u64 x.b]),
  .is (.agg #[.int .i64 y.k, .int .u64 y.b]),
  .is (.agg #[.int .i64 z.k, .int .u64 z.b]),
  .st (fun v w => ∃ g, v = .slice (some ⟨g, 0, none⟩) 2 2 ∧ Bk w g 24 #[.int .i64 y.k, .int .u64 y.b, .int .i64 z.k, .int .u64 z.b]) (fun _ _ _ hb ⟨g, h1, h2⟩ => ⟨g, h1, h2.old hb⟩),
  .is (.agg #[.int .i64 (applyV 13 [y, z]).k, .int .u64 (applyV 13 [y, z]).b]),
  .st (fun v w => ∃ g, v = .slice (some ⟨g, 0, none⟩) 2 2 ∧ Bk w g 24 #[.int .i64 x.k, .int .u64 x.b, .int .i64 (applyV 13 [y, z]).k, .int .u64 (applyV 13 [y, z]).b]) (fun _ _ _ hb ⟨g, h1, h2⟩ => ⟨g, h1, h2.old hb⟩),
  .is (.agg #[.int .i64 (applyV 13 [(applyV 13 [x, y]), z]).k, .int .u64 (applyV 13 [(applyV 13 [x, y]), z]).b]),
  .is (.bool false),
  .is (.bool false),
  .is (.agg #[.int .i64 x.k, .int .u64 x.b]),
  .is (.agg #[.int .i64 y.k, .int .u64 y.b]),
  .st (fun v w => ∃ g, v = .slice (some ⟨g, 0, none⟩) 2 2 ∧ Bk w g 24 #[.int .i64 x.k, .int .u64 x.b, .int .i64 y.k, .int .u64 y.b]) (fun _ _ _ hb ⟨g, h1, h2⟩ => ⟨g, h1, h2.old hb⟩),
  .is (.agg #[.int .i64 (applyV 14 [x, y]).k, .int .u64 (applyV 14 [x, y]).b]),
  .is (.agg #[.int .i64 z.k, .int .u64 z.b]),
  .st (fun v w => ∃ g, v = .slice (some ⟨g, 0, none⟩) 2 2 ∧ Bk w g 24 #[.int .i64 (applyV 14 [x, y]).k, .int .u64 (applyV 14 [x, y]).b, .int .i64 z.k, .int .u64 z.b]) (fun _ _ _ hb ⟨g, h1, h2⟩ => ⟨g, h1, h2.old hb⟩),
  .is (.agg #[.int .i64 (applyV 14 [(applyV 14 [x, y]), z]).k, .int .u64 (applyV 14 [(applyV 14 [x, y]), z]).b]),
  .is (.agg #[.int .i64 x.k, .int .u64 x.b]),
  .is (.agg #[.int .i64 y.k, .int .u64 y.b]),
  .is (.agg #[.int .i64 z.k, .int .u64 z.b]),
  .st (fun v w => ∃ g, v = .slice (some ⟨g, 0, none⟩) 2 2 ∧ Bk w g 24 #[.int .i64 y.k, .int .u64 y.b, .int .i64 z.k, .int .u64 z.b]) (fun _ _ _ hb ⟨g, h1, h2⟩ => ⟨g, h1, h2.old hb⟩),
  .is (.agg #[.int .i64 (applyV 14 [y, z]).k, .int .u64 (applyV 14 [y, z]).b]),
  .st (fun v w => ∃ g, v = .slice (some ⟨g, 0, none⟩) 2 2 ∧ Bk w g 24 #[.int .i64 x.k, .int .u64 x.b, .int .i64 (applyV 14 [y, z]).k, .int .u64 (applyV 14 [y, z]).b]) (fun _ _ _ hb ⟨g, h1, h2⟩ => ⟨g, h1, h2.old hb⟩),
  .is (.agg #[.int .i64 (applyV 14 [(applyV 14 [x, y]), z]).k, .int .u64 (applyV 14 [(applyV 14 [x, y]), z]).b]),
  .is (.bool false),
  .is (.bool false)]

def truthsR5 (x y z : V) : List Spec := [.is (.agg #[.int .i64 x.k, .int .u64 x.b]),
  .is (.agg #[.int .i64 y.k, .int .u64 y.b]),
  .st (fun v w => ∃ g, v = .slice (some ⟨g, 0, none⟩) 2 2 ∧ Bk w g 24 #[.int .i64 x.k, .int .u64 x.b, .int .i64 y.k, .int .u64 y.b]) (fun _ _ _ hb ⟨g, h1, h2⟩ => ⟨g, h1, h2.old hb⟩),
  .is (.agg #[.int .i64 (applyV 13 [x, y]).k, .int .u64 (applyV 13 [x, y]).b]),
  .st (fun v w => ∃ g, v = .slice (some ⟨g, 0, none⟩) 1 1 ∧ Bk w g 24 #[.int .i64 (applyV 13 [x, y]).k, .int .u64 (applyV 13 [x, y]).b]) (fun _ _ _ hb ⟨g, h1, h2⟩ => ⟨g, h1, h2.old hb⟩),
  .is (.agg #[.int .i64 (applyV 15 [(applyV 13 [x, y])]).k, .int .u64 (applyV 15 [(applyV 13 [x, y])]).b]),
  .is (.agg #[.int .i64 x.k, .int .u64 x.b]),
  .st (fun v w => ∃ g, v = .slice (some ⟨g, 0, none⟩) 1 1 ∧ Bk w g 24 #[.int .i64 x.k, .int .u64 x.b]) (fun _ _ _ hb ⟨g, h1, h2⟩ => ⟨g, h1, h2.old hb⟩),
  .is (.agg #[.int .i64 (applyV 15 [x]).k, .int .u64 (applyV 15 [x]).b]),
  .is (.agg #[.int .i64 y.k, .int .u64 y.b]),
  .st (fun v w => ∃ g, v = .slice (some ⟨g, 0, none⟩) 1 1 ∧ Bk w g 24 #[.int .i64 y.k, .int .u64 y.b]) (fun _ _ _ hb ⟨g, h1, h2⟩ => ⟨g, h1, h2.old hb⟩),
  .is (.agg #[.int .i64 (applyV 15 [y]).k, .int .u64 (applyV 15 [y]).b]),
  .st (fun v w => ∃ g, v = .slice (some ⟨g, 0, none⟩) 2 2 ∧ Bk w g 24 #[.int .i64 (applyV 15 [x]).k, .int .u64 (applyV 15 [x]).b, .int .i64 (applyV 15 [y]).k, .int .u64 (applyV 15 [y]).b]) (fun _ _ _ hb ⟨g, h1, h2⟩ => ⟨g, h1, h2.old hb⟩),
  .is (.agg #[.int .i64 (applyV 15 [(applyV 13 [x, y])]).k, .int .u64 (applyV 15 [(applyV 13 [x, y])]).b]),
  .is (.bool true),
  .is (.bool true)]

set_option maxHeartbeats 4000000 in
theorem walk (x : V) (hx : x.fits) (y : V) (hy : y.fits) (z : V) (hz : z.fits) (w : World) :
    Calls Try.prog 7 #[x.v, y.v, z.v] w fun e w' => e = .returned (.bool true) ∧ Below w.heap.size w w' := by
  unfold V.v
  go_enter Try.func7, Try.ntmps7
  go_wp2_with fail
  have k3 : Bk (((w.alloc (.cells #[.int .i64 x.k, .int .u64 x.b] 24)).alloc (.cells #[.int .i64 y.k, .int .u64 y.b] 24)).alloc (.cells #[.int .i64 z.k, .int .u64 z.b] 24)) w.heap.size 24 #[.int .i64 x.k, .int .u64 x.b] := ((Bk.new w _ _).alloc _).alloc _
  have k4 : Bk (((w.alloc (.cells #[.int .i64 x.k, .int .u64 x.b] 24)).alloc (.cells #[.int .i64 y.k, .int .u64 y.b] 24)).alloc (.cells #[.int .i64 z.k, .int .u64 z.b] 24)) (w.heap.size + 1) 24 #[.int .i64 y.k, .int .u64 y.b] := (Bk.newAt (by simp) _ _).alloc _
  have k5 : Bk (((w.alloc (.cells #[.int .i64 x.k, .int .u64 x.b] 24)).alloc (.cells #[.int .i64 y.k, .int .u64 y.b] 24)).alloc (.cells #[.int .i64 z.k, .int .u64 z.b] 24)) (w.heap.size + 1 + 1) 24 #[.int .i64 z.k, .int .u64 z.b] := Bk.newAt (by simp) _ _
  have hbW : Below w.heap.size w (((w.alloc (.cells #[.int .i64 x.k, .int .u64 x.b] 24)).alloc (.cells #[.int .i64 y.k, .int .u64 y.b] 24)).alloc (.cells #[.int .i64 z.k, .int .u64 z.b] 24)) := (((Below.refl _ _).alloc (by simp) _).alloc (by simp) _).alloc (by simp; omega) _
  generalize ((w.alloc (.cells #[.int .i64 x.k, .int .u64 x.b] 24)).alloc (.cells #[.int .i64 y.k, .int .u64 y.b] 24)).alloc (.cells #[.int .i64 z.k, .int .u64 z.b] 24) = W at *
  have ⟨c30, c31, _, _⟩ := vcells k3
  have ⟨c40, c41, _, _⟩ := vcells k4
  have ⟨c50, c51, _, _⟩ := vcells k5
  refine wp_region_b (by kernel_rfl) (fun k => (truthsR1 x y z).getD k .any) (by kernel_rfl) ?_ ?_
  · refine BOk.cons rfl [] [] rfl (by kernel_rfl) (by kernel_rfl) (fun K a wr hb hO hF hK => ?_) ?_
    · clear hO hF
      go_simp
      go_at_call 13
      refine (awake_any _).mono ?_
      rintro e w2 ⟨rfl, hb2⟩
      exact hK _ _ hb2 rfl
    refine BOk.cons rfl [0] [] rfl (by kernel_rfl) (by kernel_rfl) (fun K a wr hb hO hF hK => ?_) ?_
    · obtain ⟨u7, e7, r0⟩ := hF.1
      have e7 : a.tmps[7]? = some (.bool true) := (show u7 = .bool true from r0) ▸ e7
      clear r0
      clear hO hF
      go_simp
      exact hK _ _ (Below.refl _ _) rfl
    refine BOk.cons rfl [1] [] rfl (by kernel_rfl) (by kernel_rfl) (fun K a wr hb hO hF hK => ?_) ?_
    · obtain ⟨u8, e8, r1⟩ := hF.1
      have e8 : a.tmps[8]? = some (.bool false) := (show u8 = .bool false from r1) ▸ e8
      clear r1
      clear hO hF
      go_simp
      exact hK _ _ (Below.refl _ _) rfl
    refine BOk.yes rfl [] [3] 2 false rfl rfl rfl (by kernel_rfl) (by kernel_rfl) (by kernel_rfl) (fun K a wr hb hO hF hK => ?_) ?_
    · have e3 : a.tmps[3]? = some (.pointer (some ⟨w.heap.size, 0, none⟩)) := hO.1.trans rfl
      clear hO hF
      have hc30 := (bcell hb _ _ (World.block_lt_of_cell? _ _ c30)).trans c30
      have hc31 := (bcell hb _ _ (World.block_lt_of_cell? _ _ c31)).trans c31
      go_simp
      exact hK _ _ (Below.refl _ _) rfl
    refine BOk.yes rfl [] [4] 2 false rfl rfl rfl (by kernel_rfl) (by kernel_rfl) (by kernel_rfl) (fun K a wr hb hO hF hK => ?_) ?_
    · have e4 : a.tmps[4]? = some (.pointer (some ⟨w.heap.size + 1, 0, none⟩)) := hO.1.trans rfl
      clear hO hF
      have hc40 := (bcell hb _ _ (World.block_lt_of_cell? _ _ c40)).trans c40
      have hc41 := (bcell hb _ _ (World.block_lt_of_cell? _ _ c41)).trans c41
      go_simp
      exact hK _ _ (Below.refl _ _) rfl
    refine BOk.yes rfl [3, 4] [] 2 false rfl rfl rfl (by kernel_rfl) (by kernel_rfl) (by kernel_rfl) (fun K a wr hb hO hF hK => ?_) ?_
    · obtain ⟨u10, e10, r3⟩ := hF.1
      have e10 : a.tmps[10]? = some (.agg #[.int .i64 x.k, .int .u64 x.b]) := (show u10 = .agg #[.int .i64 x.k, .int .u64 x.b] from r3) ▸ e10
      clear r3
      obtain ⟨u11, e11, r4⟩ := hF.2.1
      have e11 : a.tmps[11]? = some (.agg #[.int .i64 y.k, .int .u64 y.b]) := (show u11 = .agg #[.int .i64 y.k, .int .u64 y.b] from r4) ▸ e11
      clear r4
      clear hO hF
      go_simp
      exact hK _ _ ((Below.refl _ _).alloc (Nat.le_refl _) _) ⟨_, rfl, Bk.new _ _ _⟩
    refine BOk.yes rfl [5] [] 2 false rfl rfl rfl (by kernel_rfl) (by kernel_rfl) (by kernel_rfl) (fun K a wr hb hO hF hK => ?_) ?_
    · obtain ⟨u12, e12, r5⟩ := hF.1
      obtain ⟨g12, h12, k12⟩ := (show ∃ g, u12 = .slice (some ⟨g, 0, none⟩) 2 2 ∧ Bk wr g 24 #[.int .i64 x.k, .int .u64 x.b, .int .i64 y.k, .int .u64 y.b] from r5)
      subst h12
      have e12 : a.tmps[12]? = some (.slice (some ⟨g12, 0, none⟩) 2 2) := e12
      clear hO hF
      go_simp
      go_at_call 23
      refine (do_bk 13 [x, y] _ _ k12 rfl (by intro q hq; simp at hq; rcases hq with rfl | rfl <;> first | assumption | (apply apply_fits; simp [*])) (by simp)).mono ?_
      rintro e w2 ⟨rfl, hb2⟩
      exact hK _ _ hb2 rfl
    refine BOk.yes rfl [] [4] 2 false rfl rfl rfl (by kernel_rfl) (by kernel_rfl) (by kernel_rfl) (fun K a wr hb hO hF hK => ?_) ?_
    · have e4 : a.tmps[4]? = some (.pointer (some ⟨w.heap.size + 1, 0, none⟩)) := hO.1.trans rfl
      clear hO hF
      have hc40 := (bcell hb _ _ (World.block_lt_of_cell? _ _ c40)).trans c40
      have hc41 := (bcell hb _ _ (World.block_lt_of_cell? _ _ c41)).trans c41
      go_simp
      exact hK _ _ (Below.refl _ _) rfl
    refine BOk.yes rfl [] [3] 2 false rfl rfl rfl (by kernel_rfl) (by kernel_rfl) (by kernel_rfl) (fun K a wr hb hO hF hK => ?_) ?_
    · have e3 : a.tmps[3]? = some (.pointer (some ⟨w.heap.size, 0, none⟩)) := hO.1.trans rfl
      clear hO hF
      have hc30 := (bcell hb _ _ (World.block_lt_of_cell? _ _ c30)).trans c30
      have hc31 := (bcell hb _ _ (World.block_lt_of_cell? _ _ c31)).trans c31
      go_simp
      exact hK _ _ (Below.refl _ _) rfl
    refine BOk.yes rfl [7, 8] [] 2 false rfl rfl rfl (by kernel_rfl) (by kernel_rfl) (by kernel_rfl) (fun K a wr hb hO hF hK => ?_) ?_
    · obtain ⟨u14, e14, r7⟩ := hF.1
      have e14 : a.tmps[14]? = some (.agg #[.int .i64 y.k, .int .u64 y.b]) := (show u14 = .agg #[.int .i64 y.k, .int .u64 y.b] from r7) ▸ e14
      clear r7
      obtain ⟨u15, e15, r8⟩ := hF.2.1
      have e15 : a.tmps[15]? = some (.agg #[.int .i64 x.k, .int .u64 x.b]) := (show u15 = .agg #[.int .i64 x.k, .int .u64 x.b] from r8) ▸ e15
      clear r8
      clear hO hF
      go_simp
      exact hK _ _ ((Below.refl _ _).alloc (Nat.le_refl _) _) ⟨_, rfl, Bk.new _ _ _⟩
    refine BOk.yes rfl [9] [] 2 false rfl rfl rfl (by kernel_rfl) (by kernel_rfl) (by kernel_rfl) (fun K a wr hb hO hF hK => ?_) ?_
    · obtain ⟨u16, e16, r9⟩ := hF.1
      obtain ⟨g16, h16, k16⟩ := (show ∃ g, u16 = .slice (some ⟨g, 0, none⟩) 2 2 ∧ Bk wr g 24 #[.int .i64 y.k, .int .u64 y.b, .int .i64 x.k, .int .u64 x.b] from r9)
      subst h16
      have e16 : a.tmps[16]? = some (.slice (some ⟨g16, 0, none⟩) 2 2) := e16
      clear hO hF
      go_simp
      go_at_call 23
      refine (do_bk 13 [y, x] _ _ k16 rfl (by intro q hq; simp at hq; rcases hq with rfl | rfl <;> first | assumption | (apply apply_fits; simp [*])) (by simp)).mono ?_
      rintro e w2 ⟨rfl, hb2⟩
      rw [logic_comm 13 (by omega) y x]
      exact hK _ _ hb2 rfl
    refine BOk.yes rfl [6, 10] [] 2 false rfl rfl rfl (by kernel_rfl) (by kernel_rfl) (by kernel_rfl) (fun K a wr hb hO hF hK => ?_) ?_
    · obtain ⟨u13, e13, r6⟩ := hF.1
      have e13 : a.tmps[13]? = some (.agg #[.int .i64 (applyV 13 [x, y]).k, .int .u64 (applyV 13 [x, y]).b]) := (show u13 = .agg #[.int .i64 (applyV 13 [x, y]).k, .int .u64 (applyV 13 [x, y]).b] from r6) ▸ e13
      clear r6
      obtain ⟨u17, e17, r10⟩ := hF.2.1
      have e17 : a.tmps[17]? = some (.agg #[.int .i64 (applyV 13 [x, y]).k, .int .u64 (applyV 13 [x, y]).b]) := (show u17 = .agg #[.int .i64 (applyV 13 [x, y]).k, .int .u64 (applyV 13 [x, y]).b] from r10) ▸ e17
      clear r10
      clear hO hF
      go_simp
      exact hK _ _ (Below.refl _ _) (show (_ : Value) = _ from by first | rfl | simp)
    refine BOk.cons rfl [2, 11] [] rfl (by kernel_rfl) (by kernel_rfl) (fun K a wr hb hO hF hK => ?_) ?_
    · obtain ⟨u9, e9, r2⟩ := hF.1
      have e9 : a.tmps[9]? = some (.bool false) := (show u9 = .bool false from r2) ▸ e9
      clear r2
      obtain ⟨u18, e18, r11⟩ := hF.2.1
      have e18 : a.tmps[18]? = some (.bool false) := (show u18 = .bool false from r11) ▸ e18
      clear r11
      clear hO hF
      go_simp
      exact hK _ _ (Below.refl _ _) (show (_ : Value) = _ from by first | rfl | simp)
    refine BOk.cons rfl [12] [] rfl (by kernel_rfl) (by kernel_rfl) (fun K a wr hb hO hF hK => ?_) ?_
    · obtain ⟨u19, e19, r12⟩ := hF.1
      have e19 : a.tmps[19]? = some (.bool false) := (show u19 = .bool false from r12) ▸ e19
      clear r12
      clear hO hF
      go_simp
      exact hK _ _ (Below.refl _ _) rfl
    refine BOk.yes rfl [] [3] 13 false rfl rfl rfl (by kernel_rfl) (by kernel_rfl) (by kernel_rfl) (fun K a wr hb hO hF hK => ?_) ?_
    · have e3 : a.tmps[3]? = some (.pointer (some ⟨w.heap.size, 0, none⟩)) := hO.1.trans rfl
      clear hO hF
      have hc30 := (bcell hb _ _ (World.block_lt_of_cell? _ _ c30)).trans c30
      have hc31 := (bcell hb _ _ (World.block_lt_of_cell? _ _ c31)).trans c31
      go_simp
      exact hK _ _ (Below.refl _ _) rfl
    refine BOk.yes rfl [] [4] 13 false rfl rfl rfl (by kernel_rfl) (by kernel_rfl) (by kernel_rfl) (fun K a wr hb hO hF hK => ?_) ?_
    · have e4 : a.tmps[4]? = some (.pointer (some ⟨w.heap.size + 1, 0, none⟩)) := hO.1.trans rfl
      clear hO hF
      have hc40 := (bcell hb _ _ (World.block_lt_of_cell? _ _ c40)).trans c40
      have hc41 := (bcell hb _ _ (World.block_lt_of_cell? _ _ c41)).trans c41
      go_simp
      exact hK _ _ (Below.refl _ _) rfl
    refine BOk.yes rfl [14, 15] [] 13 false rfl rfl rfl (by kernel_rfl) (by kernel_rfl) (by kernel_rfl) (fun K a wr hb hO hF hK => ?_) ?_
    · obtain ⟨u21, e21, r14⟩ := hF.1
      have e21 : a.tmps[21]? = some (.agg #[.int .i64 x.k, .int .u64 x.b]) := (show u21 = .agg #[.int .i64 x.k, .int .u64 x.b] from r14) ▸ e21
      clear r14
      obtain ⟨u22, e22, r15⟩ := hF.2.1
      have e22 : a.tmps[22]? = some (.agg #[.int .i64 y.k, .int .u64 y.b]) := (show u22 = .agg #[.int .i64 y.k, .int .u64 y.b] from r15) ▸ e22
      clear r15
      clear hO hF
      go_simp
      exact hK _ _ ((Below.refl _ _).alloc (Nat.le_refl _) _) ⟨_, rfl, Bk.new _ _ _⟩
    refine BOk.yes rfl [16] [] 13 false rfl rfl rfl (by kernel_rfl) (by kernel_rfl) (by kernel_rfl) (fun K a wr hb hO hF hK => ?_) ?_
    · obtain ⟨u23, e23, r16⟩ := hF.1
      obtain ⟨g23, h23, k23⟩ := (show ∃ g, u23 = .slice (some ⟨g, 0, none⟩) 2 2 ∧ Bk wr g 24 #[.int .i64 x.k, .int .u64 x.b, .int .i64 y.k, .int .u64 y.b] from r16)
      subst h23
      have e23 : a.tmps[23]? = some (.slice (some ⟨g23, 0, none⟩) 2 2) := e23
      clear hO hF
      go_simp
      go_at_call 23
      refine (do_bk 14 [x, y] _ _ k23 rfl (by intro q hq; simp at hq; rcases hq with rfl | rfl <;> first | assumption | (apply apply_fits; simp [*])) (by simp)).mono ?_
      rintro e w2 ⟨rfl, hb2⟩
      exact hK _ _ hb2 rfl
    refine BOk.yes rfl [] [4] 13 false rfl rfl rfl (by kernel_rfl) (by kernel_rfl) (by kernel_rfl) (fun K a wr hb hO hF hK => ?_) ?_
    · have e4 : a.tmps[4]? = some (.pointer (some ⟨w.heap.size + 1, 0, none⟩)) := hO.1.trans rfl
      clear hO hF
      have hc40 := (bcell hb _ _ (World.block_lt_of_cell? _ _ c40)).trans c40
      have hc41 := (bcell hb _ _ (World.block_lt_of_cell? _ _ c41)).trans c41
      go_simp
      exact hK _ _ (Below.refl _ _) rfl
    refine BOk.yes rfl [] [3] 13 false rfl rfl rfl (by kernel_rfl) (by kernel_rfl) (by kernel_rfl) (fun K a wr hb hO hF hK => ?_) ?_
    · have e3 : a.tmps[3]? = some (.pointer (some ⟨w.heap.size, 0, none⟩)) := hO.1.trans rfl
      clear hO hF
      have hc30 := (bcell hb _ _ (World.block_lt_of_cell? _ _ c30)).trans c30
      have hc31 := (bcell hb _ _ (World.block_lt_of_cell? _ _ c31)).trans c31
      go_simp
      exact hK _ _ (Below.refl _ _) rfl
    refine BOk.yes rfl [18, 19] [] 13 false rfl rfl rfl (by kernel_rfl) (by kernel_rfl) (by kernel_rfl) (fun K a wr hb hO hF hK => ?_) ?_
    · obtain ⟨u25, e25, r18⟩ := hF.1
      have e25 : a.tmps[25]? = some (.agg #[.int .i64 y.k, .int .u64 y.b]) := (show u25 = .agg #[.int .i64 y.k, .int .u64 y.b] from r18) ▸ e25
      clear r18
      obtain ⟨u26, e26, r19⟩ := hF.2.1
      have e26 : a.tmps[26]? = some (.agg #[.int .i64 x.k, .int .u64 x.b]) := (show u26 = .agg #[.int .i64 x.k, .int .u64 x.b] from r19) ▸ e26
      clear r19
      clear hO hF
      go_simp
      exact hK _ _ ((Below.refl _ _).alloc (Nat.le_refl _) _) ⟨_, rfl, Bk.new _ _ _⟩
    refine BOk.yes rfl [20] [] 13 false rfl rfl rfl (by kernel_rfl) (by kernel_rfl) (by kernel_rfl) (fun K a wr hb hO hF hK => ?_) ?_
    · obtain ⟨u27, e27, r20⟩ := hF.1
      obtain ⟨g27, h27, k27⟩ := (show ∃ g, u27 = .slice (some ⟨g, 0, none⟩) 2 2 ∧ Bk wr g 24 #[.int .i64 y.k, .int .u64 y.b, .int .i64 x.k, .int .u64 x.b] from r20)
      subst h27
      have e27 : a.tmps[27]? = some (.slice (some ⟨g27, 0, none⟩) 2 2) := e27
      clear hO hF
      go_simp
      go_at_call 23
      refine (do_bk 14 [y, x] _ _ k27 rfl (by intro q hq; simp at hq; rcases hq with rfl | rfl <;> first | assumption | (apply apply_fits; simp [*])) (by simp)).mono ?_
      rintro e w2 ⟨rfl, hb2⟩
      rw [logic_comm 14 (by omega) y x]
      exact hK _ _ hb2 rfl
    refine BOk.yes rfl [17, 21] [] 13 false rfl rfl rfl (by kernel_rfl) (by kernel_rfl) (by kernel_rfl) (fun K a wr hb hO hF hK => ?_) ?_
    · obtain ⟨u24, e24, r17⟩ := hF.1
      have e24 : a.tmps[24]? = some (.agg #[.int .i64 (applyV 14 [x, y]).k, .int .u64 (applyV 14 [x, y]).b]) := (show u24 = .agg #[.int .i64 (applyV 14 [x, y]).k, .int .u64 (applyV 14 [x, y]).b] from r17) ▸ e24
      clear r17
      obtain ⟨u28, e28, r21⟩ := hF.2.1
      have e28 : a.tmps[28]? = some (.agg #[.int .i64 (applyV 14 [x, y]).k, .int .u64 (applyV 14 [x, y]).b]) := (show u28 = .agg #[.int .i64 (applyV 14 [x, y]).k, .int .u64 (applyV 14 [x, y]).b] from r21) ▸ e28
      clear r21
      clear hO hF
      go_simp
      exact hK _ _ (Below.refl _ _) (show (_ : Value) = _ from by first | rfl | simp)
    refine BOk.cons rfl [13, 22] [] rfl (by kernel_rfl) (by kernel_rfl) (fun K a wr hb hO hF hK => ?_) ?_
    · obtain ⟨u20, e20, r13⟩ := hF.1
      have e20 : a.tmps[20]? = some (.bool false) := (show u20 = .bool false from r13) ▸ e20
      clear r13
      obtain ⟨u29, e29, r22⟩ := hF.2.1
      have e29 : a.tmps[29]? = some (.bool false) := (show u29 = .bool false from r22) ▸ e29
      clear r22
      clear hO hF
      go_simp
      exact hK _ _ (Below.refl _ _) (show (_ : Value) = _ from by first | rfl | simp)
    exact BOk.nil
  intro vals wr hl hb hR
  match vals, hl with
  | [u17, u18, u19, u110, u111, u112, u113, u114, u115, u116, u117, u118, u119, u120, u121, u122, u123, u124, u125, u126, u127, u128, u129, u130], _ =>
  have r23 : u130 = .bool false := hR 23 _ rfl
  subst r23
  clear hR
  simp only [putAll, Act.put, List.setIfInBounds_toArray, List.set_cons_zero, List.set_cons_succ]
  have k3 := k3.old hb
  have k4 := k4.old hb
  have k5 := k5.old hb
  have hbW := hbW.trans (hb.mono hbW.size)
  clear hb c30 c31 c40 c41 c50 c51
  go_wp2_with fail
  have ⟨c30, c31, _, _⟩ := vcells k3
  have ⟨c40, c41, _, _⟩ := vcells k4
  have ⟨c50, c51, _, _⟩ := vcells k5
  refine wp_region_b (by kernel_rfl) (fun k => (truthsR3 x y z).getD k .any) (by kernel_rfl) ?_ ?_
  · refine BOk.cons rfl [] [3] rfl (by kernel_rfl) (by kernel_rfl) (fun K a wr hb hO hF hK => ?_) ?_
    · have e3 : a.tmps[3]? = some (.pointer (some ⟨w.heap.size, 0, none⟩)) := hO.1.trans rfl
      clear hO hF
      have hc30 := (bcell hb _ _ (World.block_lt_of_cell? _ _ c30)).trans c30
      have hc31 := (bcell hb _ _ (World.block_lt_of_cell? _ _ c31)).trans c31
      go_simp
      exact hK _ _ (Below.refl _ _) rfl
    refine BOk.cons rfl [] [4] rfl (by kernel_rfl) (by kernel_rfl) (fun K a wr hb hO hF hK => ?_) ?_
    · have e4 : a.tmps[4]? = some (.pointer (some ⟨w.heap.size + 1, 0, none⟩)) := hO.1.trans rfl
      clear hO hF
      have hc40 := (bcell hb _ _ (World.block_lt_of_cell? _ _ c40)).trans c40
      have hc41 := (bcell hb _ _ (World.block_lt_of_cell? _ _ c41)).trans c41
      go_simp
      exact hK _ _ (Below.refl _ _) rfl
    refine BOk.cons rfl [0, 1] [] rfl (by kernel_rfl) (by kernel_rfl) (fun K a wr hb hO hF hK => ?_) ?_
    · obtain ⟨u31, e31, r0⟩ := hF.1
      have e31 : a.tmps[31]? = some (.agg #[.int .i64 x.k, .int .u64 x.b]) := (show u31 = .agg #[.int .i64 x.k, .int .u64 x.b] from r0) ▸ e31
      clear r0
      obtain ⟨u32, e32, r1⟩ := hF.2.1
      have e32 : a.tmps[32]? = some (.agg #[.int .i64 y.k, .int .u64 y.b]) := (show u32 = .agg #[.int .i64 y.k, .int .u64 y.b] from r1) ▸ e32
      clear r1
      clear hO hF
      go_simp
      exact hK _ _ ((Below.refl _ _).alloc (Nat.le_refl _) _) ⟨_, rfl, Bk.new _ _ _⟩
    refine BOk.cons rfl [2] [] rfl (by kernel_rfl) (by kernel_rfl) (fun K a wr hb hO hF hK => ?_) ?_
    · obtain ⟨u33, e33, r2⟩ := hF.1
      obtain ⟨g33, h33, k33⟩ := (show ∃ g, u33 = .slice (some ⟨g, 0, none⟩) 2 2 ∧ Bk wr g 24 #[.int .i64 x.k, .int .u64 x.b, .int .i64 y.k, .int .u64 y.b] from r2)
      subst h33
      have e33 : a.tmps[33]? = some (.slice (some ⟨g33, 0, none⟩) 2 2) := e33
      clear hO hF
      go_simp
      go_at_call 23
      refine (do_bk 13 [x, y] _ _ k33 rfl (by intro q hq; simp at hq; rcases hq with rfl | rfl <;> first | assumption | (apply apply_fits; simp [*])) (by simp)).mono ?_
      rintro e w2 ⟨rfl, hb2⟩
      exact hK _ _ hb2 rfl
    refine BOk.cons rfl [] [5] rfl (by kernel_rfl) (by kernel_rfl) (fun K a wr hb hO hF hK => ?_) ?_
    · have e5 : a.tmps[5]? = some (.pointer (some ⟨w.heap.size + 1 + 1, 0, none⟩)) := hO.1.trans rfl
      clear hO hF
      have hc50 := (bcell hb _ _ (World.block_lt_of_cell? _ _ c50)).trans c50
      have hc51 := (bcell hb _ _ (World.block_lt_of_cell? _ _ c51)).trans c51
      go_simp
      exact hK _ _ (Below.refl _ _) rfl
    refine BOk.cons rfl [3, 4] [] rfl (by kernel_rfl) (by kernel_rfl) (fun K a wr hb hO hF hK => ?_) ?_
    · obtain ⟨u34, e34, r3⟩ := hF.1
      have e34 : a.tmps[34]? = some (.agg #[.int .i64 (applyV 13 [x, y]).k, .int .u64 (applyV 13 [x, y]).b]) := (show u34 = .agg #[.int .i64 (applyV 13 [x, y]).k, .int .u64 (applyV 13 [x, y]).b] from r3) ▸ e34
      clear r3
      obtain ⟨u35, e35, r4⟩ := hF.2.1
      have e35 : a.tmps[35]? = some (.agg #[.int .i64 z.k, .int .u64 z.b]) := (show u35 = .agg #[.int .i64 z.k, .int .u64 z.b] from r4) ▸ e35
      clear r4
      clear hO hF
      go_simp
      exact hK _ _ ((Below.refl _ _).alloc (Nat.le_refl _) _) ⟨_, rfl, Bk.new _ _ _⟩
    refine BOk.cons rfl [5] [] rfl (by kernel_rfl) (by kernel_rfl) (fun K a wr hb hO hF hK => ?_) ?_
    · obtain ⟨u36, e36, r5⟩ := hF.1
      obtain ⟨g36, h36, k36⟩ := (show ∃ g, u36 = .slice (some ⟨g, 0, none⟩) 2 2 ∧ Bk wr g 24 #[.int .i64 (applyV 13 [x, y]).k, .int .u64 (applyV 13 [x, y]).b, .int .i64 z.k, .int .u64 z.b] from r5)
      subst h36
      have e36 : a.tmps[36]? = some (.slice (some ⟨g36, 0, none⟩) 2 2) := e36
      clear hO hF
      go_simp
      go_at_call 23
      refine (do_bk 13 [(applyV 13 [x, y]), z] _ _ k36 rfl (by intro q hq; simp at hq; rcases hq with rfl | rfl <;> first | assumption | (apply apply_fits; simp [*])) (by simp)).mono ?_
      rintro e w2 ⟨rfl, hb2⟩
      exact hK _ _ hb2 rfl
    refine BOk.cons rfl [] [3] rfl (by kernel_rfl) (by kernel_rfl) (fun K a wr hb hO hF hK => ?_) ?_
    · have e3 : a.tmps[3]? = some (.pointer (some ⟨w.heap.size, 0, none⟩)) := hO.1.trans rfl
      clear hO hF
      have hc30 := (bcell hb _ _ (World.block_lt_of_cell? _ _ c30)).trans c30
      have hc31 := (bcell hb _ _ (World.block_lt_of_cell? _ _ c31)).trans c31
      go_simp
      exact hK _ _ (Below.refl _ _) rfl
    refine BOk.cons rfl [] [4] rfl (by kernel_rfl) (by kernel_rfl) (fun K a wr hb hO hF hK => ?_) ?_
    · have e4 : a.tmps[4]? = some (.pointer (some ⟨w.heap.size + 1, 0, none⟩)) := hO.1.trans rfl
      clear hO hF
      have hc40 := (bcell hb _ _ (World.block_lt_of_cell? _ _ c40)).trans c40
      have hc41 := (bcell hb _ _ (World.block_lt_of_cell? _ _ c41)).trans c41
      go_simp
      exact hK _ _ (Below.refl _ _) rfl
    refine BOk.cons rfl [] [5] rfl (by kernel_rfl) (by kernel_rfl) (fun K a wr hb hO hF hK => ?_) ?_
    · have e5 : a.tmps[5]? = some (.pointer (some ⟨w.heap.size + 1 + 1, 0, none⟩)) := hO.1.trans rfl
      clear hO hF
      have hc50 := (bcell hb _ _ (World.block_lt_of_cell? _ _ c50)).trans c50
      have hc51 := (bcell hb _ _ (World.block_lt_of_cell? _ _ c51)).trans c51
      go_simp
      exact hK _ _ (Below.refl _ _) rfl
    refine BOk.cons rfl [8, 9] [] rfl (by kernel_rfl) (by kernel_rfl) (fun K a wr hb hO hF hK => ?_) ?_
    · obtain ⟨u39, e39, r8⟩ := hF.1
      have e39 : a.tmps[39]? = some (.agg #[.int .i64 y.k, .int .u64 y.b]) := (show u39 = .agg #[.int .i64 y.k, .int .u64 y.b] from r8) ▸ e39
      clear r8
      obtain ⟨u40, e40, r9⟩ := hF.2.1
      have e40 : a.tmps[40]? = some (.agg #[.int .i64 z.k, .int .u64 z.b]) := (show u40 = .agg #[.int .i64 z.k, .int .u64 z.b] from r9) ▸ e40
      clear r9
      clear hO hF
      go_simp
      exact hK _ _ ((Below.refl _ _).alloc (Nat.le_refl _) _) ⟨_, rfl, Bk.new _ _ _⟩
    refine BOk.cons rfl [10] [] rfl (by kernel_rfl) (by kernel_rfl) (fun K a wr hb hO hF hK => ?_) ?_
    · obtain ⟨u41, e41, r10⟩ := hF.1
      obtain ⟨g41, h41, k41⟩ := (show ∃ g, u41 = .slice (some ⟨g, 0, none⟩) 2 2 ∧ Bk wr g 24 #[.int .i64 y.k, .int .u64 y.b, .int .i64 z.k, .int .u64 z.b] from r10)
      subst h41
      have e41 : a.tmps[41]? = some (.slice (some ⟨g41, 0, none⟩) 2 2) := e41
      clear hO hF
      go_simp
      go_at_call 23
      refine (do_bk 13 [y, z] _ _ k41 rfl (by intro q hq; simp at hq; rcases hq with rfl | rfl <;> first | assumption | (apply apply_fits; simp [*])) (by simp)).mono ?_
      rintro e w2 ⟨rfl, hb2⟩
      exact hK _ _ hb2 rfl
    refine BOk.cons rfl [7, 11] [] rfl (by kernel_rfl) (by kernel_rfl) (fun K a wr hb hO hF hK => ?_) ?_
    · obtain ⟨u38, e38, r7⟩ := hF.1
      have e38 : a.tmps[38]? = some (.agg #[.int .i64 x.k, .int .u64 x.b]) := (show u38 = .agg #[.int .i64 x.k, .int .u64 x.b] from r7) ▸ e38
      clear r7
      obtain ⟨u42, e42, r11⟩ := hF.2.1
      have e42 : a.tmps[42]? = some (.agg #[.int .i64 (applyV 13 [y, z]).k, .int .u64 (applyV 13 [y, z]).b]) := (show u42 = .agg #[.int .i64 (applyV 13 [y, z]).k, .int .u64 (applyV 13 [y, z]).b] from r11) ▸ e42
      clear r11
      clear hO hF
      go_simp
      exact hK _ _ ((Below.refl _ _).alloc (Nat.le_refl _) _) ⟨_, rfl, Bk.new _ _ _⟩
    refine BOk.cons rfl [12] [] rfl (by kernel_rfl) (by kernel_rfl) (fun K a wr hb hO hF hK => ?_) ?_
    · obtain ⟨u43, e43, r12⟩ := hF.1
      obtain ⟨g43, h43, k43⟩ := (show ∃ g, u43 = .slice (some ⟨g, 0, none⟩) 2 2 ∧ Bk wr g 24 #[.int .i64 x.k, .int .u64 x.b, .int .i64 (applyV 13 [y, z]).k, .int .u64 (applyV 13 [y, z]).b] from r12)
      subst h43
      have e43 : a.tmps[43]? = some (.slice (some ⟨g43, 0, none⟩) 2 2) := e43
      clear hO hF
      go_simp
      go_at_call 23
      refine (do_bk 13 [x, (applyV 13 [y, z])] _ _ k43 rfl (by intro q hq; simp at hq; rcases hq with rfl | rfl <;> first | assumption | (apply apply_fits; simp [*])) (by simp)).mono ?_
      rintro e w2 ⟨rfl, hb2⟩
      rw [← logic_assoc 13 (by omega) x y z]
      exact hK _ _ hb2 rfl
    refine BOk.cons rfl [6, 13] [] rfl (by kernel_rfl) (by kernel_rfl) (fun K a wr hb hO hF hK => ?_) ?_
    · obtain ⟨u37, e37, r6⟩ := hF.1
      have e37 : a.tmps[37]? = some (.agg #[.int .i64 (applyV 13 [(applyV 13 [x, y]), z]).k, .int .u64 (applyV 13 [(applyV 13 [x, y]), z]).b]) := (show u37 = .agg #[.int .i64 (applyV 13 [(applyV 13 [x, y]), z]).k, .int .u64 (applyV 13 [(applyV 13 [x, y]), z]).b] from r6) ▸ e37
      clear r6
      obtain ⟨u44, e44, r13⟩ := hF.2.1
      have e44 : a.tmps[44]? = some (.agg #[.int .i64 (applyV 13 [(applyV 13 [x, y]), z]).k, .int .u64 (applyV 13 [(applyV 13 [x, y]), z]).b]) := (show u44 = .agg #[.int .i64 (applyV 13 [(applyV 13 [x, y]), z]).k, .int .u64 (applyV 13 [(applyV 13 [x, y]), z]).b] from r13) ▸ e44
      clear r13
      clear hO hF
      go_simp
      exact hK _ _ (Below.refl _ _) (show (_ : Value) = _ from by first | rfl | simp)
    refine BOk.cons rfl [14] [] rfl (by kernel_rfl) (by kernel_rfl) (fun K a wr hb hO hF hK => ?_) ?_
    · obtain ⟨u45, e45, r14⟩ := hF.1
      have e45 : a.tmps[45]? = some (.bool false) := (show u45 = .bool false from r14) ▸ e45
      clear r14
      clear hO hF
      go_simp
      exact hK _ _ (Below.refl _ _) rfl
    refine BOk.yes rfl [] [3] 15 false rfl rfl rfl (by kernel_rfl) (by kernel_rfl) (by kernel_rfl) (fun K a wr hb hO hF hK => ?_) ?_
    · have e3 : a.tmps[3]? = some (.pointer (some ⟨w.heap.size, 0, none⟩)) := hO.1.trans rfl
      clear hO hF
      have hc30 := (bcell hb _ _ (World.block_lt_of_cell? _ _ c30)).trans c30
      have hc31 := (bcell hb _ _ (World.block_lt_of_cell? _ _ c31)).trans c31
      go_simp
      exact hK _ _ (Below.refl _ _) rfl
    refine BOk.yes rfl [] [4] 15 false rfl rfl rfl (by kernel_rfl) (by kernel_rfl) (by kernel_rfl) (fun K a wr hb hO hF hK => ?_) ?_
    · have e4 : a.tmps[4]? = some (.pointer (some ⟨w.heap.size + 1, 0, none⟩)) := hO.1.trans rfl
      clear hO hF
      have hc40 := (bcell hb _ _ (World.block_lt_of_cell? _ _ c40)).trans c40
      have hc41 := (bcell hb _ _ (World.block_lt_of_cell? _ _ c41)).trans c41
      go_simp
      exact hK _ _ (Below.refl _ _) rfl
    refine BOk.yes rfl [16, 17] [] 15 false rfl rfl rfl (by kernel_rfl) (by kernel_rfl) (by kernel_rfl) (fun K a wr hb hO hF hK => ?_) ?_
    · obtain ⟨u47, e47, r16⟩ := hF.1
      have e47 : a.tmps[47]? = some (.agg #[.int .i64 x.k, .int .u64 x.b]) := (show u47 = .agg #[.int .i64 x.k, .int .u64 x.b] from r16) ▸ e47
      clear r16
      obtain ⟨u48, e48, r17⟩ := hF.2.1
      have e48 : a.tmps[48]? = some (.agg #[.int .i64 y.k, .int .u64 y.b]) := (show u48 = .agg #[.int .i64 y.k, .int .u64 y.b] from r17) ▸ e48
      clear r17
      clear hO hF
      go_simp
      exact hK _ _ ((Below.refl _ _).alloc (Nat.le_refl _) _) ⟨_, rfl, Bk.new _ _ _⟩
    refine BOk.yes rfl [18] [] 15 false rfl rfl rfl (by kernel_rfl) (by kernel_rfl) (by kernel_rfl) (fun K a wr hb hO hF hK => ?_) ?_
    · obtain ⟨u49, e49, r18⟩ := hF.1
      obtain ⟨g49, h49, k49⟩ := (show ∃ g, u49 = .slice (some ⟨g, 0, none⟩) 2 2 ∧ Bk wr g 24 #[.int .i64 x.k, .int .u64 x.b, .int .i64 y.k, .int .u64 y.b] from r18)
      subst h49
      have e49 : a.tmps[49]? = some (.slice (some ⟨g49, 0, none⟩) 2 2) := e49
      clear hO hF
      go_simp
      go_at_call 23
      refine (do_bk 14 [x, y] _ _ k49 rfl (by intro q hq; simp at hq; rcases hq with rfl | rfl <;> first | assumption | (apply apply_fits; simp [*])) (by simp)).mono ?_
      rintro e w2 ⟨rfl, hb2⟩
      exact hK _ _ hb2 rfl
    refine BOk.yes rfl [] [5] 15 false rfl rfl rfl (by kernel_rfl) (by kernel_rfl) (by kernel_rfl) (fun K a wr hb hO hF hK => ?_) ?_
    · have e5 : a.tmps[5]? = some (.pointer (some ⟨w.heap.size + 1 + 1, 0, none⟩)) := hO.1.trans rfl
      clear hO hF
      have hc50 := (bcell hb _ _ (World.block_lt_of_cell? _ _ c50)).trans c50
      have hc51 := (bcell hb _ _ (World.block_lt_of_cell? _ _ c51)).trans c51
      go_simp
      exact hK _ _ (Below.refl _ _) rfl
    refine BOk.yes rfl [19, 20] [] 15 false rfl rfl rfl (by kernel_rfl) (by kernel_rfl) (by kernel_rfl) (fun K a wr hb hO hF hK => ?_) ?_
    · obtain ⟨u50, e50, r19⟩ := hF.1
      have e50 : a.tmps[50]? = some (.agg #[.int .i64 (applyV 14 [x, y]).k, .int .u64 (applyV 14 [x, y]).b]) := (show u50 = .agg #[.int .i64 (applyV 14 [x, y]).k, .int .u64 (applyV 14 [x, y]).b] from r19) ▸ e50
      clear r19
      obtain ⟨u51, e51, r20⟩ := hF.2.1
      have e51 : a.tmps[51]? = some (.agg #[.int .i64 z.k, .int .u64 z.b]) := (show u51 = .agg #[.int .i64 z.k, .int .u64 z.b] from r20) ▸ e51
      clear r20
      clear hO hF
      go_simp
      exact hK _ _ ((Below.refl _ _).alloc (Nat.le_refl _) _) ⟨_, rfl, Bk.new _ _ _⟩
    refine BOk.yes rfl [21] [] 15 false rfl rfl rfl (by kernel_rfl) (by kernel_rfl) (by kernel_rfl) (fun K a wr hb hO hF hK => ?_) ?_
    · obtain ⟨u52, e52, r21⟩ := hF.1
      obtain ⟨g52, h52, k52⟩ := (show ∃ g, u52 = .slice (some ⟨g, 0, none⟩) 2 2 ∧ Bk wr g 24 #[.int .i64 (applyV 14 [x, y]).k, .int .u64 (applyV 14 [x, y]).b, .int .i64 z.k, .int .u64 z.b] from r21)
      subst h52
      have e52 : a.tmps[52]? = some (.slice (some ⟨g52, 0, none⟩) 2 2) := e52
      clear hO hF
      go_simp
      go_at_call 23
      refine (do_bk 14 [(applyV 14 [x, y]), z] _ _ k52 rfl (by intro q hq; simp at hq; rcases hq with rfl | rfl <;> first | assumption | (apply apply_fits; simp [*])) (by simp)).mono ?_
      rintro e w2 ⟨rfl, hb2⟩
      exact hK _ _ hb2 rfl
    refine BOk.yes rfl [] [3] 15 false rfl rfl rfl (by kernel_rfl) (by kernel_rfl) (by kernel_rfl) (fun K a wr hb hO hF hK => ?_) ?_
    · have e3 : a.tmps[3]? = some (.pointer (some ⟨w.heap.size, 0, none⟩)) := hO.1.trans rfl
      clear hO hF
      have hc30 := (bcell hb _ _ (World.block_lt_of_cell? _ _ c30)).trans c30
      have hc31 := (bcell hb _ _ (World.block_lt_of_cell? _ _ c31)).trans c31
      go_simp
      exact hK _ _ (Below.refl _ _) rfl
    refine BOk.yes rfl [] [4] 15 false rfl rfl rfl (by kernel_rfl) (by kernel_rfl) (by kernel_rfl) (fun K a wr hb hO hF hK => ?_) ?_
    · have e4 : a.tmps[4]? = some (.pointer (some ⟨w.heap.size + 1, 0, none⟩)) := hO.1.trans rfl
      clear hO hF
      have hc40 := (bcell hb _ _ (World.block_lt_of_cell? _ _ c40)).trans c40
      have hc41 := (bcell hb _ _ (World.block_lt_of_cell? _ _ c41)).trans c41
      go_simp
      exact hK _ _ (Below.refl _ _) rfl
    refine BOk.yes rfl [] [5] 15 false rfl rfl rfl (by kernel_rfl) (by kernel_rfl) (by kernel_rfl) (fun K a wr hb hO hF hK => ?_) ?_
    · have e5 : a.tmps[5]? = some (.pointer (some ⟨w.heap.size + 1 + 1, 0, none⟩)) := hO.1.trans rfl
      clear hO hF
      have hc50 := (bcell hb _ _ (World.block_lt_of_cell? _ _ c50)).trans c50
      have hc51 := (bcell hb _ _ (World.block_lt_of_cell? _ _ c51)).trans c51
      go_simp
      exact hK _ _ (Below.refl _ _) rfl
    refine BOk.yes rfl [24, 25] [] 15 false rfl rfl rfl (by kernel_rfl) (by kernel_rfl) (by kernel_rfl) (fun K a wr hb hO hF hK => ?_) ?_
    · obtain ⟨u55, e55, r24⟩ := hF.1
      have e55 : a.tmps[55]? = some (.agg #[.int .i64 y.k, .int .u64 y.b]) := (show u55 = .agg #[.int .i64 y.k, .int .u64 y.b] from r24) ▸ e55
      clear r24
      obtain ⟨u56, e56, r25⟩ := hF.2.1
      have e56 : a.tmps[56]? = some (.agg #[.int .i64 z.k, .int .u64 z.b]) := (show u56 = .agg #[.int .i64 z.k, .int .u64 z.b] from r25) ▸ e56
      clear r25
      clear hO hF
      go_simp
      exact hK _ _ ((Below.refl _ _).alloc (Nat.le_refl _) _) ⟨_, rfl, Bk.new _ _ _⟩
    refine BOk.yes rfl [26] [] 15 false rfl rfl rfl (by kernel_rfl) (by kernel_rfl) (by kernel_rfl) (fun K a wr hb hO hF hK => ?_) ?_
    · obtain ⟨u57, e57, r26⟩ := hF.1
      obtain ⟨g57, h57, k57⟩ := (show ∃ g, u57 = .slice (some ⟨g, 0, none⟩) 2 2 ∧ Bk wr g 24 #[.int .i64 y.k, .int .u64 y.b, .int .i64 z.k, .int .u64 z.b] from r26)
      subst h57
      have e57 : a.tmps[57]? = some (.slice (some ⟨g57, 0, none⟩) 2 2) := e57
      clear hO hF
      go_simp
      go_at_call 23
      refine (do_bk 14 [y, z] _ _ k57 rfl (by intro q hq; simp at hq; rcases hq with rfl | rfl <;> first | assumption | (apply apply_fits; simp [*])) (by simp)).mono ?_
      rintro e w2 ⟨rfl, hb2⟩
      exact hK _ _ hb2 rfl
    refine BOk.yes rfl [23, 27] [] 15 false rfl rfl rfl (by kernel_rfl) (by kernel_rfl) (by kernel_rfl) (fun K a wr hb hO hF hK => ?_) ?_
    · obtain ⟨u54, e54, r23⟩ := hF.1
      have e54 : a.tmps[54]? = some (.agg #[.int .i64 x.k, .int .u64 x.b]) := (show u54 = .agg #[.int .i64 x.k, .int .u64 x.b] from r23) ▸ e54
      clear r23
      obtain ⟨u58, e58, r27⟩ := hF.2.1
      have e58 : a.tmps[58]? = some (.agg #[.int .i64 (applyV 14 [y, z]).k, .int .u64 (applyV 14 [y, z]).b]) := (show u58 = .agg #[.int .i64 (applyV 14 [y, z]).k, .int .u64 (applyV 14 [y, z]).b] from r27) ▸ e58
      clear r27
      clear hO hF
      go_simp
      exact hK _ _ ((Below.refl _ _).alloc (Nat.le_refl _) _) ⟨_, rfl, Bk.new _ _ _⟩
    refine BOk.yes rfl [28] [] 15 false rfl rfl rfl (by kernel_rfl) (by kernel_rfl) (by kernel_rfl) (fun K a wr hb hO hF hK => ?_) ?_
    · obtain ⟨u59, e59, r28⟩ := hF.1
      obtain ⟨g59, h59, k59⟩ := (show ∃ g, u59 = .slice (some ⟨g, 0, none⟩) 2 2 ∧ Bk wr g 24 #[.int .i64 x.k, .int .u64 x.b, .int .i64 (applyV 14 [y, z]).k, .int .u64 (applyV 14 [y, z]).b] from r28)
      subst h59
      have e59 : a.tmps[59]? = some (.slice (some ⟨g59, 0, none⟩) 2 2) := e59
      clear hO hF
      go_simp
      go_at_call 23
      refine (do_bk 14 [x, (applyV 14 [y, z])] _ _ k59 rfl (by intro q hq; simp at hq; rcases hq with rfl | rfl <;> first | assumption | (apply apply_fits; simp [*])) (by simp)).mono ?_
      rintro e w2 ⟨rfl, hb2⟩
      rw [← logic_assoc 14 (by omega) x y z]
      exact hK _ _ hb2 rfl
    refine BOk.yes rfl [22, 29] [] 15 false rfl rfl rfl (by kernel_rfl) (by kernel_rfl) (by kernel_rfl) (fun K a wr hb hO hF hK => ?_) ?_
    · obtain ⟨u53, e53, r22⟩ := hF.1
      have e53 : a.tmps[53]? = some (.agg #[.int .i64 (applyV 14 [(applyV 14 [x, y]), z]).k, .int .u64 (applyV 14 [(applyV 14 [x, y]), z]).b]) := (show u53 = .agg #[.int .i64 (applyV 14 [(applyV 14 [x, y]), z]).k, .int .u64 (applyV 14 [(applyV 14 [x, y]), z]).b] from r22) ▸ e53
      clear r22
      obtain ⟨u60, e60, r29⟩ := hF.2.1
      have e60 : a.tmps[60]? = some (.agg #[.int .i64 (applyV 14 [(applyV 14 [x, y]), z]).k, .int .u64 (applyV 14 [(applyV 14 [x, y]), z]).b]) := (show u60 = .agg #[.int .i64 (applyV 14 [(applyV 14 [x, y]), z]).k, .int .u64 (applyV 14 [(applyV 14 [x, y]), z]).b] from r29) ▸ e60
      clear r29
      clear hO hF
      go_simp
      exact hK _ _ (Below.refl _ _) (show (_ : Value) = _ from by first | rfl | simp)
    refine BOk.cons rfl [15, 30] [] rfl (by kernel_rfl) (by kernel_rfl) (fun K a wr hb hO hF hK => ?_) ?_
    · obtain ⟨u46, e46, r15⟩ := hF.1
      have e46 : a.tmps[46]? = some (.bool false) := (show u46 = .bool false from r15) ▸ e46
      clear r15
      obtain ⟨u61, e61, r30⟩ := hF.2.1
      have e61 : a.tmps[61]? = some (.bool false) := (show u61 = .bool false from r30) ▸ e61
      clear r30
      clear hO hF
      go_simp
      exact hK _ _ (Below.refl _ _) (show (_ : Value) = _ from by first | rfl | simp)
    exact BOk.nil
  intro vals wr hl hb hR
  match vals, hl with
  | [u331, u332, u333, u334, u335, u336, u337, u338, u339, u340, u341, u342, u343, u344, u345, u346, u347, u348, u349, u350, u351, u352, u353, u354, u355, u356, u357, u358, u359, u360, u361, u362], _ =>
  have r31 : u362 = .bool false := hR 31 _ rfl
  subst r31
  clear hR
  simp only [putAll, Act.put, List.setIfInBounds_toArray, List.set_cons_zero, List.set_cons_succ]
  have k3 := k3.old hb
  have k4 := k4.old hb
  have k5 := k5.old hb
  have hbW := hbW.trans (hb.mono hbW.size)
  clear hb c30 c31 c40 c41 c50 c51
  go_wp2_with fail
  have ⟨c30, c31, _, _⟩ := vcells k3
  have ⟨c40, c41, _, _⟩ := vcells k4
  have ⟨c50, c51, _, _⟩ := vcells k5
  refine wp_region_b (by kernel_rfl) (fun k => (truthsR5 x y z).getD k .any) (by kernel_rfl) ?_ ?_
  · refine BOk.cons rfl [] [3] rfl (by kernel_rfl) (by kernel_rfl) (fun K a wr hb hO hF hK => ?_) ?_
    · have e3 : a.tmps[3]? = some (.pointer (some ⟨w.heap.size, 0, none⟩)) := hO.1.trans rfl
      clear hO hF
      have hc30 := (bcell hb _ _ (World.block_lt_of_cell? _ _ c30)).trans c30
      have hc31 := (bcell hb _ _ (World.block_lt_of_cell? _ _ c31)).trans c31
      go_simp
      exact hK _ _ (Below.refl _ _) rfl
    refine BOk.cons rfl [] [4] rfl (by kernel_rfl) (by kernel_rfl) (fun K a wr hb hO hF hK => ?_) ?_
    · have e4 : a.tmps[4]? = some (.pointer (some ⟨w.heap.size + 1, 0, none⟩)) := hO.1.trans rfl
      clear hO hF
      have hc40 := (bcell hb _ _ (World.block_lt_of_cell? _ _ c40)).trans c40
      have hc41 := (bcell hb _ _ (World.block_lt_of_cell? _ _ c41)).trans c41
      go_simp
      exact hK _ _ (Below.refl _ _) rfl
    refine BOk.cons rfl [0, 1] [] rfl (by kernel_rfl) (by kernel_rfl) (fun K a wr hb hO hF hK => ?_) ?_
    · obtain ⟨u63, e63, r0⟩ := hF.1
      have e63 : a.tmps[63]? = some (.agg #[.int .i64 x.k, .int .u64 x.b]) := (show u63 = .agg #[.int .i64 x.k, .int .u64 x.b] from r0) ▸ e63
      clear r0
      obtain ⟨u64, e64, r1⟩ := hF.2.1
      have e64 : a.tmps[64]? = some (.agg #[.int .i64 y.k, .int .u64 y.b]) := (show u64 = .agg #[.int .i64 y.k, .int .u64 y.b] from r1) ▸ e64
      clear r1
      clear hO hF
      go_simp
      exact hK _ _ ((Below.refl _ _).alloc (Nat.le_refl _) _) ⟨_, rfl, Bk.new _ _ _⟩
    refine BOk.cons rfl [2] [] rfl (by kernel_rfl) (by kernel_rfl) (fun K a wr hb hO hF hK => ?_) ?_
    · obtain ⟨u65, e65, r2⟩ := hF.1
      obtain ⟨g65, h65, k65⟩ := (show ∃ g, u65 = .slice (some ⟨g, 0, none⟩) 2 2 ∧ Bk wr g 24 #[.int .i64 x.k, .int .u64 x.b, .int .i64 y.k, .int .u64 y.b] from r2)
      subst h65
      have e65 : a.tmps[65]? = some (.slice (some ⟨g65, 0, none⟩) 2 2) := e65
      clear hO hF
      go_simp
      go_at_call 23
      refine (do_bk 13 [x, y] _ _ k65 rfl (by intro q hq; simp at hq; rcases hq with rfl | rfl <;> first | assumption | (apply apply_fits; simp [*])) (by simp)).mono ?_
      rintro e w2 ⟨rfl, hb2⟩
      exact hK _ _ hb2 rfl
    refine BOk.cons rfl [3] [] rfl (by kernel_rfl) (by kernel_rfl) (fun K a wr hb hO hF hK => ?_) ?_
    · obtain ⟨u66, e66, r3⟩ := hF.1
      have e66 : a.tmps[66]? = some (.agg #[.int .i64 (applyV 13 [x, y]).k, .int .u64 (applyV 13 [x, y]).b]) := (show u66 = .agg #[.int .i64 (applyV 13 [x, y]).k, .int .u64 (applyV 13 [x, y]).b] from r3) ▸ e66
      clear r3
      clear hO hF
      go_simp
      exact hK _ _ ((Below.refl _ _).alloc (Nat.le_refl _) _) ⟨_, rfl, Bk.new _ _ _⟩
    refine BOk.cons rfl [4] [] rfl (by kernel_rfl) (by kernel_rfl) (fun K a wr hb hO hF hK => ?_) ?_
    · obtain ⟨u67, e67, r4⟩ := hF.1
      obtain ⟨g67, h67, k67⟩ := (show ∃ g, u67 = .slice (some ⟨g, 0, none⟩) 1 1 ∧ Bk wr g 24 #[.int .i64 (applyV 13 [x, y]).k, .int .u64 (applyV 13 [x, y]).b] from r4)
      subst h67
      have e67 : a.tmps[67]? = some (.slice (some ⟨g67, 0, none⟩) 1 1) := e67
      clear hO hF
      go_simp
      go_at_call 23
      refine (do_bk 15 [(applyV 13 [x, y])] _ _ k67 rfl (by intro q hq; simp at hq; subst hq <;> first | assumption | (apply apply_fits; simp [*])) (by simp)).mono ?_
      rintro e w2 ⟨rfl, hb2⟩
      exact hK _ _ hb2 rfl
    refine BOk.cons rfl [] [3] rfl (by kernel_rfl) (by kernel_rfl) (fun K a wr hb hO hF hK => ?_) ?_
    · have e3 : a.tmps[3]? = some (.pointer (some ⟨w.heap.size, 0, none⟩)) := hO.1.trans rfl
      clear hO hF
      have hc30 := (bcell hb _ _ (World.block_lt_of_cell? _ _ c30)).trans c30
      have hc31 := (bcell hb _ _ (World.block_lt_of_cell? _ _ c31)).trans c31
      go_simp
      exact hK _ _ (Below.refl _ _) rfl
    refine BOk.cons rfl [6] [] rfl (by kernel_rfl) (by kernel_rfl) (fun K a wr hb hO hF hK => ?_) ?_
    · obtain ⟨u69, e69, r6⟩ := hF.1
      have e69 : a.tmps[69]? = some (.agg #[.int .i64 x.k, .int .u64 x.b]) := (show u69 = .agg #[.int .i64 x.k, .int .u64 x.b] from r6) ▸ e69
      clear r6
      clear hO hF
      go_simp
      exact hK _ _ ((Below.refl _ _).alloc (Nat.le_refl _) _) ⟨_, rfl, Bk.new _ _ _⟩
    refine BOk.cons rfl [7] [] rfl (by kernel_rfl) (by kernel_rfl) (fun K a wr hb hO hF hK => ?_) ?_
    · obtain ⟨u70, e70, r7⟩ := hF.1
      obtain ⟨g70, h70, k70⟩ := (show ∃ g, u70 = .slice (some ⟨g, 0, none⟩) 1 1 ∧ Bk wr g 24 #[.int .i64 x.k, .int .u64 x.b] from r7)
      subst h70
      have e70 : a.tmps[70]? = some (.slice (some ⟨g70, 0, none⟩) 1 1) := e70
      clear hO hF
      go_simp
      go_at_call 23
      refine (do_bk 15 [x] _ _ k70 rfl (by intro q hq; simp at hq; subst hq <;> first | assumption | (apply apply_fits; simp [*])) (by simp)).mono ?_
      rintro e w2 ⟨rfl, hb2⟩
      exact hK _ _ hb2 rfl
    refine BOk.cons rfl [] [4] rfl (by kernel_rfl) (by kernel_rfl) (fun K a wr hb hO hF hK => ?_) ?_
    · have e4 : a.tmps[4]? = some (.pointer (some ⟨w.heap.size + 1, 0, none⟩)) := hO.1.trans rfl
      clear hO hF
      have hc40 := (bcell hb _ _ (World.block_lt_of_cell? _ _ c40)).trans c40
      have hc41 := (bcell hb _ _ (World.block_lt_of_cell? _ _ c41)).trans c41
      go_simp
      exact hK _ _ (Below.refl _ _) rfl
    refine BOk.cons rfl [9] [] rfl (by kernel_rfl) (by kernel_rfl) (fun K a wr hb hO hF hK => ?_) ?_
    · obtain ⟨u72, e72, r9⟩ := hF.1
      have e72 : a.tmps[72]? = some (.agg #[.int .i64 y.k, .int .u64 y.b]) := (show u72 = .agg #[.int .i64 y.k, .int .u64 y.b] from r9) ▸ e72
      clear r9
      clear hO hF
      go_simp
      exact hK _ _ ((Below.refl _ _).alloc (Nat.le_refl _) _) ⟨_, rfl, Bk.new _ _ _⟩
    refine BOk.cons rfl [10] [] rfl (by kernel_rfl) (by kernel_rfl) (fun K a wr hb hO hF hK => ?_) ?_
    · obtain ⟨u73, e73, r10⟩ := hF.1
      obtain ⟨g73, h73, k73⟩ := (show ∃ g, u73 = .slice (some ⟨g, 0, none⟩) 1 1 ∧ Bk wr g 24 #[.int .i64 y.k, .int .u64 y.b] from r10)
      subst h73
      have e73 : a.tmps[73]? = some (.slice (some ⟨g73, 0, none⟩) 1 1) := e73
      clear hO hF
      go_simp
      go_at_call 23
      refine (do_bk 15 [y] _ _ k73 rfl (by intro q hq; simp at hq; subst hq <;> first | assumption | (apply apply_fits; simp [*])) (by simp)).mono ?_
      rintro e w2 ⟨rfl, hb2⟩
      exact hK _ _ hb2 rfl
    refine BOk.cons rfl [8, 11] [] rfl (by kernel_rfl) (by kernel_rfl) (fun K a wr hb hO hF hK => ?_) ?_
    · obtain ⟨u71, e71, r8⟩ := hF.1
      have e71 : a.tmps[71]? = some (.agg #[.int .i64 (applyV 15 [x]).k, .int .u64 (applyV 15 [x]).b]) := (show u71 = .agg #[.int .i64 (applyV 15 [x]).k, .int .u64 (applyV 15 [x]).b] from r8) ▸ e71
      clear r8
      obtain ⟨u74, e74, r11⟩ := hF.2.1
      have e74 : a.tmps[74]? = some (.agg #[.int .i64 (applyV 15 [y]).k, .int .u64 (applyV 15 [y]).b]) := (show u74 = .agg #[.int .i64 (applyV 15 [y]).k, .int .u64 (applyV 15 [y]).b] from r11) ▸ e74
      clear r11
      clear hO hF
      go_simp
      exact hK _ _ ((Below.refl _ _).alloc (Nat.le_refl _) _) ⟨_, rfl, Bk.new _ _ _⟩
    refine BOk.cons rfl [12] [] rfl (by kernel_rfl) (by kernel_rfl) (fun K a wr hb hO hF hK => ?_) ?_
    · obtain ⟨u75, e75, r12⟩ := hF.1
      obtain ⟨g75, h75, k75⟩ := (show ∃ g, u75 = .slice (some ⟨g, 0, none⟩) 2 2 ∧ Bk wr g 24 #[.int .i64 (applyV 15 [x]).k, .int .u64 (applyV 15 [x]).b, .int .i64 (applyV 15 [y]).k, .int .u64 (applyV 15 [y]).b] from r12)
      subst h75
      have e75 : a.tmps[75]? = some (.slice (some ⟨g75, 0, none⟩) 2 2) := e75
      clear hO hF
      go_simp
      go_at_call 23
      refine (do_bk 14 [(applyV 15 [x]), (applyV 15 [y])] _ _ k75 rfl (by intro q hq; simp at hq; rcases hq with rfl | rfl <;> first | assumption | (apply apply_fits; simp [*])) (by simp)).mono ?_
      rintro e w2 ⟨rfl, hb2⟩
      rw [← logic_not x y]
      exact hK _ _ hb2 rfl
    refine BOk.cons rfl [5, 13] [] rfl (by kernel_rfl) (by kernel_rfl) (fun K a wr hb hO hF hK => ?_) ?_
    · obtain ⟨u68, e68, r5⟩ := hF.1
      have e68 : a.tmps[68]? = some (.agg #[.int .i64 (applyV 15 [(applyV 13 [x, y])]).k, .int .u64 (applyV 15 [(applyV 13 [x, y])]).b]) := (show u68 = .agg #[.int .i64 (applyV 15 [(applyV 13 [x, y])]).k, .int .u64 (applyV 15 [(applyV 13 [x, y])]).b] from r5) ▸ e68
      clear r5
      obtain ⟨u76, e76, r13⟩ := hF.2.1
      have e76 : a.tmps[76]? = some (.agg #[.int .i64 (applyV 15 [(applyV 13 [x, y])]).k, .int .u64 (applyV 15 [(applyV 13 [x, y])]).b]) := (show u76 = .agg #[.int .i64 (applyV 15 [(applyV 13 [x, y])]).k, .int .u64 (applyV 15 [(applyV 13 [x, y])]).b] from r13) ▸ e76
      clear r13
      clear hO hF
      go_simp
      exact hK _ _ (Below.refl _ _) (show (_ : Value) = _ from by first | rfl | simp)
    refine BOk.cons rfl [14] [] rfl (by kernel_rfl) (by kernel_rfl) (fun K a wr hb hO hF hK => ?_) ?_
    · obtain ⟨u77, e77, r14⟩ := hF.1
      have e77 : a.tmps[77]? = some (.bool true) := (show u77 = .bool true from r14) ▸ e77
      clear r14
      clear hO hF
      go_simp
      exact hK _ _ (Below.refl _ _) rfl
    exact BOk.nil
  intro vals wr hl hb hR
  match vals, hl with
  | [u563, u564, u565, u566, u567, u568, u569, u570, u571, u572, u573, u574, u575, u576, u577, u56], _ =>
  have r15 : u56 = .bool true := hR 15 _ rfl
  subst r15
  clear hR
  simp only [putAll, Act.put, List.setIfInBounds_toArray, List.set_cons_zero, List.set_cons_succ]
  have k3 := k3.old hb
  have k4 := k4.old hb
  have k5 := k5.old hb
  have hbW := hbW.trans (hb.mono hbW.size)
  clear hb c30 c31 c40 c41 c50 c51
  go_wp2_with fail
  go_ret
  exact ⟨rfl, hbW⟩

theorem own : ownKnob Try.prog.godebug = none := by kernel_rfl
theorem laidOut : laidOutB Try.prog = true := by kernel_rfl
theorem rec0 : (Try.f7.params.toList.all fun t => Try.prog.readableRec t && decide (t < Try.prog.types.size)) = true := by kernel_rfl
set_option maxRecDepth 100000 in
theorem lifted (os : Os) (started : os.Started) (H : Type) (enc : TypeId × Value → H) :
    ReturnsInHanded {} Try.checked os 7 .any (Rows.valueTruthsSpec.pre6 enc Try.prog Try.f7 Rows.valueTruthsRow.domain false) (Rows.valueTruthsSpec.post enc Try.prog Try.f7 false true false false) := by
  refine law_step (C := Try.checked) (tb := 4) own started (by kernel_rfl) Try.func7
    (ChangeSpec.witness6 (enc := enc) (C := Try.checked) false ⟨#[], #[.agg #[.int .i64 0, .int .u64 0], .agg #[.int .i64 0, .int .u64 0], .agg #[.int .i64 0, .int .u64 0]], []⟩ 8 (by kernel_rfl) (by kernel_rfl) (by kernel_rfl) (by kernel_rfl)) laidOut ?_ rfl Try.underlying4 rfl ?_ ?_
  · intro t ht
    have := List.all_eq_true.1 rec0 t ht
    simp only [Bool.and_eq_true, decide_eq_true_eq] at this
    exact this
  · intro ds hd
    match ds, hd with
    | [d0, d1, d2], _ => exact ⟨rfl, rfl, rfl⟩
  intro W base args ds p hval hA hsz
  rw [Try.params7] at hA hval hsz
  obtain ⟨v0, vs0, d0, ds0, p0, q0, hargs, rfl, rfl, h0, r0⟩ := trodAll_cons hA
  obtain ⟨v1, vs1, d1, ds1, p1, q1, rfl, rfl, rfl, h1, r1⟩ := trodAll_cons r0
  obtain ⟨v2, vs2, d2, ds2, p2, q2, rfl, rfl, rfl, h2, r2⟩ := trodAll_cons r1
  obtain ⟨rfl, rfl, rfl⟩ := trodAll_nil r2
  obtain rfl : args = #[v0, v1, v2] := by cases args; simp_all
  obtain ⟨x0, rfl, hx0⟩ := open_v (hval 0 24 v0 rfl rfl) h0 (weights_each (i := 0) hsz rfl rfl)
  obtain ⟨x1, rfl, hx1⟩ := open_v (hval 1 24 v1 rfl rfl) h1 (weights_each (i := 1) hsz rfl rfl)
  obtain ⟨x2, rfl, hx2⟩ := open_v (hval 2 24 v2 rfl rfl) h2 (weights_each (i := 2) hsz rfl rfl)
  exact walk x0 hx0 x1 hx1 x2 hx2 W 

theorem valueTruths_holds : Rows.ValueTruthsSaid :=
  OpenClaim.holds_of_wide 7 Try.f7 rfl rfl rfl rfl rfl rfl rfl ⟨rfl, rfl, rfl, rfl, rfl⟩ rfl rfl rfl rfl rfl (by kernel_rfl) Try.func7 (by kernel_rfl)
    (of_decide_eq_true (by kernel_rfl)) (by unfold Func.isWrapper; first | (rw [if_pos (by decide +kernel)]; kernel_rfl) | (rw [if_neg (by decide +kernel)]; exact ⟨rfl, rfl⟩))
    (fun os started H enc _ => lifted os started H enc)
#print axioms valueTruths_holds
end Go.Proofs.Ytlejjchaooeabaa.valueTruths
