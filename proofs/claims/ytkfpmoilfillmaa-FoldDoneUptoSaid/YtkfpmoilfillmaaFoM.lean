/- Layer 12: nodes without events. No conditions. -/
import Derived.Test.YtkfpmoilfillmaaFoH
import Derived.Test.YtkfpmoilfillmaaFoI
namespace Go.Proofs.Ytkfpmoilfillmaa
open Go.RowKit
set_option linter.unusedVariables false
set_option linter.unusedSimpArgs false

def closedN : Nat → NodeV → Bool
  | 0, _ => false
  | d + 1, .mk op _ _ _ args vk vb _ _ => if op = 40 then decide (args.length = 0) && (decide ((clean ⟨vk, vb⟩).k = vk) && decide ((clean ⟨vk, vb⟩).b = vb)) else args.all (closedN d) && ((decide (1 ≤ op) && decide (op ≤ 17)) && decide (0 < args.length))
/-- What a closed node is. -/
def valC : Nat → NodeV → V
  | 0, _ => ⟨0, 0⟩
  | d + 1, .mk op _ _ _ args vk vb _ _ => if op = 40 then clean ⟨vk, vb⟩ else applyV op (args.map (valC d))
theorem valC_fits {w : World} {B : Nat} : ∀ {d : Nat} {n : NodeV}, okN d n w B → (valC d n).fits
  | 0, _, h => h.elim
  | d + 1, .mk op kind A c args vk vb pos a, h => by
    show (if op = 40 then clean ⟨vk, vb⟩ else applyV op (args.map (valC d))).fits
    split
    · exact clean_fits _ h.2.2.1
    · exact apply_fits _ _ fun y hy => by
        obtain ⟨q, hq, rfl⟩ := List.mem_map.1 hy
        exact valC_fits (h.2.2.2 q hq)
/-- Folded, a closed node is a constant of what it is. -/
theorem closed_fold {w : World} {B : Nat} : ∀ {d : Nat} {n : NodeV}, okN d n w B → closedN d n = true → isKT (foldT d (treeN d n)) = true ∧ valKT (foldT d (treeN d n)) = valC d n
  | 0, _, h, _ => h.elim
  | d + 1, .mk op kind A c args vk vb pos a, h, hc => by
    have hc : (if op = 40 then decide (args.length = 0) && (decide ((clean ⟨vk, vb⟩).k = vk) && decide ((clean ⟨vk, vb⟩).b = vb)) else args.all (closedN d) && ((decide (1 ≤ op) && decide (op ≤ 17)) && decide (0 < args.length))) = true := hc
    by_cases h40 : op = 40
    · rw [if_pos h40] at hc
      simp only [Bool.and_eq_true, decide_eq_true_eq] at hc
      obtain ⟨h0, hk, hb⟩ := hc
      obtain rfl := List.eq_nil_of_length_eq_zero h0
      subst h40
      refine ⟨rfl, ?_⟩
      show (⟨vk, vb⟩ : V) = clean ⟨vk, vb⟩
      generalize clean ⟨vk, vb⟩ = y at *
      obtain ⟨yk, yb⟩ := y
      simp only at hk hb
      rw [hk, hb]
    · rw [if_neg h40] at hc
      simp only [Bool.and_eq_true, decide_eq_true_eq, List.all_eq_true] at hc
      obtain ⟨hall, ⟨h1, h17⟩, hlen⟩ := hc
      have hval : valC (d + 1) (.mk op kind A c args vk vb pos a) = applyV op (args.map (valC d)) := if_neg h40
      have hcon : conT (.mk op kind ((args.map (treeN d)).map (foldT d)) vk vb pos a) = some (constT kind (applyV op (args.map (valC d)))) := by
        show (if ((args.map (treeN d)).map (foldT d)).all isKT = true ∧ 1 ≤ op ∧ op ≤ 17 then some (constT kind (applyV op (((args.map (treeN d)).map (foldT d)).map valKT))) else none) = _
        rw [if_pos ⟨by
          rw [List.all_eq_true]
          intro y hy
          rw [List.map_map] at hy
          obtain ⟨q, hq, rfl⟩ := List.mem_map.1 hy
          exact (closed_fold (h.2.2.2 q hq) (hall q hq)).1, h1, h17⟩, List.map_map, List.map_map, List.map_congr_left (f := (valKT ∘ foldT d) ∘ treeN d) (g := valC d) fun q hq => (closed_fold (h.2.2.2 q hq) (hall q hq)).2]
      have hf : foldT (d + 1) (treeN (d + 1) (.mk op kind A c args vk vb pos a)) = constT kind (applyV op (args.map (valC d))) := by
        show (if (args.map (treeN d)).length = 0 then _ else ruleT (.mk op kind ((args.map (treeN d)).map (foldT d)) vk vb pos a)) = _
        rw [if_neg (by rw [List.length_map]; omega)]
        unfold ruleT
        rw [hcon]
      rw [hf, hval]
      exact ⟨rfl, rfl⟩
def foCz (A : Option Addr) (c : Nat) (vk : Int) (vb : Nat) (X : V) (e : Bool) (w : World) : List Spec := [.is (.pointer (some ⟨w.heap.size, 2, none⟩)),
  .is (.slice A 0 c),
  .is (.int .i64 0),
  .is (.bool true),
  .is (.bool true),
  .is (.pointer (some ⟨w.heap.size, 3, none⟩)),
  .is (.agg #[.int .i64 vk, .int .u64 vb]),
  .is (.agg #[.int .i64 X.k, .int .u64 X.b]),
  .is (.pointer (some ⟨w.heap.size, 3, none⟩)),
  .is (.agg #[.int .i64 vk, .int .u64 vb]),
  .is (.bool e),
  .is (.bool e),
  .is (.bool e)]
def foCn (A : Option Addr) (c : Nat) (args : List NodeV) (vk : Int) (vb : Nat) (w : World) : List Spec := [.is (.pointer (some ⟨w.heap.size, 2, none⟩)),
  .is (.slice A args.length c),
  .is (.int .i64 (args.length : Nat)),
  .is (.bool false),
  .is (.bool false),
  .is (undef),
  .is (undef),
  .is (undef),
  .is (undef),
  .is (undef),
  .is (undef),
  .is (.bool false),
  .is (.bool false)]

set_option maxRecDepth 100000 in
set_option maxHeartbeats 1000000 in
theorem closed_zero (kind : Int) (A : Option Addr) (c : Nat) (vk : Int) (vb : Nat) (pos a : Int) (X : V) (e : Bool) (hX : clean ⟨vk, vb⟩ = X) (he : (decide (X.k = vk) && decide (X.b = vb)) = e) (hv : vb < 18446744073709551616) (w : World) :
    Calls Try.prog 10 #[.agg #[.int .i64 40, .int .i64 kind, .slice A 0 c, .int .i64 vk, .int .u64 vb, .int .i64 pos, .int .i64 a]] w fun x w' => x = .returned (.bool e) ∧ Below w.heap.size w w' := by
  have hcl : ∀ w', Calls Try.prog 21 #[.agg #[.int .i64 vk, .int .u64 vb]] w' fun x w2 => x = .returned (.agg #[.int .i64 X.k, .int .u64 X.b]) ∧ Below w'.heap.size w' w2 := fun w' => by
    have := rclean_any ⟨vk, vb⟩ hv w'
    rw [hX] at this
    exact this
  have HCL := Lib.hid hcl
  have heq : ∀ w : World, (binOp .eql 33 (.agg #[.int .i64 X.k, .int .u64 X.b]) (.agg #[.int .i64 vk, .int .u64 vb])).run Try.prog w = .ok (.bool e) w := by
    intro w
    rw [eql_W, ← he]
    congr 2
    by_cases h1 : X.k = vk <;> by_cases h2 : X.b = vb <;> simp [h1, h2] <;> omega
  have kn := Bk.new w 27 #[.int .i64 40, .int .i64 kind, .slice A 0 c, .int .i64 vk, .int .u64 vb, .int .i64 pos, .int .i64 a]
  have hbe : Below w.heap.size w (w.alloc (.cells #[.int .i64 40, .int .i64 kind, .slice A 0 c, .int .i64 vk, .int .u64 vb, .int .i64 pos, .int .i64 a] 27)) := (Below.refl _ _).alloc (Nat.le_refl _) _
  have n0 : (w.alloc (.cells #[.int .i64 40, .int .i64 kind, .slice A 0 c, .int .i64 vk, .int .u64 vb, .int .i64 pos, .int .i64 a] 27)).cell? ⟨w.heap.size, 0, none⟩ = some (.int .i64 40) := kn.cell 0
  have n2 : (w.alloc (.cells #[.int .i64 40, .int .i64 kind, .slice A 0 c, .int .i64 vk, .int .u64 vb, .int .i64 pos, .int .i64 a] 27)).cell? ⟨w.heap.size, 2, none⟩ = some (.slice A 0 c) := kn.cell 2
  have n3 : (w.alloc (.cells #[.int .i64 40, .int .i64 kind, .slice A 0 c, .int .i64 vk, .int .u64 vb, .int .i64 pos, .int .i64 a] 27)).cell? ⟨w.heap.size, 3, none⟩ = some (.int .i64 vk) := kn.cell 3
  have n4 : (w.alloc (.cells #[.int .i64 40, .int .i64 kind, .slice A 0 c, .int .i64 vk, .int .u64 vb, .int .i64 pos, .int .i64 a] 27)).cell? ⟨w.heap.size, 4, none⟩ = some (.int .u64 vb) := kn.cell 4
  clear kn hcl hX he
  go_enter Try.func10, Try.ntmps10
  go_upto_region 2 with fail
  refine wp_region_b (by kernel_rfl) (fun qk => (foCz A c vk vb X e w).getD qk .any) (by kernel_rfl) ?_ ?_
  · refine BOk.cons rfl [] [1] rfl rfl (by kernel_rfl) (by kernel_rfl) (fun qK qa wr hB qO qF hK => ?_) ?_
    · have e1 : qa.tmps[1]? = some (.pointer (some ⟨w.heap.size, 0, none⟩)) := qO.1.trans rfl
      clear qO qF
      go_simp
      exact hK _ _ (Below.refl _ _) rfl
    refine BOk.cons rfl [0] [] rfl rfl (by kernel_rfl) (by kernel_rfl) (fun qK qa wr hB qO qF hK => ?_) ?_
    · have e7 : qa.tmps[7]? = some (.pointer (some ⟨w.heap.size, 2, none⟩)) := fis qF.1 rfl rfl
      clear qO qF
      have hn2 := (bcell hB _ _ (World.block_lt_of_cell? _ _ n2)).trans n2
      go_simp
      exact hK _ _ (Below.refl _ _) rfl
    refine BOk.cons rfl [1] [] rfl rfl (by kernel_rfl) (by kernel_rfl) (fun qK qa wr hB qO qF hK => ?_) ?_
    · have e8 : qa.tmps[8]? = some (.slice A 0 c) := fis qF.1 rfl rfl
      clear qO qF
      go_simp
      exact hK _ _ (Below.refl _ _) rfl
    refine BOk.cons rfl [2] [] rfl rfl (by kernel_rfl) (by kernel_rfl) (fun qK qa wr hB qO qF hK => ?_) ?_
    · have e9 : qa.tmps[9]? = some (.int .i64 0) := fis qF.1 rfl rfl
      clear qO qF
      go_simp
      refine hK _ _ (Below.refl _ _) ?_
      show (_ : Value) = _
      first | rfl | (simp; done) | (simp; omega)
    refine BOk.cons rfl [3] [] rfl rfl (by kernel_rfl) (by kernel_rfl) (fun qK qa wr hB qO qF hK => ?_) ?_
    · have e10 : qa.tmps[10]? = some (.bool true) := fis qF.1 rfl rfl
      clear qO qF
      go_simp
      exact hK _ _ (Below.refl _ _) (by first | rfl | (show (_ : Value) = _; simp_all; done))
    refine BOk.yes rfl [] [1] rfl 4 true rfl rfl rfl (by kernel_rfl) (by kernel_rfl) (by kernel_rfl) (fun qK qa wr hB qO qF hK => ?_) ?_
    · have e1 : qa.tmps[1]? = some (.pointer (some ⟨w.heap.size, 0, none⟩)) := qO.1.trans rfl
      clear qO qF
      go_simp
      exact hK _ _ (Below.refl _ _) rfl
    refine BOk.yes rfl [5] [] rfl 4 true rfl rfl rfl (by kernel_rfl) (by kernel_rfl) (by kernel_rfl) (fun qK qa wr hB qO qF hK => ?_) ?_
    · have e12 : qa.tmps[12]? = some (.pointer (some ⟨w.heap.size, 3, none⟩)) := fis qF.1 rfl rfl
      clear qO qF
      have hn3 := (bcell hB _ _ (World.block_lt_of_cell? _ _ n3)).trans n3
      have hn4 := (bcell hB _ _ (World.block_lt_of_cell? _ _ n4)).trans n4
      go_simp
      exact hK _ _ (Below.refl _ _) rfl
    refine BOk.yes rfl [6] [] rfl 4 true rfl rfl rfl (by kernel_rfl) (by kernel_rfl) (by kernel_rfl) (fun qK qa wr hB qO qF hK => ?_) ?_
    · have e13 : qa.tmps[13]? = some (.agg #[.int .i64 vk, .int .u64 vb]) := fis qF.1 rfl rfl
      clear qO qF
      go_simp
      go_at_call 21
      refine (HCL.out _).mono ?_
      rintro e2 w2 ⟨rfl, hb2⟩
      exact hK _ _ hb2 rfl
    refine BOk.yes rfl [] [1] rfl 4 true rfl rfl rfl (by kernel_rfl) (by kernel_rfl) (by kernel_rfl) (fun qK qa wr hB qO qF hK => ?_) ?_
    · have e1 : qa.tmps[1]? = some (.pointer (some ⟨w.heap.size, 0, none⟩)) := qO.1.trans rfl
      clear qO qF
      go_simp
      exact hK _ _ (Below.refl _ _) rfl
    refine BOk.yes rfl [8] [] rfl 4 true rfl rfl rfl (by kernel_rfl) (by kernel_rfl) (by kernel_rfl) (fun qK qa wr hB qO qF hK => ?_) ?_
    · have e15 : qa.tmps[15]? = some (.pointer (some ⟨w.heap.size, 3, none⟩)) := fis qF.1 rfl rfl
      clear qO qF
      have hn3 := (bcell hB _ _ (World.block_lt_of_cell? _ _ n3)).trans n3
      have hn4 := (bcell hB _ _ (World.block_lt_of_cell? _ _ n4)).trans n4
      go_simp
      exact hK _ _ (Below.refl _ _) rfl
    refine BOk.yes rfl [7, 9] [] rfl 4 true rfl rfl rfl (by kernel_rfl) (by kernel_rfl) (by kernel_rfl) (fun qK qa wr hB qO qF hK => ?_) ?_
    · have e14 : qa.tmps[14]? = some (.agg #[.int .i64 X.k, .int .u64 X.b]) := fis qF.1 rfl rfl
      have e16 : qa.tmps[16]? = some (.agg #[.int .i64 vk, .int .u64 vb]) := fis qF.2.1 rfl rfl
      clear qO qF
      go_simp
      refine hK _ _ (Below.refl _ _) ?_
      show (_ : Value) = _
      first | rfl | (simp; done) | (simp; omega)
    refine BOk.cons rfl [4, 10] [] rfl rfl (by kernel_rfl) (by kernel_rfl) (fun qK qa wr hB qO qF hK => ?_) ?_
    · have e11 : qa.tmps[11]? = some (.bool true) := fis qF.1 rfl rfl
      have e17 : qa.tmps[17]? = some (.bool e) := fis qF.2.1 rfl rfl
      clear qO qF
      go_simp
      refine hK _ _ (Below.refl _ _) ?_
      show (_ : Value) = _
      first | rfl | (simp; done) | (simp; omega)
    refine BOk.cons rfl [11] [] rfl rfl (by kernel_rfl) (by kernel_rfl) (fun qK qa wr hB qO qF hK => ?_) ?_
    · have e18 : qa.tmps[18]? = some (.bool e) := fis qF.1 rfl rfl
      clear qO qF
      go_simp
      exact hK _ _ (Below.refl _ _) (by first | rfl | (show (_ : Value) = _; simp_all; done))
    exact BOk.nil
  intro vals wr hl hB hR
  match vals, hl with
  | [u7, u8, u9, u10, u11, u12, u13, u14, u15, u16, u17, u18, u2], _ =>
  have r12 : u2 = .bool e := hR 12 _ rfl
  subst r12
  clear hR
  simp only [List.cons_append, List.nil_append, putAll, Act.put, List.setIfInBounds_toArray, List.set_cons_zero, List.set_cons_succ]
  replace hbe := hbe.trans (hB.mono hbe.size)
  clear hB n0 n2 n3 n4
  go_wp2_with fail
  go_ret
  exact ⟨rfl, hbe⟩
set_option maxRecDepth 100000 in
set_option maxHeartbeats 1000000 in
theorem closed_many (kind : Int) (A : Option Addr) (c : Nat) (args : List NodeV) (h0 : args.length ≠ 0) (vk : Int) (vb : Nat) (pos a : Int) (w : World) :
    Calls Try.prog 10 #[.agg #[.int .i64 40, .int .i64 kind, .slice A args.length c, .int .i64 vk, .int .u64 vb, .int .i64 pos, .int .i64 a]] w fun x w' => x = .returned (.bool false) ∧ Below w.heap.size w w' := by
  have g0 : ((args.length : Int) == 0) = false := by rw [beq_eq_false_iff_ne]; omega
  have kn := Bk.new w 27 #[.int .i64 40, .int .i64 kind, .slice A args.length c, .int .i64 vk, .int .u64 vb, .int .i64 pos, .int .i64 a]
  have hbe : Below w.heap.size w (w.alloc (.cells #[.int .i64 40, .int .i64 kind, .slice A args.length c, .int .i64 vk, .int .u64 vb, .int .i64 pos, .int .i64 a] 27)) := (Below.refl _ _).alloc (Nat.le_refl _) _
  have n0 : (w.alloc (.cells #[.int .i64 40, .int .i64 kind, .slice A args.length c, .int .i64 vk, .int .u64 vb, .int .i64 pos, .int .i64 a] 27)).cell? ⟨w.heap.size, 0, none⟩ = some (.int .i64 40) := kn.cell 0
  have n2 : (w.alloc (.cells #[.int .i64 40, .int .i64 kind, .slice A args.length c, .int .i64 vk, .int .u64 vb, .int .i64 pos, .int .i64 a] 27)).cell? ⟨w.heap.size, 2, none⟩ = some (.slice A args.length c) := kn.cell 2
  have n3 : (w.alloc (.cells #[.int .i64 40, .int .i64 kind, .slice A args.length c, .int .i64 vk, .int .u64 vb, .int .i64 pos, .int .i64 a] 27)).cell? ⟨w.heap.size, 3, none⟩ = some (.int .i64 vk) := kn.cell 3
  have n4 : (w.alloc (.cells #[.int .i64 40, .int .i64 kind, .slice A args.length c, .int .i64 vk, .int .u64 vb, .int .i64 pos, .int .i64 a] 27)).cell? ⟨w.heap.size, 4, none⟩ = some (.int .u64 vb) := kn.cell 4
  clear kn h0
  go_enter Try.func10, Try.ntmps10
  go_upto_region 2 with fail
  refine wp_region_b (by kernel_rfl) (fun qk => (foCn A c args vk vb w).getD qk .any) (by kernel_rfl) ?_ ?_
  · refine BOk.cons rfl [] [1] rfl rfl (by kernel_rfl) (by kernel_rfl) (fun qK qa wr hB qO qF hK => ?_) ?_
    · have e1 : qa.tmps[1]? = some (.pointer (some ⟨w.heap.size, 0, none⟩)) := qO.1.trans rfl
      clear qO qF
      go_simp
      exact hK _ _ (Below.refl _ _) rfl
    refine BOk.cons rfl [0] [] rfl rfl (by kernel_rfl) (by kernel_rfl) (fun qK qa wr hB qO qF hK => ?_) ?_
    · have e7 : qa.tmps[7]? = some (.pointer (some ⟨w.heap.size, 2, none⟩)) := fis qF.1 rfl rfl
      clear qO qF
      have hn2 := (bcell hB _ _ (World.block_lt_of_cell? _ _ n2)).trans n2
      go_simp
      exact hK _ _ (Below.refl _ _) rfl
    refine BOk.cons rfl [1] [] rfl rfl (by kernel_rfl) (by kernel_rfl) (fun qK qa wr hB qO qF hK => ?_) ?_
    · have e8 : qa.tmps[8]? = some (.slice A args.length c) := fis qF.1 rfl rfl
      clear qO qF
      go_simp
      exact hK _ _ (Below.refl _ _) rfl
    refine BOk.cons rfl [2] [] rfl rfl (by kernel_rfl) (by kernel_rfl) (fun qK qa wr hB qO qF hK => ?_) ?_
    · have e9 : qa.tmps[9]? = some (.int .i64 (args.length : Nat)) := fis qF.1 rfl rfl
      clear qO qF
      go_simp
      refine hK _ _ (Below.refl _ _) ?_
      show (_ : Value) = _
      first | rfl | (simp; done) | (simp; omega)
    refine BOk.cons rfl [3] [] rfl rfl (by kernel_rfl) (by kernel_rfl) (fun qK qa wr hB qO qF hK => ?_) ?_
    · have e10 : qa.tmps[10]? = some (.bool false) := fis qF.1 rfl rfl
      clear qO qF
      go_simp
      exact hK _ _ (Below.refl _ _) (by first | rfl | (show (_ : Value) = _; simp_all; done))
    refine BOk.no rfl rfl 4 true rfl rfl rfl (by kernel_rfl) (fun _ => rfl) ?_
    refine BOk.no rfl rfl 4 true rfl rfl rfl (by kernel_rfl) (fun _ => rfl) ?_
    refine BOk.no rfl rfl 4 true rfl rfl rfl (by kernel_rfl) (fun _ => rfl) ?_
    refine BOk.no rfl rfl 4 true rfl rfl rfl (by kernel_rfl) (fun _ => rfl) ?_
    refine BOk.no rfl rfl 4 true rfl rfl rfl (by kernel_rfl) (fun _ => rfl) ?_
    refine BOk.no rfl rfl 4 true rfl rfl rfl (by kernel_rfl) (fun _ => rfl) ?_
    refine BOk.cons rfl [4] [] rfl rfl (by kernel_rfl) (by kernel_rfl) (fun qK qa wr hB qO qF hK => ?_) ?_
    · have e11 : qa.tmps[11]? = some (.bool false) := fis qF.1 rfl rfl
      clear qO qF
      go_simp
      refine hK _ _ (Below.refl _ _) ?_
      show (_ : Value) = _
      first | rfl | (simp; done) | (simp; omega)
    refine BOk.cons rfl [11] [] rfl rfl (by kernel_rfl) (by kernel_rfl) (fun qK qa wr hB qO qF hK => ?_) ?_
    · have e18 : qa.tmps[18]? = some (.bool false) := fis qF.1 rfl rfl
      clear qO qF
      go_simp
      exact hK _ _ (Below.refl _ _) (by first | rfl | (show (_ : Value) = _; simp_all; done))
    exact BOk.nil
  intro vals wr hl hB hR
  match vals, hl with
  | [u7, u8, u9, u10, u11, u12, u13, u14, u15, u16, u17, u18, u2], _ =>
  have r12 : u2 = .bool false := hR 12 _ rfl
  subst r12
  clear hR
  simp only [List.cons_append, List.nil_append, putAll, Act.put, List.setIfInBounds_toArray, List.set_cons_zero, List.set_cons_succ]
  replace hbe := hbe.trans (hB.mono hbe.size)
  clear hB n0 n2 n3 n4
  go_wp2_with fail
  go_ret
  exact ⟨rfl, hbe⟩

set_option maxRecDepth 100000 in
set_option maxHeartbeats 4000000 in
theorem closed_op (d : Nat) (ih : ∀ (x : NodeV) (w : World), okN d x w w.heap.size → Calls Try.prog 10 #[x.val] w fun e w' => e = .returned (.bool (closedN d x)) ∧ Below w.heap.size w w')
    (op kind : Int) (h40 : op ≠ 40) (A : Option Addr) (c : Nat) (args : List NodeV) (vk : Int) (vb : Nat) (pos a : Int) (w : World) (h : okN (d + 1) (.mk op kind A c args vk vb pos a) w w.heap.size) :
    Calls Try.prog 10 #[.agg #[.int .i64 op, .int .i64 kind, .slice A args.length c, .int .i64 vk, .int .u64 vb, .int .i64 pos, .int .i64 a]] w fun e w' => e = .returned (.bool (closedN (d + 1) (.mk op kind A c args vk vb pos a))) ∧ Below w.heap.size w w' := by
  have HIH := Lib.hid ih
  have HRD := Lib.hid h.1
  have hl := h.2.1
  have HARG := Lib.hid h.2.2.2
  generalize hR : closedN (d + 1) (.mk op kind A c args vk vb pos a) = R
  have hR2 : R = (args.all (closedN d) && ((decide (1 ≤ op) && decide (op ≤ 17)) && decide (0 < args.length))) := by rw [← hR]; exact if_neg h40
  have kn := Bk.new w 27 #[.int .i64 op, .int .i64 kind, .slice A args.length c, .int .i64 vk, .int .u64 vb, .int .i64 pos, .int .i64 a]
  have hbe0 : Below w.heap.size w (w.alloc (.cells #[.int .i64 op, .int .i64 kind, .slice A args.length c, .int .i64 vk, .int .u64 vb, .int .i64 pos, .int .i64 a] 27)) := (Below.refl _ _).alloc (Nat.le_refl _) _
  have g40 : (op == 40) = false := by rw [beq_eq_false_iff_ne]; exact h40
  have HR := Lib.hid hR2
  have n0 : (w.alloc (.cells #[.int .i64 op, .int .i64 kind, .slice A args.length c, .int .i64 vk, .int .u64 vb, .int .i64 pos, .int .i64 a] 27)).cell? ⟨w.heap.size, 0, none⟩ = some (.int .i64 op) := kn.cell 0
  have n2 : (w.alloc (.cells #[.int .i64 op, .int .i64 kind, .slice A args.length c, .int .i64 vk, .int .u64 vb, .int .i64 pos, .int .i64 a] 27)).cell? ⟨w.heap.size, 2, none⟩ = some (.slice A args.length c) := kn.cell 2
  have kn0 := kn
  clear h ih hR kn hR2 h40
  go_enter Try.func10, Try.ntmps10
  go_wp2_with fail
  clear n0 n2
  go_loopw [22] (fun i wr => ∃ k : Nat, k ≤ args.length ∧ i = .int .i64 k ∧ Below w.heap.size w wr ∧ Bk wr w.heap.size 27 #[.int .i64 op, .int .i64 kind, .slice A args.length c, .int .i64 vk, .int .u64 vb, .int .i64 pos, .int .i64 a] ∧ Hid ((args.take k).all (closedN d) = true)) (fun i _ => args.length - (intOf i).toNat)
  case atStart => exact ⟨0, Nat.zero_le _, rfl, hbe0, kn0, Lib.hid (by simp)⟩
  case round =>
    rename World => wl
    clear hbe0 kn0
    obtain ⟨k, hk, rfl, hbel, kn, hall⟩ := hrel
    by_cases hlt : k < args.length
    · obtain ⟨b, o, rfl, hb, hc⟩ := (HRD.out.below hbel).elem (f := NodeV.cells) (n := 7) NodeV.len (by omega) hlt
      have hx := HARG.out args[k] (by simp)
      have hnext : (args.take (k + 1)).all (closedN d) = closedN d args[k] := by
        rw [List.take_succ_eq_append_getElem hlt, List.all_append, hall.out]; simp
      have hno : closedN d args[k] = false → R = false := fun h => by
        rw [HR.out, show args.all (closedN d) = false from by rw [List.all_eq_false]; exact ⟨args[k], by simp, by rw [h]; simp⟩]; rfl
      generalize args[k] = x at *
      have HBX := Lib.hid (HIH.out x)
      generalize hpx : closedN d x = p at *
      obtain ⟨op2, kind2, A2, c2, args2, vk2, vb2, pos2, a2⟩ := x
      have hc' : ∀ (j : Nat) (u : Value), [.int .i64 op2, .int .i64 kind2, .slice A2 args2.length c2, .int .i64 vk2, .int .u64 vb2, .int .i64 pos2, .int .i64 a2][j]? = some u → wl.cell? ⟨b, o + k * 7 + j, none⟩ = some u := hc
      have HC := Lib.hid hc'
      have hrec := HBX.out wl (hx.old hbel)
      have HREC := Lib.hid hrec
      have HN := Lib.hid hnext
      have n2 : wl.cell? ⟨w.heap.size, 2, none⟩ = some (.slice (some ⟨b, o, none⟩) args.length c) := kn.cell 2
      clear hrec hx hc hc' HIH HBX hnext hall hpx
      cases p
      · as_aux_lemma =>
        obtain rfl := hno rfl
        go_wp2_with (first | (refine wpList_load7 rfl _ rfl rfl HC.out ?_))
        refine HREC.out.mono ?_
        rintro e w1 ⟨rfl, hb1⟩
        have hbe1 := hbel.trans (hb1.mono hbel.size)
        clear HREC HC n2 hb1 HR
        go_wp2_with fail
        go_ret
        exact ⟨rfl, hbe1⟩
      · as_aux_lemma =>
        go_wp2_with (first | (refine wpList_load7 rfl _ rfl rfl HC.out ?_))
        refine HREC.out.mono ?_
        rintro e w1 ⟨rfl, hb1⟩
        have hbe1 := hbel.trans (hb1.mono hbel.size)
        replace kn := kn.old hb1
        clear HREC HC n2 hb1
        go_wp2_with fail
        go_roundw
        case rel => exact ⟨k + 1, by omega, by go_num, hbe1, kn, HN⟩
        case measure => simp [intOf]; omega
    · obtain rfl : k = args.length := by omega
      have hRf : R = ((decide (1 ≤ op) && decide (op ≤ 17)) && decide (0 < args.length)) := by rw [HR.out, ← List.take_length (l := args), hall.out, List.take_length]; rfl
      have HRF := Lib.hid hRf
      have n0 : wl.cell? ⟨w.heap.size, 0, none⟩ = some (.int .i64 op) := kn.cell 0
      have n2 : wl.cell? ⟨w.heap.size, 2, none⟩ = some (.slice A args.length c) := kn.cell 2
      clear HR HIH hall hRf kn
      by_cases h1 : op < 1
      · as_aux_lemma =>
        have hr : R = false := by rw [HRF.out, decide_eq_false (show ¬ 1 ≤ op by omega)]; rfl
        subst hr
        clear HRF
        go_wp2_with fail
        go_ret
        exact ⟨rfl, hbel⟩
      by_cases h17 : 17 < op
      · as_aux_lemma =>
        have hr : R = false := by rw [HRF.out, decide_eq_false (show ¬ op ≤ 17 by omega), Bool.and_false]; rfl
        subst hr
        clear HRF
        go_wp2_with fail
        go_ret
        exact ⟨rfl, hbel⟩
      by_cases hz : args.length = 0
      · as_aux_lemma =>
        have hr : R = false := by rw [HRF.out, decide_eq_false (show ¬ 0 < args.length by omega), Bool.and_false]
        subst hr
        rw [hz] at n2
        generalize args.length = n at *
        subst hz
        clear HRF
        go_wp2_with fail
        go_ret
        exact ⟨rfl, hbel⟩
      · as_aux_lemma =>
        have hr : R = true := by rw [HRF.out, decide_eq_true (show 1 ≤ op by omega), decide_eq_true (show op ≤ 17 by omega), decide_eq_true (show 0 < args.length by omega)]; rfl
        subst hr
        clear HRF
        go_wp2_with fail
        go_ret
        refine ⟨?_, hbel⟩
        show Ending.returned (.bool (decide (0 < args.length))) = _
        rw [decide_eq_true (by omega)]
theorem closed_any : ∀ (d : Nat) (x : NodeV) (w : World), okN d x w w.heap.size → Calls Try.prog 10 #[x.val] w fun e w' => e = .returned (.bool (closedN d x)) ∧ Below w.heap.size w w'
  | 0, _, _, h => h.elim
  | d + 1, .mk op kind A c args vk vb pos a, w, h => by
    by_cases h40 : op = 40
    · subst h40
      have hcl : closedN (d + 1) (.mk 40 kind A c args vk vb pos a) = (decide (args.length = 0) && (decide ((clean ⟨vk, vb⟩).k = vk) && decide ((clean ⟨vk, vb⟩).b = vb))) := if_pos rfl
      rw [hcl]
      by_cases h0 : args.length = 0
      · rw [decide_eq_true h0, Bool.true_and]
        obtain rfl := List.eq_nil_of_length_eq_zero h0
        exact closed_zero kind A c vk vb pos a _ _ rfl rfl h.2.2.1 w
      · rw [decide_eq_false h0, Bool.false_and]
        exact closed_many kind A c args h0 vk vb pos a w
    · exact closed_op d (closed_any d) op kind h40 A c args vk vb pos a w h

set_option maxRecDepth 100000 in
theorem rnode_const (kind : Int) (A : Option Addr) (args : List NodeV) (c : Nat) (vk : Int) (vb : Nat) (pos a : Int) (R : V) (w : World) (hR : clean ⟨vk, vb⟩ = R) (hv : vb < 18446744073709551616) :
    Calls Try.prog 11 #[.agg #[.int .i64 40, .int .i64 kind, .slice A args.length c, .int .i64 vk, .int .u64 vb, .int .i64 pos, .int .i64 a], .slice none 0 0, .slice none 0 0, .int .i64 (-1)] w fun e w' => e = .returned R.v ∧ Below w.heap.size w w' := by
  have HR := Lib.hid hR
  clear hR
  go_enter Try.func11, Try.ntmps11
  go_wp2_with fail
  refine (rclean_any ⟨vk, vb⟩ hv _).mono ?_
  rintro e w1 ⟨rfl, hb1⟩
  rw [HR.out]
  simp only [V.v]
  have kr := (Bk.newAt (w := w.alloc (.cells #[.int .i64 40, .int .i64 kind, .slice A args.length c, .int .i64 vk, .int .u64 vb, .int .i64 pos, .int .i64 a] 27)) (g := w.heap.size + 1) (by simp) 33 #[.int .i64 0, .int .u64 0]).old hb1
  have hbe : Below w.heap.size w w1 := (bel2 _ _ _).trans (hb1.mono (by simp; omega))
  clear hb1
  obtain ⟨c0, c1, f0, f1⟩ := vcells kr
  obtain ⟨d0, d1, _, _⟩ := vcells (vput kr (.int .i64 R.k) (.int .u64 R.b))
  clear kr
  go_wp2_with fail
  exact bodyPost_ret (v := .agg #[.int .i64 R.k, .int .u64 R.b]) (by simp [results, Try.results11, go_sem, d0, d1]) rfl ⟨rfl, (hbe.setCell (by first | (simp; done) | (simp; omega)) _).setCell (by first | (simp; done) | (simp; omega)) _⟩

set_option maxRecDepth 100000 in
set_option maxHeartbeats 2000000 in
theorem rnode_op (d : Nat) (ih : ∀ (n : NodeV) (w : World), okN d n w w.heap.size → closedN d n = true → Calls Try.prog 11 #[n.val, .slice none 0 0, .slice none 0 0, .int .i64 (-1)] w fun e w' => e = .returned (valC d n).v ∧ Below w.heap.size w w')
    (op : Int) (h40 : op ≠ 40) (h41 : op ≠ 41) (hop : ¬ (op = 42 ∨ (25 ≤ op ∧ op ≤ 31))) (kind : Int) (A : Option Addr) (args : List NodeV) (c : Nat) (vk : Int) (vb : Nat) (pos a : Int) (R : V) (w : World) (hR : applyV op (args.map (valC d)) = R)
    (hr : Rd w w.heap.size A (args.flatMap NodeV.cells)) (hlen : args.length ≤ 1048576) (hall : ∀ x ∈ args, okN d x w w.heap.size) (hcl : ∀ x ∈ args, closedN d x = true) :
    Calls Try.prog 11 #[.agg #[.int .i64 op, .int .i64 kind, .slice A args.length c, .int .i64 vk, .int .u64 vb, .int .i64 pos, .int .i64 a], .slice none 0 0, .slice none 0 0, .int .i64 (-1)] w fun e w' => e = .returned R.v ∧ Below w.heap.size w w' := by
  have HR := Lib.hid hR
  have HK := Lib.hid hcl
  have HA := Lib.hid hall
  have HF : Hid (∀ y ∈ args.map (valC d), y.fits) := Lib.hid (by intro y hy; obtain ⟨q, hq, rfl⟩ := List.mem_map.1 hy; exact valC_fits (hall q hq))
  have HI := Lib.hid ih
  have HRD := Lib.hid hr
  obtain ⟨iV, hV, hV0, hV1, hV2⟩ := info_parts infoW
  have g40 : (op == 40) = false := by rw [beq_eq_false_iff_ne]; exact h40
  have g41 : (op == 41) = false := by rw [beq_eq_false_iff_ne]; exact h41
  have g42 : (op == 42) = false := by rw [beq_eq_false_iff_ne]; exact fun h => hop (.inl h)
  have g26 : op < 25 ∨ ¬ op ≤ 31 := by omega
  clear hR hcl hall ih hr h40 h41 hop
  by_cases h25 : 25 ≤ op
  · have h31 : ¬ op ≤ 31 := by omega
    clear g26
    go_enter Try.func11, Try.ntmps11
    go_wp2_with fail
    go_loopw [12, 77] (fun vs i wr => ∃ (k : Nat) (Av : Option Addr) (cv : Nat), k ≤ args.length ∧ i = .int .i64 k ∧ vs = .slice Av k cv ∧ Below w.heap.size w wr ∧ Bk wr w.heap.size 27 #[.int .i64 op, .int .i64 kind, .slice A args.length c, .int .i64 vk, .int .u64 vb, .int .i64 pos, .int .i64 a] ∧ Bk wr (w.heap.size + 1) 33 #[.int .i64 0, .int .u64 0] ∧
        wr.ownsRow (w.heap.size + 2) 33 2 vs k (((args.take k).map (valC d)).flatMap V.cells)) (fun _ i _ => args.length - (intOf i).toNat)
    case atStart =>
      refine ⟨0, none, 0, Nat.zero_le _, rfl, rfl, bel2 _ _ _, (Bk.new _ _ _).alloc _, ?_, World.ownsRow_nil _ _ _ _⟩
      exact Bk.newAt (by simp) _ _
    case round =>
      obtain ⟨k, Av, cv, hk, rfl, rfl, hbel, kn, kr, hown⟩ := hrel
      by_cases hlt : k < args.length
      · as_aux_lemma =>
          obtain ⟨b, o, rfl, hb, hc⟩ := (HRD.out.below hbel).elem (f := NodeV.cells) (n := 7) NodeV.len (by omega) hlt
          have hx := HA.out args[k] (by simp)
          have hcx := HK.out args[k] (by simp)
          have hfs := flat_snoc V.cells (args.map (valC d)) k (by simpa using hlt)
          rw [List.getElem_map] at hfs
          generalize args[k] = x at *
          obtain ⟨op2, kind2, A2, c2, args2, vk2, vb2, pos2, a2⟩ := x
          have hc0 : wr.cell? ⟨b, o + k * 7, none⟩ = some (.int .i64 op2) := hc 0 _ rfl
          have hc1 : wr.cell? ⟨b, o + k * 7 + 1, none⟩ = some (.int .i64 kind2) := hc 1 _ rfl
          have hc2 : wr.cell? ⟨b, o + k * 7 + 2, none⟩ = some (.slice A2 args2.length c2) := hc 2 _ rfl
          have hc3 : wr.cell? ⟨b, o + k * 7 + 3, none⟩ = some (.int .i64 vk2) := hc 3 _ rfl
          have hc4 : wr.cell? ⟨b, o + k * 7 + 4, none⟩ = some (.int .u64 vb2) := hc 4 _ rfl
          have hc5 : wr.cell? ⟨b, o + k * 7 + 5, none⟩ = some (.int .i64 pos2) := hc 5 _ rfl
          have hc6 : wr.cell? ⟨b, o + k * 7 + 6, none⟩ = some (.int .i64 a2) := hc 6 _ rfl
          have n2 : wr.cell? ⟨w.heap.size, 2, none⟩ = some (.slice (some ⟨b, o, none⟩) args.length c) := kn.cell 2
          have hrec := HI.out _ _ (hx.old hbel) hcx
          generalize valC d (.mk op2 kind2 A2 c2 args2 vk2 vb2 pos2 a2) = X at *
          have HREC := Lib.hid hrec
          have HFS := Lib.hid hfs
          clear hc hrec hfs hx hcx
          go_wp2_with fail
          refine HREC.out.mono ?_
          rintro e w1 ⟨rfl, hb1⟩
          clear HREC n2 hc0 hc1 hc2 hc3 hc4 hc5 hc6
          have kn := kn.old hb1
          have kr := kr.old hb1
          have hown := own_old hown hb1
          have hbel : Below w.heap.size w w1 := hbel.trans (hb1.mono hbel.size)
          have hz := kr.lt
          clear hb1
          simp only [V.v]
          go_wp2_with (at_builtin; refine wpList_append_rd rfl _ _ 44 rfl (w.heap.size + 2) 33 iV _ 2 16 Try.underlying44 hV hV0 hV1 hV2 rfl (by decide) (.slice Av k cv) k _ rfl (hown.alloc _) (w1.heap.size + 1) (some ⟨w1.heap.size, 0, none⟩) 1 1 X.cells rfl (Rd.lit rfl _ _) rfl ?c2 ?c3 ?c4 ?c5 ?_)
          case c2 => intro u hu; simp [V.cells] at hu; rcases hu with rfl | rfl <;> rfl
          case c3 => unfold maxLen; omega
          case c4 => omega
          case c5 => simp; omega
          intro A3 c3 w2 hown2 hg _
          have kn2 := (kn.alloc _).grown hg (own_ne_bk hown kn (by decide))
          have kr2 := (kr.alloc _).grown hg (fun e => by have := (hown.lt _ e.symm).1; omega)
          have hbel2 : Below w.heap.size w w2 := below_own (hbel.alloc hbel.size _) (hown.alloc _) (by omega) hg (by simp; omega)
          rw [HFS.out] at hown2
          clear hg hown kn kr hbel
          go_wp2
          go_roundw
          case rel => exact ⟨k + 1, A3, c3, by omega, by go_num, rfl, hbel2, kn2, kr2, by rw [List.map_take]; exact hown2⟩
          case measure => simp [intOf]; omega
      · as_aux_lemma =>
          obtain rfl : k = args.length := by omega
          rw [List.take_length] at hown
          have happ := rapply_any op (args.map (valC d)) Av cv wr (own_rd hown) HF.out (by rw [List.length_map]; omega)
          rw [HR.out, List.length_map] at happ
          have HAP := Lib.hid happ
          have n0 : wr.cell? ⟨w.heap.size, 0, none⟩ = some (.int .i64 op) := kn.cell 0
          clear happ hown HF HA HI HRD HK HR
          go_wp2_with fail
          refine HAP.out.mono ?_
          rintro e w1 ⟨rfl, hb1⟩
          simp only [V.v]
          have kr := kr.old hb1
          have hbe : Below w.heap.size w w1 := hbel.trans (hb1.mono hbel.size)
          clear hb1
          obtain ⟨c0, c1, f0, f1⟩ := vcells kr
          obtain ⟨d0, d1, _, _⟩ := vcells (vput kr (.int .i64 R.k) (.int .u64 R.b))
          clear kr
          go_wp2_with fail
          exact bodyPost_ret (v := .agg #[.int .i64 R.k, .int .u64 R.b]) (by simp [results, Try.results11, go_sem, d0, d1]) rfl ⟨rfl, (hbe.setCell (by first | (simp; done) | (simp; omega)) _).setCell (by first | (simp; done) | (simp; omega)) _⟩
  · have h25 : op < 25 := by omega
    clear g26
    go_enter Try.func11, Try.ntmps11
    go_wp2_with fail
    go_loopw [12, 77] (fun vs i wr => ∃ (k : Nat) (Av : Option Addr) (cv : Nat), k ≤ args.length ∧ i = .int .i64 k ∧ vs = .slice Av k cv ∧ Below w.heap.size w wr ∧ Bk wr w.heap.size 27 #[.int .i64 op, .int .i64 kind, .slice A args.length c, .int .i64 vk, .int .u64 vb, .int .i64 pos, .int .i64 a] ∧ Bk wr (w.heap.size + 1) 33 #[.int .i64 0, .int .u64 0] ∧
        wr.ownsRow (w.heap.size + 2) 33 2 vs k (((args.take k).map (valC d)).flatMap V.cells)) (fun _ i _ => args.length - (intOf i).toNat)
    case atStart =>
      refine ⟨0, none, 0, Nat.zero_le _, rfl, rfl, bel2 _ _ _, (Bk.new _ _ _).alloc _, ?_, World.ownsRow_nil _ _ _ _⟩
      exact Bk.newAt (by simp) _ _
    case round =>
      obtain ⟨k, Av, cv, hk, rfl, rfl, hbel, kn, kr, hown⟩ := hrel
      by_cases hlt : k < args.length
      · as_aux_lemma =>
          obtain ⟨b, o, rfl, hb, hc⟩ := (HRD.out.below hbel).elem (f := NodeV.cells) (n := 7) NodeV.len (by omega) hlt
          have hx := HA.out args[k] (by simp)
          have hcx := HK.out args[k] (by simp)
          have hfs := flat_snoc V.cells (args.map (valC d)) k (by simpa using hlt)
          rw [List.getElem_map] at hfs
          generalize args[k] = x at *
          obtain ⟨op2, kind2, A2, c2, args2, vk2, vb2, pos2, a2⟩ := x
          have hc0 : wr.cell? ⟨b, o + k * 7, none⟩ = some (.int .i64 op2) := hc 0 _ rfl
          have hc1 : wr.cell? ⟨b, o + k * 7 + 1, none⟩ = some (.int .i64 kind2) := hc 1 _ rfl
          have hc2 : wr.cell? ⟨b, o + k * 7 + 2, none⟩ = some (.slice A2 args2.length c2) := hc 2 _ rfl
          have hc3 : wr.cell? ⟨b, o + k * 7 + 3, none⟩ = some (.int .i64 vk2) := hc 3 _ rfl
          have hc4 : wr.cell? ⟨b, o + k * 7 + 4, none⟩ = some (.int .u64 vb2) := hc 4 _ rfl
          have hc5 : wr.cell? ⟨b, o + k * 7 + 5, none⟩ = some (.int .i64 pos2) := hc 5 _ rfl
          have hc6 : wr.cell? ⟨b, o + k * 7 + 6, none⟩ = some (.int .i64 a2) := hc 6 _ rfl
          have n2 : wr.cell? ⟨w.heap.size, 2, none⟩ = some (.slice (some ⟨b, o, none⟩) args.length c) := kn.cell 2
          have hrec := HI.out _ _ (hx.old hbel) hcx
          generalize valC d (.mk op2 kind2 A2 c2 args2 vk2 vb2 pos2 a2) = X at *
          have HREC := Lib.hid hrec
          have HFS := Lib.hid hfs
          clear hc hrec hfs hx hcx
          go_wp2_with fail
          refine HREC.out.mono ?_
          rintro e w1 ⟨rfl, hb1⟩
          clear HREC n2 hc0 hc1 hc2 hc3 hc4 hc5 hc6
          have kn := kn.old hb1
          have kr := kr.old hb1
          have hown := own_old hown hb1
          have hbel : Below w.heap.size w w1 := hbel.trans (hb1.mono hbel.size)
          have hz := kr.lt
          clear hb1
          simp only [V.v]
          go_wp2_with (at_builtin; refine wpList_append_rd rfl _ _ 44 rfl (w.heap.size + 2) 33 iV _ 2 16 Try.underlying44 hV hV0 hV1 hV2 rfl (by decide) (.slice Av k cv) k _ rfl (hown.alloc _) (w1.heap.size + 1) (some ⟨w1.heap.size, 0, none⟩) 1 1 X.cells rfl (Rd.lit rfl _ _) rfl ?c2 ?c3 ?c4 ?c5 ?_)
          case c2 => intro u hu; simp [V.cells] at hu; rcases hu with rfl | rfl <;> rfl
          case c3 => unfold maxLen; omega
          case c4 => omega
          case c5 => simp; omega
          intro A3 c3 w2 hown2 hg _
          have kn2 := (kn.alloc _).grown hg (own_ne_bk hown kn (by decide))
          have kr2 := (kr.alloc _).grown hg (fun e => by have := (hown.lt _ e.symm).1; omega)
          have hbel2 : Below w.heap.size w w2 := below_own (hbel.alloc hbel.size _) (hown.alloc _) (by omega) hg (by simp; omega)
          rw [HFS.out] at hown2
          clear hg hown kn kr hbel
          go_wp2
          go_roundw
          case rel => exact ⟨k + 1, A3, c3, by omega, by go_num, rfl, hbel2, kn2, kr2, by rw [List.map_take]; exact hown2⟩
          case measure => simp [intOf]; omega
      · as_aux_lemma =>
          obtain rfl : k = args.length := by omega
          rw [List.take_length] at hown
          have happ := rapply_any op (args.map (valC d)) Av cv wr (own_rd hown) HF.out (by rw [List.length_map]; omega)
          rw [HR.out, List.length_map] at happ
          have HAP := Lib.hid happ
          have n0 : wr.cell? ⟨w.heap.size, 0, none⟩ = some (.int .i64 op) := kn.cell 0
          clear happ hown HF HA HI HRD HK HR
          go_wp2_with fail
          refine HAP.out.mono ?_
          rintro e w1 ⟨rfl, hb1⟩
          simp only [V.v]
          have kr := kr.old hb1
          have hbe : Below w.heap.size w w1 := hbel.trans (hb1.mono hbel.size)
          clear hb1
          obtain ⟨c0, c1, f0, f1⟩ := vcells kr
          obtain ⟨d0, d1, _, _⟩ := vcells (vput kr (.int .i64 R.k) (.int .u64 R.b))
          clear kr
          go_wp2_with fail
          exact bodyPost_ret (v := .agg #[.int .i64 R.k, .int .u64 R.b]) (by simp [results, Try.results11, go_sem, d0, d1]) rfl ⟨rfl, (hbe.setCell (by first | (simp; done) | (simp; omega)) _).setCell (by first | (simp; done) | (simp; omega)) _⟩


theorem rnode0_any : ∀ (d : Nat) (n : NodeV) (w : World), okN d n w w.heap.size → closedN d n = true → Calls Try.prog 11 #[n.val, .slice none 0 0, .slice none 0 0, .int .i64 (-1)] w fun e w' => e = .returned (valC d n).v ∧ Below w.heap.size w w'
  | 0, _, _, h, _ => h.elim
  | d + 1, .mk op kind A c args vk vb pos a, w, h, hc => by
    have hc : (if op = 40 then decide (args.length = 0) && (decide ((clean ⟨vk, vb⟩).k = vk) && decide ((clean ⟨vk, vb⟩).b = vb)) else args.all (closedN d) && ((decide (1 ≤ op) && decide (op ≤ 17)) && decide (0 < args.length))) = true := hc
    by_cases h40 : op = 40
    · subst h40
      exact rnode_const kind A args c vk vb pos a _ w (show clean ⟨vk, vb⟩ = valC (d + 1) (.mk 40 kind A c args vk vb pos a) from (if_pos rfl).symm) h.2.2.1
    · rw [if_neg h40] at hc
      simp only [Bool.and_eq_true, decide_eq_true_eq, List.all_eq_true] at hc
      obtain ⟨hall, ⟨h1, h17⟩, hlen⟩ := hc
      exact rnode_op d (rnode0_any d) op h40 (by omega) (by omega) kind A args c vk vb pos a _ w (show applyV op (args.map (valC d)) = valC (d + 1) (.mk op kind A c args vk vb pos a) from (if_neg h40).symm) h.1 h.2.1 h.2.2.2 hall
end Go.Proofs.Ytkfpmoilfillmaa
