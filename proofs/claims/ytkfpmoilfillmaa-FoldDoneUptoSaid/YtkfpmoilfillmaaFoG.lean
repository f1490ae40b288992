/- Layer 12: the document's fold of a node. No conditions. -/
import Derived.Test.YtkfpmoilfillmaaFoF
import Derived.Test.YtkfpmoilfillmaaValZ
namespace Go.Proofs.Ytkfpmoilfillmaa
open Go.RowKit
set_option linter.unusedVariables false
set_option linter.unusedSimpArgs false

theorem eql_W (a b c d : Int) (w : World) : (binOp .eql 33 (.agg #[.int .i64 a, .int .u64 b]) (.agg #[.int .i64 c, .int .u64 d])).run Try.prog w = .ok (.bool (a == c && b == d)) w := by
  have h1 : Try.prog.stoodInHeld 33 = false := by kernel_rfl
  by_cases h : a = c <;> by_cases h2 : b = d <;> simp [go_sem, h, h2, h1]
def foIsY (kind vk pos a : Int) (vb : Nat) (b e : Bool) (w : World) : List Spec := [.is (.pointer (some ⟨w.heap.size, 0, none⟩)),
  .is (.int .i64 40),
  .is (.bool true),
  .is (.bool true),
  .is (.pointer (some ⟨w.heap.size, 3, none⟩)),
  .is (.agg #[.int .i64 vk, .int .u64 vb]),
  .is (.bool b),
  .is (.agg #[.int .i64 2, .int .u64 (b.toNat : Nat)]),
  .is (.bool e),
  .is (.bool e),
  .is (.bool e)]

set_option maxRecDepth 100000 in
set_option maxHeartbeats 1000000 in
theorem is_yes (kind : Int) (A : Option Addr) (n c : Nat) (vk : Int) (vb : Nat) (pos a : Int) (b e : Bool) (w : World) (he : (decide (vk = 2) && decide (vb = b.toNat)) = e) :
    Calls Try.prog 19 #[.agg #[.int .i64 40, .int .i64 kind, .slice A n c, .int .i64 vk, .int .u64 vb, .int .i64 pos, .int .i64 a], .bool b] w fun x w' => x = .returned (.bool e) ∧ Below w.heap.size w w' := by
  have hT : ∀ w', Calls Try.prog 20 #[.bool b] w' fun x w2 => x = .returned (.agg #[.int .i64 2, .int .u64 (b.toNat : Nat)]) ∧ Below w'.heap.size w' w2 := fun w' => by
    have := rtruth_any b w'
    cases b <;> exact this
  have HT := Lib.hid hT
  have heq : ∀ w : World, (binOp .eql 33 (.agg #[.int .i64 vk, .int .u64 vb]) (.agg #[.int .i64 2, .int .u64 (b.toNat : Nat)])).run Try.prog w = .ok (.bool e) w := by
    intro w
    rw [eql_W, ← he]
    congr 2
    by_cases h1 : vk = 2 <;> by_cases h2 : vb = b.toNat <;> simp [h1, h2] <;> omega
  clear hT he
  have kn := Bk.new w 27 #[.int .i64 40, .int .i64 kind, .slice A n c, .int .i64 vk, .int .u64 vb, .int .i64 pos, .int .i64 a]
  have n0 : (w.alloc (.cells #[.int .i64 40, .int .i64 kind, .slice A n c, .int .i64 vk, .int .u64 vb, .int .i64 pos, .int .i64 a] 27)).cell? ⟨w.heap.size, 0, none⟩ = some (.int .i64 40) := kn.cell 0
  have n3 : (w.alloc (.cells #[.int .i64 40, .int .i64 kind, .slice A n c, .int .i64 vk, .int .u64 vb, .int .i64 pos, .int .i64 a] 27)).cell? ⟨w.heap.size, 3, none⟩ = some (.int .i64 vk) := kn.cell 3
  have n4 : (w.alloc (.cells #[.int .i64 40, .int .i64 kind, .slice A n c, .int .i64 vk, .int .u64 vb, .int .i64 pos, .int .i64 a] 27)).cell? ⟨w.heap.size, 4, none⟩ = some (.int .u64 vb) := kn.cell 4
  have hbe : Below w.heap.size w (w.alloc (.cells #[.int .i64 40, .int .i64 kind, .slice A n c, .int .i64 vk, .int .u64 vb, .int .i64 pos, .int .i64 a] 27)) := (Below.refl _ _).alloc (Nat.le_refl _) _
  clear kn
  go_enter Try.func19, Try.ntmps19
  go_upto_region 1 with fail
  refine wp_region_b (by kernel_rfl) (fun qk => (foIsY kind vk pos a vb b e w).getD qk .any) (by kernel_rfl) ?_ ?_
  · refine BOk.cons rfl [] [2] rfl rfl (by kernel_rfl) (by kernel_rfl) (fun qK qa wr hB qO qF hK => ?_) ?_
    · have e2 : qa.tmps[2]? = some (.pointer (some ⟨w.heap.size, 0, none⟩)) := qO.1.trans rfl
      clear qO qF
      go_simp
      exact hK _ _ (Below.refl _ _) rfl
    refine BOk.cons rfl [0] [] rfl rfl (by kernel_rfl) (by kernel_rfl) (fun qK qa wr hB qO qF hK => ?_) ?_
    · have e5 : qa.tmps[5]? = some (.pointer (some ⟨w.heap.size, 0, none⟩)) := fis qF.1 rfl rfl
      clear qO qF
      have hn0 := (bcell hB _ _ (World.block_lt_of_cell? _ _ n0)).trans n0
      go_simp
      exact hK _ _ (Below.refl _ _) rfl
    refine BOk.cons rfl [1] [] rfl rfl (by kernel_rfl) (by kernel_rfl) (fun qK qa wr hB qO qF hK => ?_) ?_
    · have e6 : qa.tmps[6]? = some (.int .i64 40) := fis qF.1 rfl rfl
      clear qO qF
      go_simp
      refine hK _ _ (Below.refl _ _) ?_
      show (_ : Value) = _
      first | rfl | (simp; done) | (simp; omega)
    refine BOk.cons rfl [2] [] rfl rfl (by kernel_rfl) (by kernel_rfl) (fun qK qa wr hB qO qF hK => ?_) ?_
    · have e7 : qa.tmps[7]? = some (.bool true) := fis qF.1 rfl rfl
      clear qO qF
      go_simp
      exact hK _ _ (Below.refl _ _) (by first | rfl | (show (_ : Value) = _; simp_all; done))
    refine BOk.yes rfl [] [2] rfl 3 true rfl rfl rfl (by kernel_rfl) (by kernel_rfl) (by kernel_rfl) (fun qK qa wr hB qO qF hK => ?_) ?_
    · have e2 : qa.tmps[2]? = some (.pointer (some ⟨w.heap.size, 0, none⟩)) := qO.1.trans rfl
      clear qO qF
      go_simp
      exact hK _ _ (Below.refl _ _) rfl
    refine BOk.yes rfl [4] [] rfl 3 true rfl rfl rfl (by kernel_rfl) (by kernel_rfl) (by kernel_rfl) (fun qK qa wr hB qO qF hK => ?_) ?_
    · have e9 : qa.tmps[9]? = some (.pointer (some ⟨w.heap.size, 3, none⟩)) := fis qF.1 rfl rfl
      clear qO qF
      have hn3 := (bcell hB _ _ (World.block_lt_of_cell? _ _ n3)).trans n3
      have hn4 := (bcell hB _ _ (World.block_lt_of_cell? _ _ n4)).trans n4
      go_simp
      exact hK _ _ (Below.refl _ _) rfl
    refine BOk.yes rfl [] [1] rfl 3 true rfl rfl rfl (by kernel_rfl) (by kernel_rfl) (by kernel_rfl) (fun qK qa wr hB qO qF hK => ?_) ?_
    · have e1 : qa.tmps[1]? = some (.bool b) := qO.1.trans rfl
      clear qO qF
      go_simp
      exact hK _ _ (Below.refl _ _) (by first | rfl | (show (_ : Value) = _; simp_all; done))
    refine BOk.yes rfl [6] [] rfl 3 true rfl rfl rfl (by kernel_rfl) (by kernel_rfl) (by kernel_rfl) (fun qK qa wr hB qO qF hK => ?_) ?_
    · have e11 : qa.tmps[11]? = some (.bool b) := fis qF.1 rfl rfl
      clear qO qF
      go_simp
      go_at_call 20
      refine (HT.out _).mono ?_
      rintro e w2 ⟨rfl, hb2⟩
      exact hK _ _ hb2 rfl
    refine BOk.yes rfl [5, 7] [] rfl 3 true rfl rfl rfl (by kernel_rfl) (by kernel_rfl) (by kernel_rfl) (fun qK qa wr hB qO qF hK => ?_) ?_
    · have e10 : qa.tmps[10]? = some (.agg #[.int .i64 vk, .int .u64 vb]) := fis qF.1 rfl rfl
      have e12 : qa.tmps[12]? = some (.agg #[.int .i64 2, .int .u64 (b.toNat : Nat)]) := fis qF.2.1 rfl rfl
      clear qO qF
      go_simp
      refine hK _ _ (Below.refl _ _) ?_
      show (_ : Value) = _
      first | rfl | (simp; done) | (simp; omega)
    refine BOk.cons rfl [3, 8] [] rfl rfl (by kernel_rfl) (by kernel_rfl) (fun qK qa wr hB qO qF hK => ?_) ?_
    · have e8 : qa.tmps[8]? = some (.bool true) := fis qF.1 rfl rfl
      have e13 : qa.tmps[13]? = some (.bool e) := fis qF.2.1 rfl rfl
      clear qO qF
      go_simp
      refine hK _ _ (Below.refl _ _) ?_
      show (_ : Value) = _
      first | rfl | (simp; done) | (simp; omega)
    refine BOk.cons rfl [9] [] rfl rfl (by kernel_rfl) (by kernel_rfl) (fun qK qa wr hB qO qF hK => ?_) ?_
    · have e14 : qa.tmps[14]? = some (.bool e) := fis qF.1 rfl rfl
      clear qO qF
      go_simp
      exact hK _ _ (Below.refl _ _) (by first | rfl | (show (_ : Value) = _; simp_all; done))
    exact BOk.nil
  intro vals wr hl hB hR
  match vals, hl with
  | [u5, u6, u7, u8, u9, u10, u11, u12, u13, u14, u4], _ =>
  have r10 : u4 = .bool e := hR 10 _ rfl
  subst r10
  clear hR
  simp only [List.cons_append, List.nil_append, putAll, Act.put, List.setIfInBounds_toArray, List.set_cons_zero, List.set_cons_succ]
  replace hbe := hbe.trans (hB.mono (by simp))
  clear hB n0 n3 n4
  go_wp2_with fail
  go_ret
  exact ⟨rfl, hbe⟩
def foIsN (op kind vk pos a : Int) (vb : Nat) (b e : Bool) (w : World) : List Spec := [.is (.pointer (some ⟨w.heap.size, 0, none⟩)),
  .is (.int .i64 op),
  .is (.bool false),
  .is (.bool false),
  .is (undef),
  .is (undef),
  .is (undef),
  .is (undef),
  .is (undef),
  .is (.bool false),
  .is (.bool false)]

set_option maxRecDepth 100000 in
set_option maxHeartbeats 1000000 in
theorem is_no (op kind : Int) (A : Option Addr) (n c : Nat) (vk : Int) (vb : Nat) (pos a : Int) (b e : Bool) (w : World) (h40 : op ≠ 40) :
    Calls Try.prog 19 #[.agg #[.int .i64 op, .int .i64 kind, .slice A n c, .int .i64 vk, .int .u64 vb, .int .i64 pos, .int .i64 a], .bool b] w fun x w' => x = .returned (.bool false) ∧ Below w.heap.size w w' := by
  have g40 : (op == 40) = false := by rw [beq_eq_false_iff_ne]; exact h40
  clear h40
  have kn := Bk.new w 27 #[.int .i64 op, .int .i64 kind, .slice A n c, .int .i64 vk, .int .u64 vb, .int .i64 pos, .int .i64 a]
  have n0 : (w.alloc (.cells #[.int .i64 op, .int .i64 kind, .slice A n c, .int .i64 vk, .int .u64 vb, .int .i64 pos, .int .i64 a] 27)).cell? ⟨w.heap.size, 0, none⟩ = some (.int .i64 op) := kn.cell 0
  have n3 : (w.alloc (.cells #[.int .i64 op, .int .i64 kind, .slice A n c, .int .i64 vk, .int .u64 vb, .int .i64 pos, .int .i64 a] 27)).cell? ⟨w.heap.size, 3, none⟩ = some (.int .i64 vk) := kn.cell 3
  have n4 : (w.alloc (.cells #[.int .i64 op, .int .i64 kind, .slice A n c, .int .i64 vk, .int .u64 vb, .int .i64 pos, .int .i64 a] 27)).cell? ⟨w.heap.size, 4, none⟩ = some (.int .u64 vb) := kn.cell 4
  have hbe : Below w.heap.size w (w.alloc (.cells #[.int .i64 op, .int .i64 kind, .slice A n c, .int .i64 vk, .int .u64 vb, .int .i64 pos, .int .i64 a] 27)) := (Below.refl _ _).alloc (Nat.le_refl _) _
  clear kn
  go_enter Try.func19, Try.ntmps19
  go_upto_region 1 with fail
  refine wp_region_b (by kernel_rfl) (fun qk => (foIsN op kind vk pos a vb b false w).getD qk .any) (by kernel_rfl) ?_ ?_
  · refine BOk.cons rfl [] [2] rfl rfl (by kernel_rfl) (by kernel_rfl) (fun qK qa wr hB qO qF hK => ?_) ?_
    · have e2 : qa.tmps[2]? = some (.pointer (some ⟨w.heap.size, 0, none⟩)) := qO.1.trans rfl
      clear qO qF
      go_simp
      exact hK _ _ (Below.refl _ _) rfl
    refine BOk.cons rfl [0] [] rfl rfl (by kernel_rfl) (by kernel_rfl) (fun qK qa wr hB qO qF hK => ?_) ?_
    · have e5 : qa.tmps[5]? = some (.pointer (some ⟨w.heap.size, 0, none⟩)) := fis qF.1 rfl rfl
      clear qO qF
      have hn0 := (bcell hB _ _ (World.block_lt_of_cell? _ _ n0)).trans n0
      go_simp
      exact hK _ _ (Below.refl _ _) rfl
    refine BOk.cons rfl [1] [] rfl rfl (by kernel_rfl) (by kernel_rfl) (fun qK qa wr hB qO qF hK => ?_) ?_
    · have e6 : qa.tmps[6]? = some (.int .i64 op) := fis qF.1 rfl rfl
      clear qO qF
      go_simp
      refine hK _ _ (Below.refl _ _) ?_
      show (_ : Value) = _
      first | rfl | (simp; done) | (simp; omega)
    refine BOk.cons rfl [2] [] rfl rfl (by kernel_rfl) (by kernel_rfl) (fun qK qa wr hB qO qF hK => ?_) ?_
    · have e7 : qa.tmps[7]? = some (.bool false) := fis qF.1 rfl rfl
      clear qO qF
      go_simp
      exact hK _ _ (Below.refl _ _) (by first | rfl | (show (_ : Value) = _; simp_all; done))
    refine BOk.no rfl rfl 3 true rfl rfl rfl (by kernel_rfl) (fun _ => rfl) ?_
    refine BOk.no rfl rfl 3 true rfl rfl rfl (by kernel_rfl) (fun _ => rfl) ?_
    refine BOk.no rfl rfl 3 true rfl rfl rfl (by kernel_rfl) (fun _ => rfl) ?_
    refine BOk.no rfl rfl 3 true rfl rfl rfl (by kernel_rfl) (fun _ => rfl) ?_
    refine BOk.no rfl rfl 3 true rfl rfl rfl (by kernel_rfl) (fun _ => rfl) ?_
    refine BOk.cons rfl [3] [] rfl rfl (by kernel_rfl) (by kernel_rfl) (fun qK qa wr hB qO qF hK => ?_) ?_
    · have e8 : qa.tmps[8]? = some (.bool false) := fis qF.1 rfl rfl
      clear qO qF
      go_simp
      refine hK _ _ (Below.refl _ _) ?_
      show (_ : Value) = _
      first | rfl | (simp; done) | (simp; omega)
    refine BOk.cons rfl [9] [] rfl rfl (by kernel_rfl) (by kernel_rfl) (fun qK qa wr hB qO qF hK => ?_) ?_
    · have e14 : qa.tmps[14]? = some (.bool false) := fis qF.1 rfl rfl
      clear qO qF
      go_simp
      exact hK _ _ (Below.refl _ _) (by first | rfl | (show (_ : Value) = _; simp_all; done))
    exact BOk.nil
  intro vals wr hl hB hR
  match vals, hl with
  | [u5, u6, u7, u8, u9, u10, u11, u12, u13, u14, u4], _ =>
  have r10 : u4 = .bool false := hR 10 _ rfl
  subst r10
  clear hR
  simp only [List.cons_append, List.nil_append, putAll, Act.put, List.setIfInBounds_toArray, List.set_cons_zero, List.set_cons_succ]
  replace hbe := hbe.trans (hB.mono (by simp))
  clear hB n0 n3 n4
  go_wp2_with fail
  go_ret
  exact ⟨rfl, hbe⟩

theorem is_any (op kind : Int) (A : Option Addr) (args : List NodeV) (c : Nat) (vk : Int) (vb : Nat) (pos a : Int) (b p : Bool) (hp : isCN b.toNat (.mk op kind A c args vk vb pos a) = p) (w : World) :
    Calls Try.prog 19 #[.agg #[.int .i64 op, .int .i64 kind, .slice A args.length c, .int .i64 vk, .int .u64 vb, .int .i64 pos, .int .i64 a], .bool b] w fun x w' => x = .returned (.bool p) ∧ Below w.heap.size w w' := by
  by_cases h : op = 40
  · subst h
    exact is_yes kind A args.length c vk vb pos a b p w (by rw [← hp]; show _ = (decide ((40 : Int) = 40) && (decide (vk = 2) && decide (vb = b.toNat))); simp)
  · rw [← show _ = p from hp, show isCN b.toNat (.mk op kind A c args vk vb pos a) = false from by show (decide (op = 40) && _) = false; simp [h]]
    exact is_no op kind A args.length c vk vb pos a b false w h
end Go.Proofs.Ytkfpmoilfillmaa
