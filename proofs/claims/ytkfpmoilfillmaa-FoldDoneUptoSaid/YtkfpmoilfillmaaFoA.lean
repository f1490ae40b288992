/- Layer 12: fold's small functions. No conditions. -/
import Derived.Test.YtkfpmoilfillmaaNodC
import Derived.Test.YtkfpmoilfillmaaValD
namespace Go.Proofs.Ytkfpmoilfillmaa
open Go.RowKit
set_option linter.unusedVariables false
set_option linter.unusedSimpArgs false

section
variable {w : World} {g : Nat} {t : TypeId} {c0 c1 c2 c3 c4 c5 c6 : Value}
theorem ncells (h : Bk w g t #[c0, c1, c2, c3, c4, c5, c6]) : w.cell? ⟨g, 0, none⟩ = some c0 ∧ w.cell? ⟨g, 1, none⟩ = some c1 ∧ w.cell? ⟨g, 2, none⟩ = some c2 ∧ w.cell? ⟨g, 3, none⟩ = some c3 ∧ w.cell? ⟨g, 4, none⟩ = some c4 ∧ w.cell? ⟨g, 5, none⟩ = some c5 ∧ w.cell? ⟨g, 6, none⟩ = some c6 :=
  ⟨h.cell 0, h.cell 1, h.cell 2, h.cell 3, h.cell 4, h.cell 5, h.cell 6⟩
theorem nfrozen (h : Bk w g t #[c0, c1, c2, c3, c4, c5, c6]) : w.frozen? ⟨g, 0, none⟩ = false ∧ w.frozen? ⟨g, 1, none⟩ = false ∧ w.frozen? ⟨g, 2, none⟩ = false ∧ w.frozen? ⟨g, 3, none⟩ = false ∧ w.frozen? ⟨g, 4, none⟩ = false ∧ w.frozen? ⟨g, 5, none⟩ = false ∧ w.frozen? ⟨g, 6, none⟩ = false :=
  ⟨h.frozen 0, h.frozen 1, h.frozen 2, h.frozen 3, h.frozen 4, h.frozen 5, h.frozen 6⟩
theorem nput (h : Bk w g t #[c0, c1, c2, c3, c4, c5, c6]) (d0 d1 d2 d3 d4 d5 d6 : Value) : Bk (((((((w.setCell ⟨g, 0, none⟩ d0).setCell ⟨g, 1, none⟩ d1).setCell ⟨g, 2, none⟩ d2).setCell ⟨g, 3, none⟩ d3).setCell ⟨g, 4, none⟩ d4).setCell ⟨g, 5, none⟩ d5).setCell ⟨g, 6, none⟩ d6) g t #[d0, d1, d2, d3, d4, d5, d6] :=
  by have := ((((((h.put 0 d0).put 1 d1).put 2 d2).put 3 d3).put 4 d4).put 5 d5).put 6 d6; simpa using this
end

def constN (kind : Int) (x : V) : NodeV := .mk 40 kind none 0 [] x.k x.b 0 0
set_option maxRecDepth 100000 in
set_option maxHeartbeats 400000 in
theorem constant_any (kind : Int) (x : V) (w : World) : Calls Try.prog 36 #[.int .i64 kind, x.v] w fun e w' => e = .returned (constN kind x).val ∧ Below w.heap.size w w' := by
  unfold V.v
  go_enter Try.func36, Try.ntmps36
  go_wp2_with fail
  exact bodyPost_ret (v := .agg #[.int .i64 40, .int .i64 kind, .slice none 0 0, .int .i64 x.k, .int .u64 x.b, .int .i64 0, .int .i64 0]) (by simp [results, Try.results36, go_sem]) rfl ⟨rfl, (by repeat (first | exact Below.refl _ _ | assumption | refine Below.setCell ?_ (by first | (simp; done) | (simp; omega)) _ | refine Below.alloc ?_ (by first | (simp; done) | (simp; omega)) _))⟩

def twiceR : NodeV → Option NodeV
  | .mk op _ _ _ args _ _ _ _ => if op = 15 then match args with
    | [.mk op2 _ _ _ args2 _ _ _ _] => if op2 = 15 then match args2 with
      | [z] => some z
      | _ => none else none
    | _ => none else none
theorem twiceR_no {op kind : Int} {A : Option Addr} {c : Nat} {args : List NodeV} {vk : Int} {vb : Nat} {pos a : Int} (h : op ≠ 15) : twiceR (.mk op kind A c args vk vb pos a) = none := if_neg h
set_option maxRecDepth 100000 in
set_option maxHeartbeats 1000000 in
theorem twice_op (op kind : Int) (h15 : op ≠ 15) (A : Option Addr) (args : List NodeV) (c : Nat) (vk : Int) (vb : Nat) (pos a : Int) (w : World) :
    Calls Try.prog 27 #[.agg #[], .agg #[.int .i64 op, .int .i64 kind, .slice A args.length c, .int .i64 vk, .int .u64 vb, .int .i64 pos, .int .i64 a]] w fun e w' => e = .returned (.tuple #[.agg #[.int .i64 op, .int .i64 kind, .slice A args.length c, .int .i64 vk, .int .u64 vb, .int .i64 pos, .int .i64 a], .bool false]) ∧ Below w.heap.size w w' := by
  have g15 : (op != 15) = true := by rw [bne_iff_ne]; exact h15
  go_enter Try.func27, Try.ntmps27
  go_wp2_with fail
  exact bodyPost_ret (v := .tuple #[.agg #[.int .i64 op, .int .i64 kind, .slice A args.length c, .int .i64 vk, .int .u64 vb, .int .i64 pos, .int .i64 a], .bool false]) (by simp [results, Try.results27, go_sem]) rfl ⟨rfl, (by repeat (first | exact Below.refl _ _ | assumption | refine Below.setCell ?_ (by first | (simp; done) | (simp; omega)) _ | refine Below.alloc ?_ (by first | (simp; done) | (simp; omega)) _))⟩
theorem twiceR_len {op kind : Int} {A : Option Addr} {c : Nat} {args : List NodeV} {vk : Int} {vb : Nat} {pos a : Int} (h : args.length ≠ 1) : twiceR (.mk op kind A c args vk vb pos a) = none := by
  match args, h with
  | [], _ => show (if op = 15 then (none : Option NodeV) else none) = none; split <;> rfl
  | [x], h => exact absurd rfl h
  | .mk .. :: y :: l, _ => show (if op = 15 then (none : Option NodeV) else none) = none; split <;> rfl
set_option maxRecDepth 100000 in
set_option maxHeartbeats 1000000 in
theorem twice_len (kind : Int) (A : Option Addr) (args : List NodeV) (hl : args.length ≠ 1) (c : Nat) (vk : Int) (vb : Nat) (pos a : Int) (w : World) :
    Calls Try.prog 27 #[.agg #[], .agg #[.int .i64 15, .int .i64 kind, .slice A args.length c, .int .i64 vk, .int .u64 vb, .int .i64 pos, .int .i64 a]] w fun e w' => e = .returned (.tuple #[.agg #[.int .i64 15, .int .i64 kind, .slice A args.length c, .int .i64 vk, .int .u64 vb, .int .i64 pos, .int .i64 a], .bool false]) ∧ Below w.heap.size w w' := by
  have g1 : ((args.length : Int) != 1) = true := by rw [bne_iff_ne]; omega
  go_enter Try.func27, Try.ntmps27
  go_wp2_with fail
  exact bodyPost_ret (v := .tuple #[.agg #[.int .i64 15, .int .i64 kind, .slice A args.length c, .int .i64 vk, .int .u64 vb, .int .i64 pos, .int .i64 a], .bool false]) (by simp [results, Try.results27, go_sem]) rfl ⟨rfl, (by repeat (first | exact Below.refl _ _ | assumption | refine Below.setCell ?_ (by first | (simp; done) | (simp; omega)) _ | refine Below.alloc ?_ (by first | (simp; done) | (simp; omega)) _))⟩
set_option maxRecDepth 100000 in
set_option maxHeartbeats 1000000 in
theorem twice_no (kind : Int) (b o c : Nat) (vk : Int) (vb : Nat) (pos a : Int) (op2 kind2 : Int) (A2 : Option Addr) (c2 : Nat) (args2 : List NodeV) (vk2 : Int) (vb2 : Nat) (pos2 a2 : Int) (h2 : op2 ≠ 15 ∨ args2.length ≠ 1) (w : World) (hb : b < w.heap.size)
    (hc : ∀ (j : Nat) (u : Value), (NodeV.mk op2 kind2 A2 c2 args2 vk2 vb2 pos2 a2).cells[j]? = some u → w.cell? ⟨b, o + j, none⟩ = some u) :
    Calls Try.prog 27 #[.agg #[], .agg #[.int .i64 15, .int .i64 kind, .slice (some ⟨b, o, none⟩) 1 c, .int .i64 vk, .int .u64 vb, .int .i64 pos, .int .i64 a]] w fun e w' => e = .returned (.tuple #[.agg #[.int .i64 15, .int .i64 kind, .slice (some ⟨b, o, none⟩) 1 c, .int .i64 vk, .int .u64 vb, .int .i64 pos, .int .i64 a], .bool false]) ∧ Below w.heap.size w w' := by
  have q0 : ∀ x1 x2 x3 : Obj, (((w.alloc x1).alloc x2).alloc x3).cell? ⟨b, o, none⟩ = some (.int .i64 op2) := fun _ _ _ => (bcell (bel3 _ _ _ _) _ _ hb).trans (hc 0 _ rfl)
  have q1 : ∀ x1 x2 x3 : Obj, (((w.alloc x1).alloc x2).alloc x3).cell? ⟨b, o + 1, none⟩ = some (.int .i64 kind2) := fun _ _ _ => (bcell (bel3 _ _ _ _) _ _ hb).trans (hc 1 _ rfl)
  have q2 : ∀ x1 x2 x3 : Obj, (((w.alloc x1).alloc x2).alloc x3).cell? ⟨b, o + 2, none⟩ = some (.slice A2 args2.length c2) := fun _ _ _ => (bcell (bel3 _ _ _ _) _ _ hb).trans (hc 2 _ rfl)
  have q3 : ∀ x1 x2 x3 : Obj, (((w.alloc x1).alloc x2).alloc x3).cell? ⟨b, o + 3, none⟩ = some (.int .i64 vk2) := fun _ _ _ => (bcell (bel3 _ _ _ _) _ _ hb).trans (hc 3 _ rfl)
  have q4 : ∀ x1 x2 x3 : Obj, (((w.alloc x1).alloc x2).alloc x3).cell? ⟨b, o + 4, none⟩ = some (.int .u64 vb2) := fun _ _ _ => (bcell (bel3 _ _ _ _) _ _ hb).trans (hc 4 _ rfl)
  have q5 : ∀ x1 x2 x3 : Obj, (((w.alloc x1).alloc x2).alloc x3).cell? ⟨b, o + 5, none⟩ = some (.int .i64 pos2) := fun _ _ _ => (bcell (bel3 _ _ _ _) _ _ hb).trans (hc 5 _ rfl)
  have q6 : ∀ x1 x2 x3 : Obj, (((w.alloc x1).alloc x2).alloc x3).cell? ⟨b, o + 6, none⟩ = some (.int .i64 a2) := fun _ _ _ => (bcell (bel3 _ _ _ _) _ _ hb).trans (hc 6 _ rfl)
  clear hc
  by_cases h15 : op2 = 15
  · subst h15
    have g1 : ((args2.length : Int) != 1) = true := by rw [bne_iff_ne]; omega
    go_enter Try.func27, Try.ntmps27
    go_wp2_with fail
    exact bodyPost_ret (v := .tuple #[.agg #[.int .i64 15, .int .i64 kind, .slice (some ⟨b, o, none⟩) 1 c, .int .i64 vk, .int .u64 vb, .int .i64 pos, .int .i64 a], .bool false]) (by simp [results, Try.results27, go_sem]) rfl ⟨rfl, (by repeat (first | exact Below.refl _ _ | assumption | refine Below.setCell ?_ (by first | (simp; done) | (simp; omega)) _ | refine Below.alloc ?_ (by first | (simp; done) | (simp; omega)) _))⟩
  · have g1 : (op2 != 15) = true := by rw [bne_iff_ne]; exact h15
    clear h2
    go_enter Try.func27, Try.ntmps27
    go_wp2_with fail
    exact bodyPost_ret (v := .tuple #[.agg #[.int .i64 15, .int .i64 kind, .slice (some ⟨b, o, none⟩) 1 c, .int .i64 vk, .int .u64 vb, .int .i64 pos, .int .i64 a], .bool false]) (by simp [results, Try.results27, go_sem]) rfl ⟨rfl, (by repeat (first | exact Below.refl _ _ | assumption | refine Below.setCell ?_ (by first | (simp; done) | (simp; omega)) _ | refine Below.alloc ?_ (by first | (simp; done) | (simp; omega)) _))⟩
set_option maxRecDepth 100000 in
set_option maxHeartbeats 1000000 in
theorem twice_yes (kind : Int) (b o c : Nat) (vk : Int) (vb : Nat) (pos a : Int) (kind2 : Int) (b2 o2 : Nat) (c2 : Nat) (vk2 : Int) (vb2 : Nat) (pos2 a2 : Int) (op3 kind3 : Int) (A3 : Option Addr) (c3 : Nat) (args3 : List NodeV) (vk3 : Int) (vb3 : Nat) (pos3 a3 : Int) (w : World) (hb : b < w.heap.size)
    (hc : ∀ (j : Nat) (u : Value), ([.int .i64 15, .int .i64 kind2, .slice (some ⟨b2, o2, none⟩) 1 c2, .int .i64 vk2, .int .u64 vb2, .int .i64 pos2, .int .i64 a2] : List Value)[j]? = some u → w.cell? ⟨b, o + j, none⟩ = some u) (hb2 : b2 < w.heap.size)
    (hd : ∀ (j : Nat) (u : Value), (NodeV.mk op3 kind3 A3 c3 args3 vk3 vb3 pos3 a3).cells[j]? = some u → w.cell? ⟨b2, o2 + j, none⟩ = some u) :
    Calls Try.prog 27 #[.agg #[], .agg #[.int .i64 15, .int .i64 kind, .slice (some ⟨b, o, none⟩) 1 c, .int .i64 vk, .int .u64 vb, .int .i64 pos, .int .i64 a]] w fun e w' => e = .returned (.tuple #[.agg #[.int .i64 op3, .int .i64 kind3, .slice A3 args3.length c3, .int .i64 vk3, .int .u64 vb3, .int .i64 pos3, .int .i64 a3], .bool true]) ∧ Below w.heap.size w w' := by
  have q0 : ∀ x1 x2 x3 : Obj, (((w.alloc x1).alloc x2).alloc x3).cell? ⟨b, o, none⟩ = some (.int .i64 15) := fun _ _ _ => (bcell (bel3 _ _ _ _) _ _ hb).trans (hc 0 _ rfl)
  have q1 : ∀ x1 x2 x3 : Obj, (((w.alloc x1).alloc x2).alloc x3).cell? ⟨b, o + 1, none⟩ = some (.int .i64 kind2) := fun _ _ _ => (bcell (bel3 _ _ _ _) _ _ hb).trans (hc 1 _ rfl)
  have q2 : ∀ x1 x2 x3 : Obj, (((w.alloc x1).alloc x2).alloc x3).cell? ⟨b, o + 2, none⟩ = some (.slice (some ⟨b2, o2, none⟩) 1 c2) := fun _ _ _ => (bcell (bel3 _ _ _ _) _ _ hb).trans (hc 2 _ rfl)
  have q3 : ∀ x1 x2 x3 : Obj, (((w.alloc x1).alloc x2).alloc x3).cell? ⟨b, o + 3, none⟩ = some (.int .i64 vk2) := fun _ _ _ => (bcell (bel3 _ _ _ _) _ _ hb).trans (hc 3 _ rfl)
  have q4 : ∀ x1 x2 x3 : Obj, (((w.alloc x1).alloc x2).alloc x3).cell? ⟨b, o + 4, none⟩ = some (.int .u64 vb2) := fun _ _ _ => (bcell (bel3 _ _ _ _) _ _ hb).trans (hc 4 _ rfl)
  have q5 : ∀ x1 x2 x3 : Obj, (((w.alloc x1).alloc x2).alloc x3).cell? ⟨b, o + 5, none⟩ = some (.int .i64 pos2) := fun _ _ _ => (bcell (bel3 _ _ _ _) _ _ hb).trans (hc 5 _ rfl)
  have q6 : ∀ x1 x2 x3 : Obj, (((w.alloc x1).alloc x2).alloc x3).cell? ⟨b, o + 6, none⟩ = some (.int .i64 a2) := fun _ _ _ => (bcell (bel3 _ _ _ _) _ _ hb).trans (hc 6 _ rfl)
  have r0 : ∀ x1 x2 x3 x4 : Obj, ((((w.alloc x1).alloc x2).alloc x3).alloc x4).cell? ⟨b2, o2, none⟩ = some (.int .i64 op3) := fun _ _ _ _ => (bcell (bel4 _ _ _ _ _) _ _ hb2).trans (hd 0 _ rfl)
  have r1 : ∀ x1 x2 x3 x4 : Obj, ((((w.alloc x1).alloc x2).alloc x3).alloc x4).cell? ⟨b2, o2 + 1, none⟩ = some (.int .i64 kind3) := fun _ _ _ _ => (bcell (bel4 _ _ _ _ _) _ _ hb2).trans (hd 1 _ rfl)
  have r2 : ∀ x1 x2 x3 x4 : Obj, ((((w.alloc x1).alloc x2).alloc x3).alloc x4).cell? ⟨b2, o2 + 2, none⟩ = some (.slice A3 args3.length c3) := fun _ _ _ _ => (bcell (bel4 _ _ _ _ _) _ _ hb2).trans (hd 2 _ rfl)
  have r3 : ∀ x1 x2 x3 x4 : Obj, ((((w.alloc x1).alloc x2).alloc x3).alloc x4).cell? ⟨b2, o2 + 3, none⟩ = some (.int .i64 vk3) := fun _ _ _ _ => (bcell (bel4 _ _ _ _ _) _ _ hb2).trans (hd 3 _ rfl)
  have r4 : ∀ x1 x2 x3 x4 : Obj, ((((w.alloc x1).alloc x2).alloc x3).alloc x4).cell? ⟨b2, o2 + 4, none⟩ = some (.int .u64 vb3) := fun _ _ _ _ => (bcell (bel4 _ _ _ _ _) _ _ hb2).trans (hd 4 _ rfl)
  have r5 : ∀ x1 x2 x3 x4 : Obj, ((((w.alloc x1).alloc x2).alloc x3).alloc x4).cell? ⟨b2, o2 + 5, none⟩ = some (.int .i64 pos3) := fun _ _ _ _ => (bcell (bel4 _ _ _ _ _) _ _ hb2).trans (hd 5 _ rfl)
  have r6 : ∀ x1 x2 x3 x4 : Obj, ((((w.alloc x1).alloc x2).alloc x3).alloc x4).cell? ⟨b2, o2 + 6, none⟩ = some (.int .i64 a3) := fun _ _ _ _ => (bcell (bel4 _ _ _ _ _) _ _ hb2).trans (hd 6 _ rfl)
  clear hc hd
  go_enter Try.func27, Try.ntmps27
  go_wp2_with fail
  exact bodyPost_ret (v := .tuple #[.agg #[.int .i64 op3, .int .i64 kind3, .slice A3 args3.length c3, .int .i64 vk3, .int .u64 vb3, .int .i64 pos3, .int .i64 a3], .bool true]) (by simp [results, Try.results27, go_sem]) rfl ⟨rfl, (by repeat (first | exact Below.refl _ _ | assumption | refine Below.setCell ?_ (by first | (simp; done) | (simp; omega)) _ | refine Below.alloc ?_ (by first | (simp; done) | (simp; omega)) _))⟩
end Go.Proofs.Ytkfpmoilfillmaa
