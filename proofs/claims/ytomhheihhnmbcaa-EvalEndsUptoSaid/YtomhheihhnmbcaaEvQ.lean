/- Layer 9: the program's Node and All. No conditions. -/
import Derived.Test.YtomhheihhnmbcaaEvN
namespace Go.Proofs.Ytomhheihhnmbcaa
open Go.RowKit
set_option linter.unusedVariables false
set_option linter.unusedSimpArgs false

theorem pnode_any (kk : LookV) : ∀ (d : Nat) (n : NodeV) (w : World), okN d n w w.heap.size → kk.ok w w.heap.size → Calls Try.prog 13 #[n.val, kk.val] w fun e w' => e = .returned (evalN kk d n).v ∧ Below w.heap.size w w'
  | 0, _, _, h, _ => h.elim
  | d + 1, .mk op kind A c args vk vb pos a, w, h, hk => by
    have e : evalN kk (d + 1) (.mk op kind A c args vk vb pos a) = (if op = 40 then clean ⟨vk, vb⟩ else if op = 41 then attrL kk.es kk.cur a else if op = 25 then intV (hasL kk.bs pos).length
      else if op = 42 ∨ (26 ≤ op ∧ op ≤ 31) then aggV op ((hasL kk.bs pos).map fun at_ => attrL kk.es at_ a) else applyV op (args.map (evalN kk d))) := rfl
    rw [e]
    clear e
    show Calls Try.prog 13 #[.agg #[.int .i64 op, .int .i64 kind, .slice A args.length c, .int .i64 vk, .int .u64 vb, .int .i64 pos, .int .i64 a], kk.val] w _
    by_cases h40 : op = 40
    · subst h40; rw [if_pos rfl]; exact pnode_const kk kind A args c vk vb pos a _ w rfl h.2.2.1
    rw [if_neg h40]
    by_cases h41 : op = 41
    · subst h41; rw [if_pos rfl]; exact pnode_cur kk kind A args c vk vb pos a _ w rfl hk
    rw [if_neg h41]
    by_cases h25 : op = 25
    · subst h25; rw [if_pos rfl]; exact pnode_count kk kind A args c vk vb pos a _ w rfl hk
    rw [if_neg h25]
    by_cases hop : op = 42 ∨ (26 ≤ op ∧ op ≤ 31)
    · rw [if_pos hop]; exact pnode_agg kk op kind hop A args c vk vb pos a _ w rfl hk
    rw [if_neg hop]
    exact pnode_op kk d (pnode_any kk d) op kind h40 h41 h25 hop A args c vk vb pos a _ w rfl hk h.1 h.2.1 h.2.2.2

theorem neq_V (a b c d : Int) (w : World) : (binOp .neq 31 (.agg #[.int .i64 a, .int .u64 b]) (.agg #[.int .i64 c, .int .u64 d])).run Try.prog w = .ok (.bool (!(a == c && b == d))) w := by
  have h1 : Try.prog.stoodInHeld 31 = false := by kernel_rfl
  by_cases h : a = c <;> by_cases h2 : b = d <;> simp [go_sem, h, h2, h1]
theorem eql_V (a b c d : Int) (w : World) : (binOp .eql 31 (.agg #[.int .i64 a, .int .u64 b]) (.agg #[.int .i64 c, .int .u64 d])).run Try.prog w = .ok (.bool (a == c && b == d)) w := by
  have h1 : Try.prog.stoodInHeld 31 = false := by kernel_rfl
  by_cases h : a = c <;> by_cases h2 : b = d <;> simp [go_sem, h, h2, h1]
theorem neq_R (a b c d : Int) (w : World) : (binOp .neq 46 (.agg #[.int .i64 a, .int .u64 b]) (.agg #[.int .i64 c, .int .u64 d])).run Try.prog w = .ok (.bool (!(a == c && b == d))) w := by
  have h1 : Try.prog.stoodInHeld 46 = false := by kernel_rfl
  by_cases h : a = c <;> by_cases h2 : b = d <;> simp [go_sem, h, h2, h1]
theorem eql_R (a b c d : Int) (w : World) : (binOp .eql 46 (.agg #[.int .i64 a, .int .u64 b]) (.agg #[.int .i64 c, .int .u64 d])).run Try.prog w = .ok (.bool (a == c && b == d)) w := by
  have h1 : Try.prog.stoodInHeld 46 = false := by kernel_rfl
  by_cases h : a = c <;> by_cases h2 : b = d <;> simp [go_sem, h, h2, h1]

/-- Whether a value is the Bool 1. -/
def isYes (x : V) : Bool := (x.k == 2) && ((x.b : Int) == 1)

set_option maxRecDepth 100000 in
theorem pall_any (kk : LookV) (d : Nat) (l : List NodeV) (A : Option Addr) (c : Nat) (w : World) (hr : Rd w w.heap.size A (l.flatMap NodeV.cells)) (hl : l.length ≤ 1048577) (hall : ∀ x ∈ l, okN d x w w.heap.size) (hk : kk.ok w w.heap.size) :
    Calls Try.prog 15 #[.slice A l.length c, kk.val] w fun e w' => e = .returned (.bool (l.all fun n => isYes (evalN kk d n))) ∧ Below w.heap.size w w' := by
  have HK := Lib.hid hk
  have HA := Lib.hid hall
  have HRD := Lib.hid hr
  generalize hR : (l.all fun n => isYes (evalN kk d n)) = R
  have HR := Lib.hid hR
  have hneq := neq_V
  clear hR hk hall hr
  unfold LookV.val
  go_enter Try.func15, Try.ntmps15
  go_wp2_with fail
  go_loopw [9] (fun i wr => ∃ (k : Nat), k ≤ l.length ∧ i = .int .i64 k ∧ Below w.heap.size w wr ∧ Bk wr w.heap.size 28 #[.slice kk.EA kk.es.length kk.ec, .slice kk.BA kk.bs.length kk.bc, .int .i64 kk.cur] ∧ Hid ((l.take k).all fun n => isYes (evalN kk d n))) (fun i _ => l.length - (intOf i).toNat)
  case atStart => exact ⟨0, Nat.zero_le _, rfl, (Below.refl _ _).alloc (Nat.le_refl _) _, Bk.new _ _ _, Lib.hid (by simp)⟩
  case round =>
    obtain ⟨k, hk, rfl, hbel, kl, hyes⟩ := hrel
    by_cases hlt : k < l.length
    · obtain ⟨b, o, rfl, hb, hc⟩ := (HRD.out.below hbel).elem (f := NodeV.cells) (n := 7) NodeV.len (by omega) hlt
      have hx := HA.out l[k] (by simp)
      have hnext : (l.take (k + 1)).all (fun n => isYes (evalN kk d n)) = isYes (evalN kk d l[k]) := by
        rw [List.take_succ_eq_append_getElem hlt, List.all_append, hyes.out]; simp
      have hno : isYes (evalN kk d l[k]) = false → R = false := by
        intro h
        rw [← HR.out]
        by_cases ha : (l.all fun n => isYes (evalN kk d n)) = true
        · have := List.all_eq_true.1 ha l[k] (by simp)
          rw [h] at this; cases this
        · simpa using ha
      generalize l[k] = x at *
      obtain ⟨op2, kind2, A2, c2, args2, vk2, vb2, pos2, a2⟩ := x
      have hc0 : wr.cell? ⟨b, o + k * 7, none⟩ = some (.int .i64 op2) := hc 0 _ rfl
      have hc1 : wr.cell? ⟨b, o + k * 7 + 1, none⟩ = some (.int .i64 kind2) := hc 1 _ rfl
      have hc2 : wr.cell? ⟨b, o + k * 7 + 2, none⟩ = some (.slice A2 args2.length c2) := hc 2 _ rfl
      have hc3 : wr.cell? ⟨b, o + k * 7 + 3, none⟩ = some (.int .i64 vk2) := hc 3 _ rfl
      have hc4 : wr.cell? ⟨b, o + k * 7 + 4, none⟩ = some (.int .u64 vb2) := hc 4 _ rfl
      have hc5 : wr.cell? ⟨b, o + k * 7 + 5, none⟩ = some (.int .i64 pos2) := hc 5 _ rfl
      have hc6 : wr.cell? ⟨b, o + k * 7 + 6, none⟩ = some (.int .i64 a2) := hc 6 _ rfl
      have kl' := kl.alloc (.cells #[.int .i64 op2, .int .i64 kind2, .slice A2 args2.length c2, .int .i64 vk2, .int .u64 vb2, .int .i64 pos2, .int .i64 a2] 41)
      have k0 := kl'.cell 0
      have k1 := kl'.cell 1
      have k2 := kl'.cell 2
      simp at k0 k1 k2
      have hbel' : Below w.heap.size w (wr.alloc (.cells #[.int .i64 op2, .int .i64 kind2, .slice A2 args2.length c2, .int .i64 vk2, .int .u64 vb2, .int .i64 pos2, .int .i64 a2] 41)) := hbel.alloc hbel.size _
      have hrec := pnode_any kk d _ _ (hx.old hbel') (HK.out.old hbel')
      generalize evalN kk d (.mk op2 kind2 A2 c2 args2 vk2 vb2 pos2 a2) = X at *
      have HREC := Lib.hid hrec
      have HN := Lib.hid hnext
      have HNO := Lib.hid hno
      clear hc hrec hnext hno hx kl' hyes
      go_wp2_with fail
      refine HREC.out.mono ?_
      rintro e w1 ⟨rfl, hb1⟩
      clear HREC k0 k1 k2 hc0 hc1 hc2 hc3 hc4 hc5 hc6
      have kl := (kl.alloc _).old hb1
      have hbel : Below w.heap.size w w1 := hbel'.trans (hb1.mono hbel'.size)
      clear hb1 hbel'
      simp only [V.v]
      by_cases hy : isYes X = true
      · as_aux_lemma =>
        have hy2 : (X.k == 2 && (X.b : Int) == 1) = true := hy
        go_wp2_with fail
        go_roundw
        case rel => exact ⟨k + 1, by omega, by go_num, hbel, kl, Lib.hid (by rw [HN.out]; exact hy)⟩
        case measure => simp [intOf]; omega
      · as_aux_lemma =>
        have hy1 : isYes X = false := by simpa using hy
        have hy2 : (X.k == 2 && (X.b : Int) == 1) = false := hy1
        have hRf := HNO.out hy1
        subst hRf
        clear hy hy1
        go_wp2_with fail
        go_ret
        exact ⟨rfl, hbel⟩
    · as_aux_lemma =>
      obtain rfl : k = l.length := by omega
      have hRt : R = true := by rw [← HR.out]; have := hyes.out; rwa [List.take_length] at this
      subst hRt
      clear HR hyes
      go_wp2_with fail
      go_ret
      exact ⟨rfl, hbel⟩
end Go.Proofs.Ytomhheihhnmbcaa
