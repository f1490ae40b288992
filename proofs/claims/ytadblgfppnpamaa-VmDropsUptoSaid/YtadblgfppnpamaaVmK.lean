/- Layer 18: which code may be, by the document. No conditions. -/
import Derived.Test.YtadblgfppnpamaaVmKp
import Derived.Test.YtadblgfppnpamaaRegN
namespace Go.Proofs.Ytadblgfppnpamaa
open Go.RowKit
set_option linter.unusedVariables false
set_option linter.unusedSimpArgs false

def rgR2 (nr ns : Int) (ll : List InsV) (w : World) : List Spec := [.is (.pointer (some ⟨w.heap.size, 0, none⟩)),
  .is (.int .i64 nr),
  .is (.bool (decide (1 ≤ nr))),
  .is (.bool (decide (1 ≤ nr))),
  .is (bif (true && ((decide (1 ≤ nr)) == true)) then .pointer (some ⟨w.heap.size, 0, none⟩) else undef),
  .is (bif (true && ((decide (1 ≤ nr)) == true)) then .int .i64 nr else undef),
  .is (bif (true && ((decide (1 ≤ nr)) == true)) then .bool (decide (nr ≤ 1024)) else undef),
  .is (.bool ((decide (1 ≤ nr)) && (decide (nr ≤ 1024)))),
  .is (.bool ((decide (1 ≤ nr)) && (decide (nr ≤ 1024)))),
  .is (bif (true && (((decide (1 ≤ nr)) && (decide (nr ≤ 1024))) == true)) then .pointer (some ⟨w.heap.size, 1, none⟩) else undef),
  .is (bif (true && (((decide (1 ≤ nr)) && (decide (nr ≤ 1024))) == true)) then .int .i64 ns else undef),
  .is (bif (true && (((decide (1 ≤ nr)) && (decide (nr ≤ 1024))) == true)) then .bool (decide (0 ≤ ns)) else undef),
  .is (.bool (((decide (1 ≤ nr)) && (decide (nr ≤ 1024))) && (decide (0 ≤ ns)))),
  .is (.bool (((decide (1 ≤ nr)) && (decide (nr ≤ 1024))) && (decide (0 ≤ ns)))),
  .is (bif (true && ((((decide (1 ≤ nr)) && (decide (nr ≤ 1024))) && (decide (0 ≤ ns))) == true)) then .pointer (some ⟨w.heap.size, 1, none⟩) else undef),
  .is (bif (true && ((((decide (1 ≤ nr)) && (decide (nr ≤ 1024))) && (decide (0 ≤ ns))) == true)) then .int .i64 ns else undef),
  .is (bif (true && ((((decide (1 ≤ nr)) && (decide (nr ≤ 1024))) && (decide (0 ≤ ns))) == true)) then .bool (decide (ns ≤ 256)) else undef),
  .is (.bool ((((decide (1 ≤ nr)) && (decide (nr ≤ 1024))) && (decide (0 ≤ ns))) && (decide (ns ≤ 256)))),
  .is (.bool ((((decide (1 ≤ nr)) && (decide (nr ≤ 1024))) && (decide (0 ≤ ns))) && (decide (ns ≤ 256)))),
  .is (bif (true && (((((decide (1 ≤ nr)) && (decide (nr ≤ 1024))) && (decide (0 ≤ ns))) && (decide (ns ≤ 256))) == true)) then .int .i64 (ll.length : Nat) else undef),
  .is (bif (true && (((((decide (1 ≤ nr)) && (decide (nr ≤ 1024))) && (decide (0 ≤ ns))) && (decide (ns ≤ 256))) == true)) then .bool (decide (1 ≤ (ll.length : Nat))) else undef),
  .is (.bool (((((decide (1 ≤ nr)) && (decide (nr ≤ 1024))) && (decide (0 ≤ ns))) && (decide (ns ≤ 256))) && (decide (1 ≤ (ll.length : Nat))))),
  .is (.bool (((((decide (1 ≤ nr)) && (decide (nr ≤ 1024))) && (decide (0 ≤ ns))) && (decide (ns ≤ 256))) && (decide (1 ≤ (ll.length : Nat))))),
  .is (bif (true && ((((((decide (1 ≤ nr)) && (decide (nr ≤ 1024))) && (decide (0 ≤ ns))) && (decide (ns ≤ 256))) && (decide (1 ≤ (ll.length : Nat)))) == true)) then .int .i64 (ll.length : Nat) else undef),
  .is (bif (true && ((((((decide (1 ≤ nr)) && (decide (nr ≤ 1024))) && (decide (0 ≤ ns))) && (decide (ns ≤ 256))) && (decide (1 ≤ (ll.length : Nat)))) == true)) then .bool (decide ((ll.length : Nat) ≤ 1024)) else undef),
  .is (.bool ((((((decide (1 ≤ nr)) && (decide (nr ≤ 1024))) && (decide (0 ≤ ns))) && (decide (ns ≤ 256))) && (decide (1 ≤ (ll.length : Nat)))) && (decide ((ll.length : Nat) ≤ 1024)))),
  .is (.bool ((((((decide (1 ≤ nr)) && (decide (nr ≤ 1024))) && (decide (0 ≤ ns))) && (decide (ns ≤ 256))) && (decide (1 ≤ (ll.length : Nat)))) && (decide ((ll.length : Nat) ≤ 1024))))]
def rgR24 (op dst a b nr ns : Int) (Ai Ak : Option Addr) (ci ck : Nat) (li : List InputV) (lk : List V) (ll : List InsV) (ok : Bool) (k m : Nat) (f g : Int → Bool) (w wl wz : World) : List Spec := [.is (.int .i64 (m : Nat)),
  .is (.bool (decide ((m : Nat) < 2))),
  .is (.bool (decide ((m : Nat) < 2))),
  .is (bif (true && ((decide ((m : Nat) < 2)) == true)) then .pointer (some ⟨wl.heap.size, 0, none⟩) else undef),
  .is (bif (true && ((decide ((m : Nat) < 2)) == true)) then .int .i64 op else undef),
  .is (bif (true && ((decide ((m : Nat) < 2)) == true)) then .bool ((op != 53)) else undef),
  .is (.bool ((decide ((m : Nat) < 2)) && ((op != 53)))),
  .is (.bool ((decide ((m : Nat) < 2)) && ((op != 53)))),
  .is (bif (true && (((decide ((m : Nat) < 2)) && ((op != 53))) == true)) then .pointer (some ⟨wl.heap.size, 3, none⟩) else undef),
  .is (bif (true && (((decide ((m : Nat) < 2)) && ((op != 53))) == true)) then .int .i64 b else undef),
  .is (bif (true && (((decide ((m : Nat) < 2)) && ((op != 53))) == true)) then .bool ((b != 0)) else undef),
  .is (.bool (((decide ((m : Nat) < 2)) && ((op != 53))) && ((b != 0)))),
  .is (.bool (((decide ((m : Nat) < 2)) && ((op != 53))) && ((b != 0)))),
  .is (bif (true && ((((decide ((m : Nat) < 2)) && ((op != 53))) && ((b != 0))) == false)) then .pointer (some ⟨wl.heap.size, 0, none⟩) else undef),
  .is (bif (true && ((((decide ((m : Nat) < 2)) && ((op != 53))) && ((b != 0))) == false)) then .int .i64 op else undef),
  .is (bif (true && ((((decide ((m : Nat) < 2)) && ((op != 53))) && ((b != 0))) == false)) then .bool ((op == 52)) else undef),
  .is (bif (true && ((((decide ((m : Nat) < 2)) && ((op != 53))) && ((b != 0))) == false)) then .int .i64 (k : Int) else undef),
  .is (bif (true && ((((decide ((m : Nat) < 2)) && ((op != 53))) && ((b != 0))) == false)) then .int .i64 (ll.length : Nat) else undef),
  .is (bif (true && ((((decide ((m : Nat) < 2)) && ((op != 53))) && ((b != 0))) == false)) then .int .i64 ((ll.length : Int) - 1) else undef),
  .is (bif (true && ((((decide ((m : Nat) < 2)) && ((op != 53))) && ((b != 0))) == false)) then .bool (((k : Int) == ((ll.length : Int) - 1))) else undef),
  .is (bif (true && ((((decide ((m : Nat) < 2)) && ((op != 53))) && ((b != 0))) == false)) then .bool (((op == 52)) != (((k : Int) == ((ll.length : Int) - 1)))) else undef),
  .is (.bool ((((decide ((m : Nat) < 2)) && ((op != 53))) && ((b != 0))) || (((op == 52)) != (((k : Int) == ((ll.length : Int) - 1))))))]
def rgR28 (op dst a b nr ns : Int) (Ai Ak : Option Addr) (ci ck : Nat) (li : List InputV) (lk : List V) (ll : List InsV) (ok : Bool) (k m : Nat) (f g : Int → Bool) (w wl wz : World) : List Spec := [.is (.bool ok),
  .is (.bool ok),
  .is (bif (true && (ok == true)) then .pointer (some ⟨wl.heap.size, 1, none⟩) else undef),
  .is (bif (true && (ok == true)) then .int .i64 dst else undef),
  .is (bif (true && (ok == true)) then .bool ((dst == 0)) else undef),
  .is (.bool (ok && ((dst == 0)))),
  .is (.bool (ok && ((dst == 0))))]
def rgR30 (op dst a b nr ns : Int) (Ai Ak : Option Addr) (ci ck : Nat) (li : List InputV) (lk : List V) (ll : List InsV) (ok : Bool) (k m : Nat) (f g : Int → Bool) (w wl wz : World) : List Spec := [.is (.bool ok),
  .is (.bool ok),
  .is (bif (true && (ok == true)) then .pointer (some ⟨wl.heap.size, 1, none⟩) else undef),
  .is (bif (true && (ok == true)) then .int .i64 dst else undef),
  .is (bif (true && (ok == true)) then .bool ((dst == 0)) else undef),
  .is (.bool (ok && ((dst == 0)))),
  .is (.bool (ok && ((dst == 0)))),
  .is (bif (true && ((ok && ((dst == 0))) == true)) then .pointer (some ⟨wl.heap.size, 2, none⟩) else undef),
  .is (bif (true && ((ok && ((dst == 0))) == true)) then .int .i64 a else undef),
  .is (bif (true && ((ok && ((dst == 0))) == true)) then .bool (decide (0 ≤ a)) else undef),
  .is (.bool ((ok && ((dst == 0))) && (decide (0 ≤ a)))),
  .is (.bool ((ok && ((dst == 0))) && (decide (0 ≤ a)))),
  .is (bif (true && (((ok && ((dst == 0))) && (decide (0 ≤ a))) == true)) then .pointer (some ⟨wl.heap.size, 2, none⟩) else undef),
  .is (bif (true && (((ok && ((dst == 0))) && (decide (0 ≤ a))) == true)) then .int .i64 a else undef),
  .is (bif (true && (((ok && ((dst == 0))) && (decide (0 ≤ a))) == true)) then .pointer (some ⟨w.heap.size, 1, none⟩) else undef),
  .is (bif (true && (((ok && ((dst == 0))) && (decide (0 ≤ a))) == true)) then .int .i64 ns else undef),
  .is (bif (true && (((ok && ((dst == 0))) && (decide (0 ≤ a))) == true)) then .bool (decide (a < ns)) else undef),
  .is (.bool (((ok && ((dst == 0))) && (decide (0 ≤ a))) && (decide (a < ns)))),
  .is (.bool (((ok && ((dst == 0))) && (decide (0 ≤ a))) && (decide (a < ns)))),
  .is (bif (true && ((((ok && ((dst == 0))) && (decide (0 ≤ a))) && (decide (a < ns))) == true)) then .map (some wz.heap.size) else undef),
  .is (bif (true && ((((ok && ((dst == 0))) && (decide (0 ≤ a))) && (decide (a < ns))) == true)) then .pointer (some ⟨wl.heap.size, 3, none⟩) else undef),
  .is (bif (true && ((((ok && ((dst == 0))) && (decide (0 ≤ a))) && (decide (a < ns))) == true)) then .int .i64 b else undef),
  .is (bif (true && ((((ok && ((dst == 0))) && (decide (0 ≤ a))) && (decide (a < ns))) == true)) then .bool (f b) else undef),
  .is (.bool ((((ok && ((dst == 0))) && (decide (0 ≤ a))) && (decide (a < ns))) && (f b)))]
def rgR33 (op dst a b nr ns : Int) (Ai Ak : Option Addr) (ci ck : Nat) (li : List InputV) (lk : List V) (ll : List InsV) (ok : Bool) (k m : Nat) (f g : Int → Bool) (w wl wz : World) : List Spec := [.is (.bool ok),
  .is (.bool ok),
  .is (bif (true && (ok == true)) then .pointer (some ⟨wl.heap.size, 2, none⟩) else undef),
  .is (bif (true && (ok == true)) then .int .i64 a else undef),
  .is (bif (true && (ok == true)) then .bool (decide (0 ≤ a)) else undef),
  .is (.bool (ok && (decide (0 ≤ a)))),
  .is (.bool (ok && (decide (0 ≤ a)))),
  .is (bif (true && ((ok && (decide (0 ≤ a))) == true)) then .pointer (some ⟨wl.heap.size, 2, none⟩) else undef),
  .is (bif (true && ((ok && (decide (0 ≤ a))) == true)) then .int .i64 a else undef),
  .is (bif (true && ((ok && (decide (0 ≤ a))) == true)) then .pointer (some ⟨w.heap.size, 2, none⟩) else undef),
  .is (bif (true && ((ok && (decide (0 ≤ a))) == true)) then .slice Ai li.length ci else undef),
  .is (bif (true && ((ok && (decide (0 ≤ a))) == true)) then .int .i64 (li.length : Nat) else undef),
  .is (bif (true && ((ok && (decide (0 ≤ a))) == true)) then .bool (decide (a < (li.length : Nat))) else undef),
  .is (.bool ((ok && (decide (0 ≤ a))) && (decide (a < (li.length : Nat)))))]
def rgR35 (op dst a b nr ns : Int) (Ai Ak : Option Addr) (ci ck : Nat) (li : List InputV) (lk : List V) (ll : List InsV) (ok : Bool) (k m : Nat) (f g : Int → Bool) (w wl wz : World) : List Spec := [.is (.bool ok),
  .is (.bool ok),
  .is (bif (true && (ok == true)) then .pointer (some ⟨wl.heap.size, 2, none⟩) else undef),
  .is (bif (true && (ok == true)) then .int .i64 a else undef),
  .is (bif (true && (ok == true)) then .bool (decide (0 ≤ a)) else undef),
  .is (.bool (ok && (decide (0 ≤ a)))),
  .is (.bool (ok && (decide (0 ≤ a)))),
  .is (bif (true && ((ok && (decide (0 ≤ a))) == true)) then .pointer (some ⟨wl.heap.size, 2, none⟩) else undef),
  .is (bif (true && ((ok && (decide (0 ≤ a))) == true)) then .int .i64 a else undef),
  .is (bif (true && ((ok && (decide (0 ≤ a))) == true)) then .pointer (some ⟨w.heap.size, 3, none⟩) else undef),
  .is (bif (true && ((ok && (decide (0 ≤ a))) == true)) then .slice Ak lk.length ck else undef),
  .is (bif (true && ((ok && (decide (0 ≤ a))) == true)) then .int .i64 (lk.length : Nat) else undef),
  .is (bif (true && ((ok && (decide (0 ≤ a))) == true)) then .bool (decide (a < (lk.length : Nat))) else undef),
  .is (.bool ((ok && (decide (0 ≤ a))) && (decide (a < (lk.length : Nat)))))]
def rgR37 (op dst a b nr ns : Int) (Ai Ak : Option Addr) (ci ck : Nat) (li : List InputV) (lk : List V) (ll : List InsV) (ok : Bool) (k m : Nat) (f g : Int → Bool) (w wl wz : World) : List Spec := [.is (.bool ok),
  .is (.bool ok),
  .is (bif (true && (ok == true)) then .map (some (wz.heap.size + 1)) else undef),
  .is (bif (true && (ok == true)) then .pointer (some ⟨wl.heap.size, 2, none⟩) else undef),
  .is (bif (true && (ok == true)) then .int .i64 a else undef),
  .is (bif (true && (ok == true)) then .bool (g a) else undef),
  .is (.bool (ok && (g a)))]
def rgR26 (op dst a b nr ns : Int) (Ai Ak : Option Addr) (ci ck : Nat) (li : List InputV) (lk : List V) (ll : List InsV) (ok : Bool) (k m : Nat) (f g : Int → Bool) (w wl wz : World) : List Spec := [.is (.bool ok),
  .is (.bool ok),
  .is (bif (true && (ok == true)) then .int .i64 (m : Nat) else undef),
  .is (bif (true && (ok == true)) then .bool (decide (0 < (m : Nat))) else undef),
  .is (.bool (ok && (decide (0 < (m : Nat)))))]
def rgR38 (op dst a b nr ns : Int) (Ai Ak : Option Addr) (ci ck : Nat) (li : List InputV) (lk : List V) (ll : List InsV) (ok : Bool) (k m : Nat) (f g : Int → Bool) (w wl wz : World) : List Spec := [.is (.bool ok),
  .is (.bool ok),
  .is (bif (true && (ok == true)) then .pointer (some ⟨wl.heap.size, 1, none⟩) else undef),
  .is (bif (true && (ok == true)) then .int .i64 dst else undef),
  .is (bif (true && (ok == true)) then .bool (decide (0 ≤ dst)) else undef),
  .is (.bool (ok && (decide (0 ≤ dst)))),
  .is (.bool (ok && (decide (0 ≤ dst)))),
  .is (bif (true && ((ok && (decide (0 ≤ dst))) == true)) then .pointer (some ⟨wl.heap.size, 1, none⟩) else undef),
  .is (bif (true && ((ok && (decide (0 ≤ dst))) == true)) then .int .i64 dst else undef),
  .is (bif (true && ((ok && (decide (0 ≤ dst))) == true)) then .pointer (some ⟨w.heap.size, 0, none⟩) else undef),
  .is (bif (true && ((ok && (decide (0 ≤ dst))) == true)) then .int .i64 nr else undef),
  .is (bif (true && ((ok && (decide (0 ≤ dst))) == true)) then .bool (decide (dst < nr)) else undef),
  .is (.bool ((ok && (decide (0 ≤ dst))) && (decide (dst < nr))))]
def rgR11 (xk : Int) (xb : Nat) (Y : V) (nb : Bool) (wl : World) : List Spec := [.is (.bool true),
  .is (.bool true),
  .is (.agg #[.int .i64 xk, .int .u64 xb]),
  .is (.agg #[.int .i64 Y.k, .int .u64 Y.b]),
  .is (.agg #[.int .i64 xk, .int .u64 xb]),
  .is (.bool nb),
  .is (.bool nb)]

def okC (nr ns : Int) (ll : List InsV) : Bool := ((((((decide (1 ≤ nr)) && (decide (nr ≤ 1024))) && (decide (0 ≤ ns))) && (decide (ns ≤ 256))) && (decide (1 ≤ (ll.length : Nat)))) && (decide ((ll.length : Nat) ≤ 1024)))
theorem bad_ok (nr ns : Int) (ll : List InsV) : okC nr ns ll = !(badC nr ns ll) := by
  unfold okC badC
  rw [Bool.eq_iff_iff]
  simp only [Bool.and_eq_true, decide_eq_true_eq, Bool.not_eq_true', Bool.or_eq_false_iff, decide_eq_false_iff_not]
  omega
theorem reads_any (x : InsV) (w : World) : Calls Try.prog 29 #[.agg #[.int .i64 x.op, .int .i64 x.dst, .int .i64 x.a, .int .i64 x.b]] w fun e w' => ∃ (q c : Nat), e = .returned (.slice (some ⟨q, 0, none⟩) (readsL x).length c) ∧
    (∀ (j : Nat) (h : j < (readsL x).length), w'.cell? ⟨q, 0 + j, none⟩ = some (.int .i64 (readsL x)[j])) ∧ q < w'.heap.size ∧ (readsL x).length ≤ c ∧ Below w.heap.size w w' := by
  obtain ⟨op, dst, a, b⟩ := x
  by_cases h52 : op = 52
  · subst h52
    refine (reads_tell dst a b w).mono fun e w' ⟨q, he, hk, hb⟩ => ⟨q, 1, he, fun j hj => ?_, hk.lt, Nat.le_refl _, hb⟩
    have hj : j < 1 := hj
    obtain rfl : j = 0 := by omega
    exact hk.cell 0
  · have hr : readsL ⟨op, dst, a, b⟩ = [a, b].take (opnd op) := if_neg h52
    have hm2 : opnd op ≤ 2 := by unfold opnd; split <;> (try split) <;> omega
    have hl : (readsL ⟨op, dst, a, b⟩).length = opnd op := by rw [hr]; simp; omega
    refine (reads_ops op dst a b h52 (opnd op) rfl w).mono fun e w' ⟨q, he, hk, hb⟩ => ⟨q, 2, by rw [hl]; exact he, fun j hj => ?_, hk.lt, by omega, hb⟩
    have hj2 : j < 2 := by omega
    have e1 : (readsL ⟨op, dst, a, b⟩)[j] = [a, b][j]'(by simpa using hj2) := by simp [hr]
    rw [e1, Nat.zero_add, hk.cell j]
    match j, hj2 with
    | 0, _ => rfl
    | 1, _ => rfl
theorem eql_RR (a c : Int) (b d : Nat) (w : World) : (binOp .eql 33 (.agg #[.int .i64 a, .int .u64 b]) (.agg #[.int .i64 c, .int .u64 d])).run Try.prog w = .ok (.bool ((a == c) && (b == d))) w := by
  have h1 : Try.prog.stoodInHeld 33 = false := by kernel_rfl
  have e : ((b : Int) == (d : Int)) = (b == d) := by
    rw [Bool.eq_iff_iff]
    simp only [beq_iff_eq]
    omega
  rw [← e]
  generalize (b : Int) = b'
  generalize (d : Int) = d'
  by_cases h : a = c <;> by_cases h2 : b' = d' <;> simp [go_sem, h, h2, h1]

set_option maxRecDepth 100000 in
set_option maxHeartbeats 8000000 in
theorem rgood_any (cd : CodeV) (w : World) (h : cd.ok w w.heap.size) (hll : cd.ll.length ≤ 3000) :
    Calls Try.prog 13 #[cd.val] w fun e w' => e = .returned (.bool (goodV cd)) ∧ Below w.heap.size w w' := by
  obtain ⟨nr, ns, Ai, ci, li, Ak, ck, lk, Al, cl, ll⟩ := cd
  obtain ⟨ri, rk, rl, ni, nk, nl, fi, fk, fl, fr, fs⟩ := h
  simp only at ri rk rl ni nk nl fi fk fl fr fs hll
  generalize hR : goodV ⟨nr, ns, Ai, ci, li, Ak, ck, lk, Al, cl, ll⟩ = R
  unfold goodV at hR
  simp only at hR
  rw [← refL_good, ← bad_ok] at hR
  have hR : (okC nr ns ll && (li.all inB && (lk.all cleanB && refL nr ns li.length lk.length ll (fun _ => false) (fun _ => false)))) = R := hR
  unfold CodeV.val
  have kc := Bk.new w 26 #[.int .i64 nr, .int .i64 ns, .slice Ai li.length ci, .slice Ak lk.length ck, .slice Al ll.length cl]
  have hbe : Below w.heap.size w (w.alloc (.cells #[.int .i64 nr, .int .i64 ns, .slice Ai li.length ci, .slice Ak lk.length ck, .slice Al ll.length cl] 26)) := (Below.refl _ _).alloc (Nat.le_refl _) _
  have c0 := kc.cell 0
  have c1 := kc.cell 1
  have c4 := kc.cell 4
  have HC := Lib.hid kc
  have HB := Lib.hid hbe
  have HR := Lib.hid hR
  have hmm := @run_makeMap Try.prog
  clear fr fs hR kc hbe
  go_enter Try.func13, Try.ntmps13
  go_upto_region 2 with fail
  refine wp_region_s (fun qk => (rgR2 nr ns ll w).getD qk .any) (by kernel_rfl) ?_ ?_
  · refine BOk.cons rfl [] [1] rfl rfl (by kernel_rfl) (by kernel_rfl) (fun qK qa wr hB qO qF hK => ?_) ?_
    · have e1 : qa.tmps[1]? = some (.pointer (some ⟨w.heap.size, 0, none⟩)) := qO.1.trans rfl
      clear qO qF
      go_simp
      exact hK _ _ (Below.refl _ _) rfl
    refine BOk.cons rfl [0] [] rfl rfl (by kernel_rfl) (by kernel_rfl) (fun qK qa wr hB qO qF hK => ?_) ?_
    · have e19 : qa.tmps[19]? = some (.pointer (some ⟨w.heap.size, 0, none⟩)) := fis qF.1 rfl rfl
      clear qO qF
      have hc0 := (bcell hB _ _ (World.block_lt_of_cell? _ _ c0)).trans c0
      go_simp
      exact hK _ _ (Below.refl _ _) rfl
    refine BOk.cons rfl [1] [] rfl rfl (by kernel_rfl) (by kernel_rfl) (fun qK qa wr hB qO qF hK => ?_) ?_
    · have e20 : qa.tmps[20]? = some (.int .i64 nr) := fis qF.1 rfl rfl
      clear qO qF
      go_simp
      refine hK _ _ (Below.refl _ _) ?_
      show (_ : Value) = _
      first | rfl | (simp; done) | (simp; omega) | (congr 1; simp; done) | (congr 1; rw [decide_eq_decide]; omega)
    refine BOk.cons rfl [2] [] rfl rfl (by kernel_rfl) (by kernel_rfl) (fun qK qa wr hB qO qF hK => ?_) ?_
    · have e21 : qa.tmps[21]? = some (.bool (decide (1 ≤ nr))) := fis qF.1 rfl rfl
      clear qO qF
      go_simp
      exact hK _ _ (Below.refl _ _) (by first | rfl | (show (_ : Value) = _; simp_all; done))
    refine BOk.optT rfl [] [1] rfl 3 true rfl rfl rfl rfl (by kernel_rfl) (by kernel_rfl) (by kernel_rfl) (fun hp hc hP qK qa wr hB qO qF hK => ?_) ?_
    · have e1 : qa.tmps[1]? = some (.pointer (some ⟨w.heap.size, 0, none⟩)) := qO.1.trans rfl
      clear qO qF
      go_simp
      exact hK _ _ (Below.refl _ _) rfl
    refine BOk.optT rfl [4] [] rfl 3 true rfl rfl rfl rfl (by kernel_rfl) (by kernel_rfl) (by kernel_rfl) (fun hp hc hP qK qa wr hB qO qF hK => ?_) ?_
    · have e23 : qa.tmps[23]? = some (.pointer (some ⟨w.heap.size, 0, none⟩)) := fif qF.1 rfl hP rfl
      clear qO qF
      have hc0 := (bcell hB _ _ (World.block_lt_of_cell? _ _ c0)).trans c0
      go_simp
      exact hK _ _ (Below.refl _ _) rfl
    refine BOk.optT rfl [5] [] rfl 3 true rfl rfl rfl rfl (by kernel_rfl) (by kernel_rfl) (by kernel_rfl) (fun hp hc hP qK qa wr hB qO qF hK => ?_) ?_
    · have e24 : qa.tmps[24]? = some (.int .i64 nr) := fif qF.1 rfl hP rfl
      clear qO qF
      go_simp
      refine hK _ _ (Below.refl _ _) ?_
      show (_ : Value) = _
      first | rfl | (simp; done) | (simp; omega) | (congr 1; simp; done) | (congr 1; rw [decide_eq_decide]; omega)
    refine BOk.cons rfl [3, 6] [] rfl rfl (by kernel_rfl) (by kernel_rfl) (fun qK qa wr hB qO qF hK => ?_) ?_
    · have e22 : qa.tmps[22]? = some (.bool (decide (1 ≤ nr))) := fis qF.1 rfl rfl
      obtain ⟨u25, e25, r6⟩ := qF.2.1
      have r6 : u25 = (bif (true && ((decide (1 ≤ nr)) == true)) then .bool (decide (nr ≤ 1024)) else undef) := r6
      clear qO qF
      rcases (Bool.eq_false_or_eq_true ((decide (1 ≤ nr)))).symm with hcc | hcc
      · rw [hcc] at e22
        go_simp
        exact hK _ _ (Below.refl _ _) (by show (_ : Value) = _; first | (rw [hcc]; first | rfl | (simp; done)) | (simp_all; done))
      · rw [hcc] at e22
        have e25 : qa.tmps[25]? = some (.bool ((decide (nr ≤ 1024)))) := (show u25 = .bool ((decide (nr ≤ 1024))) from r6.trans (by (first | rw [hcc] | skip); first | rfl | (rw [hP]; rfl))) ▸ e25
        go_simp
        exact hK _ _ (Below.refl _ _) (by show (_ : Value) = _; first | (rw [hcc]; first | rfl | (simp; done)) | (simp_all; done))
    refine BOk.cons rfl [7] [] rfl rfl (by kernel_rfl) (by kernel_rfl) (fun qK qa wr hB qO qF hK => ?_) ?_
    · have e26 : qa.tmps[26]? = some (.bool ((decide (1 ≤ nr)) && (decide (nr ≤ 1024)))) := fis qF.1 rfl rfl
      clear qO qF
      go_simp
      exact hK _ _ (Below.refl _ _) (by first | rfl | (show (_ : Value) = _; simp_all; done))
    refine BOk.optT rfl [] [1] rfl 8 true rfl rfl rfl rfl (by kernel_rfl) (by kernel_rfl) (by kernel_rfl) (fun hp hc hP qK qa wr hB qO qF hK => ?_) ?_
    · have e1 : qa.tmps[1]? = some (.pointer (some ⟨w.heap.size, 0, none⟩)) := qO.1.trans rfl
      clear qO qF
      go_simp
      exact hK _ _ (Below.refl _ _) rfl
    refine BOk.optT rfl [9] [] rfl 8 true rfl rfl rfl rfl (by kernel_rfl) (by kernel_rfl) (by kernel_rfl) (fun hp hc hP qK qa wr hB qO qF hK => ?_) ?_
    · have e28 : qa.tmps[28]? = some (.pointer (some ⟨w.heap.size, 1, none⟩)) := fif qF.1 rfl hP rfl
      clear qO qF
      have hc1 := (bcell hB _ _ (World.block_lt_of_cell? _ _ c1)).trans c1
      go_simp
      exact hK _ _ (Below.refl _ _) rfl
    refine BOk.optT rfl [10] [] rfl 8 true rfl rfl rfl rfl (by kernel_rfl) (by kernel_rfl) (by kernel_rfl) (fun hp hc hP qK qa wr hB qO qF hK => ?_) ?_
    · have e29 : qa.tmps[29]? = some (.int .i64 ns) := fif qF.1 rfl hP rfl
      clear qO qF
      go_simp
      refine hK _ _ (Below.refl _ _) ?_
      show (_ : Value) = _
      first | rfl | (simp; done) | (simp; omega) | (congr 1; simp; done) | (congr 1; rw [decide_eq_decide]; omega)
    refine BOk.cons rfl [8, 11] [] rfl rfl (by kernel_rfl) (by kernel_rfl) (fun qK qa wr hB qO qF hK => ?_) ?_
    · have e27 : qa.tmps[27]? = some (.bool ((decide (1 ≤ nr)) && (decide (nr ≤ 1024)))) := fis qF.1 rfl rfl
      obtain ⟨u30, e30, r11⟩ := qF.2.1
      have r11 : u30 = (bif (true && (((decide (1 ≤ nr)) && (decide (nr ≤ 1024))) == true)) then .bool (decide (0 ≤ ns)) else undef) := r11
      clear qO qF
      rcases (Bool.eq_false_or_eq_true (((decide (1 ≤ nr)) && (decide (nr ≤ 1024))))).symm with hcc | hcc
      · rw [hcc] at e27
        go_simp
        exact hK _ _ (Below.refl _ _) (by show (_ : Value) = _; first | (rw [hcc]; first | rfl | (simp; done)) | (simp_all; done))
      · rw [hcc] at e27
        have e30 : qa.tmps[30]? = some (.bool ((decide (0 ≤ ns)))) := (show u30 = .bool ((decide (0 ≤ ns))) from r11.trans (by (first | rw [hcc] | skip); first | rfl | (rw [hP]; rfl))) ▸ e30
        go_simp
        exact hK _ _ (Below.refl _ _) (by show (_ : Value) = _; first | (rw [hcc]; first | rfl | (simp; done)) | (simp_all; done))
    refine BOk.cons rfl [12] [] rfl rfl (by kernel_rfl) (by kernel_rfl) (fun qK qa wr hB qO qF hK => ?_) ?_
    · have e31 : qa.tmps[31]? = some (.bool (((decide (1 ≤ nr)) && (decide (nr ≤ 1024))) && (decide (0 ≤ ns)))) := fis qF.1 rfl rfl
      clear qO qF
      go_simp
      exact hK _ _ (Below.refl _ _) (by first | rfl | (show (_ : Value) = _; simp_all; done))
    refine BOk.optT rfl [] [1] rfl 13 true rfl rfl rfl rfl (by kernel_rfl) (by kernel_rfl) (by kernel_rfl) (fun hp hc hP qK qa wr hB qO qF hK => ?_) ?_
    · have e1 : qa.tmps[1]? = some (.pointer (some ⟨w.heap.size, 0, none⟩)) := qO.1.trans rfl
      clear qO qF
      go_simp
      exact hK _ _ (Below.refl _ _) rfl
    refine BOk.optT rfl [14] [] rfl 13 true rfl rfl rfl rfl (by kernel_rfl) (by kernel_rfl) (by kernel_rfl) (fun hp hc hP qK qa wr hB qO qF hK => ?_) ?_
    · have e33 : qa.tmps[33]? = some (.pointer (some ⟨w.heap.size, 1, none⟩)) := fif qF.1 rfl hP rfl
      clear qO qF
      have hc1 := (bcell hB _ _ (World.block_lt_of_cell? _ _ c1)).trans c1
      go_simp
      exact hK _ _ (Below.refl _ _) rfl
    refine BOk.optT rfl [15] [] rfl 13 true rfl rfl rfl rfl (by kernel_rfl) (by kernel_rfl) (by kernel_rfl) (fun hp hc hP qK qa wr hB qO qF hK => ?_) ?_
    · have e34 : qa.tmps[34]? = some (.int .i64 ns) := fif qF.1 rfl hP rfl
      clear qO qF
      go_simp
      refine hK _ _ (Below.refl _ _) ?_
      show (_ : Value) = _
      first | rfl | (simp; done) | (simp; omega) | (congr 1; simp; done) | (congr 1; rw [decide_eq_decide]; omega)
    refine BOk.cons rfl [13, 16] [] rfl rfl (by kernel_rfl) (by kernel_rfl) (fun qK qa wr hB qO qF hK => ?_) ?_
    · have e32 : qa.tmps[32]? = some (.bool (((decide (1 ≤ nr)) && (decide (nr ≤ 1024))) && (decide (0 ≤ ns)))) := fis qF.1 rfl rfl
      obtain ⟨u35, e35, r16⟩ := qF.2.1
      have r16 : u35 = (bif (true && ((((decide (1 ≤ nr)) && (decide (nr ≤ 1024))) && (decide (0 ≤ ns))) == true)) then .bool (decide (ns ≤ 256)) else undef) := r16
      clear qO qF
      rcases (Bool.eq_false_or_eq_true ((((decide (1 ≤ nr)) && (decide (nr ≤ 1024))) && (decide (0 ≤ ns))))).symm with hcc | hcc
      · rw [hcc] at e32
        go_simp
        exact hK _ _ (Below.refl _ _) (by show (_ : Value) = _; first | (rw [hcc]; first | rfl | (simp; done)) | (simp_all; done))
      · rw [hcc] at e32
        have e35 : qa.tmps[35]? = some (.bool ((decide (ns ≤ 256)))) := (show u35 = .bool ((decide (ns ≤ 256))) from r16.trans (by (first | rw [hcc] | skip); first | rfl | (rw [hP]; rfl))) ▸ e35
        go_simp
        exact hK _ _ (Below.refl _ _) (by show (_ : Value) = _; first | (rw [hcc]; first | rfl | (simp; done)) | (simp_all; done))
    refine BOk.cons rfl [17] [] rfl rfl (by kernel_rfl) (by kernel_rfl) (fun qK qa wr hB qO qF hK => ?_) ?_
    · have e36 : qa.tmps[36]? = some (.bool ((((decide (1 ≤ nr)) && (decide (nr ≤ 1024))) && (decide (0 ≤ ns))) && (decide (ns ≤ 256)))) := fis qF.1 rfl rfl
      clear qO qF
      go_simp
      exact hK _ _ (Below.refl _ _) (by first | rfl | (show (_ : Value) = _; simp_all; done))
    refine BOk.optT rfl [] [3] rfl 18 true rfl rfl rfl rfl (by kernel_rfl) (by kernel_rfl) (by kernel_rfl) (fun hp hc hP qK qa wr hB qO qF hK => ?_) ?_
    · have e3 : qa.tmps[3]? = some (.int .i64 (ll.length : Nat)) := qO.1.trans rfl
      clear qO qF
      go_simp
      exact hK _ _ (Below.refl _ _) rfl
    refine BOk.optT rfl [19] [] rfl 18 true rfl rfl rfl rfl (by kernel_rfl) (by kernel_rfl) (by kernel_rfl) (fun hp hc hP qK qa wr hB qO qF hK => ?_) ?_
    · have e38 : qa.tmps[38]? = some (.int .i64 (ll.length : Nat)) := fif qF.1 rfl hP rfl
      clear qO qF
      go_simp
      refine hK _ _ (Below.refl _ _) ?_
      show (_ : Value) = _
      first | rfl | (simp; done) | (simp; omega) | (congr 1; simp; done) | (congr 1; rw [decide_eq_decide]; omega)
    refine BOk.cons rfl [18, 20] [] rfl rfl (by kernel_rfl) (by kernel_rfl) (fun qK qa wr hB qO qF hK => ?_) ?_
    · have e37 : qa.tmps[37]? = some (.bool ((((decide (1 ≤ nr)) && (decide (nr ≤ 1024))) && (decide (0 ≤ ns))) && (decide (ns ≤ 256)))) := fis qF.1 rfl rfl
      obtain ⟨u39, e39, r20⟩ := qF.2.1
      have r20 : u39 = (bif (true && (((((decide (1 ≤ nr)) && (decide (nr ≤ 1024))) && (decide (0 ≤ ns))) && (decide (ns ≤ 256))) == true)) then .bool (decide (1 ≤ (ll.length : Nat))) else undef) := r20
      clear qO qF
      rcases (Bool.eq_false_or_eq_true (((((decide (1 ≤ nr)) && (decide (nr ≤ 1024))) && (decide (0 ≤ ns))) && (decide (ns ≤ 256))))).symm with hcc | hcc
      · rw [hcc] at e37
        go_simp
        exact hK _ _ (Below.refl _ _) (by show (_ : Value) = _; first | (rw [hcc]; first | rfl | (simp; done)) | (simp_all; done))
      · rw [hcc] at e37
        have e39 : qa.tmps[39]? = some (.bool ((decide (1 ≤ (ll.length : Nat))))) := (show u39 = .bool ((decide (1 ≤ (ll.length : Nat)))) from r20.trans (by (first | rw [hcc] | skip); first | rfl | (rw [hP]; rfl))) ▸ e39
        go_simp
        exact hK _ _ (Below.refl _ _) (by show (_ : Value) = _; first | (rw [hcc]; first | rfl | (simp; done)) | (simp_all; done))
    refine BOk.cons rfl [21] [] rfl rfl (by kernel_rfl) (by kernel_rfl) (fun qK qa wr hB qO qF hK => ?_) ?_
    · have e40 : qa.tmps[40]? = some (.bool (((((decide (1 ≤ nr)) && (decide (nr ≤ 1024))) && (decide (0 ≤ ns))) && (decide (ns ≤ 256))) && (decide (1 ≤ (ll.length : Nat))))) := fis qF.1 rfl rfl
      clear qO qF
      go_simp
      exact hK _ _ (Below.refl _ _) (by first | rfl | (show (_ : Value) = _; simp_all; done))
    refine BOk.optT rfl [] [3] rfl 22 true rfl rfl rfl rfl (by kernel_rfl) (by kernel_rfl) (by kernel_rfl) (fun hp hc hP qK qa wr hB qO qF hK => ?_) ?_
    · have e3 : qa.tmps[3]? = some (.int .i64 (ll.length : Nat)) := qO.1.trans rfl
      clear qO qF
      go_simp
      exact hK _ _ (Below.refl _ _) rfl
    refine BOk.optT rfl [23] [] rfl 22 true rfl rfl rfl rfl (by kernel_rfl) (by kernel_rfl) (by kernel_rfl) (fun hp hc hP qK qa wr hB qO qF hK => ?_) ?_
    · have e42 : qa.tmps[42]? = some (.int .i64 (ll.length : Nat)) := fif qF.1 rfl hP rfl
      clear qO qF
      go_simp
      refine hK _ _ (Below.refl _ _) ?_
      show (_ : Value) = _
      first | rfl | (simp; done) | (simp; omega) | (congr 1; simp; done) | (congr 1; rw [decide_eq_decide]; omega)
    refine BOk.cons rfl [22, 24] [] rfl rfl (by kernel_rfl) (by kernel_rfl) (fun qK qa wr hB qO qF hK => ?_) ?_
    · have e41 : qa.tmps[41]? = some (.bool (((((decide (1 ≤ nr)) && (decide (nr ≤ 1024))) && (decide (0 ≤ ns))) && (decide (ns ≤ 256))) && (decide (1 ≤ (ll.length : Nat))))) := fis qF.1 rfl rfl
      obtain ⟨u43, e43, r24⟩ := qF.2.1
      have r24 : u43 = (bif (true && ((((((decide (1 ≤ nr)) && (decide (nr ≤ 1024))) && (decide (0 ≤ ns))) && (decide (ns ≤ 256))) && (decide (1 ≤ (ll.length : Nat)))) == true)) then .bool (decide ((ll.length : Nat) ≤ 1024)) else undef) := r24
      clear qO qF
      rcases (Bool.eq_false_or_eq_true ((((((decide (1 ≤ nr)) && (decide (nr ≤ 1024))) && (decide (0 ≤ ns))) && (decide (ns ≤ 256))) && (decide (1 ≤ (ll.length : Nat)))))).symm with hcc | hcc
      · rw [hcc] at e41
        go_simp
        exact hK _ _ (Below.refl _ _) (by show (_ : Value) = _; first | (rw [hcc]; first | rfl | (simp; done)) | (simp_all; done))
      · rw [hcc] at e41
        have e43 : qa.tmps[43]? = some (.bool ((decide ((ll.length : Nat) ≤ 1024)))) := (show u43 = .bool ((decide ((ll.length : Nat) ≤ 1024))) from r24.trans (by (first | rw [hcc] | skip); first | rfl | (rw [hP]; rfl))) ▸ e43
        go_simp
        exact hK _ _ (Below.refl _ _) (by show (_ : Value) = _; first | (rw [hcc]; first | rfl | (simp; done)) | (simp_all; done))
    refine BOk.cons rfl [25] [] rfl rfl (by kernel_rfl) (by kernel_rfl) (fun qK qa wr hB qO qF hK => ?_) ?_
    · have e44 : qa.tmps[44]? = some (.bool ((((((decide (1 ≤ nr)) && (decide (nr ≤ 1024))) && (decide (0 ≤ ns))) && (decide (ns ≤ 256))) && (decide (1 ≤ (ll.length : Nat)))) && (decide ((ll.length : Nat) ≤ 1024)))) := fis qF.1 rfl rfl
      clear qO qF
      go_simp
      exact hK _ _ (Below.refl _ _) (by first | rfl | (show (_ : Value) = _; simp_all; done))
    exact BOk.nil
  intro vals wr hl hB hR
  match vals, hl with
  | [z19, z20, z21, z22, z23, z24, z25, z26, z27, z28, z29, z30, z31, z32, z33, z34, z35, z36, z37, z38, z39, z40, z41, z42, z43, z44, z4], _ =>
  have r26 : z4 = .bool ((((((decide (1 ≤ nr)) && (decide (nr ≤ 1024))) && (decide (0 ≤ ns))) && (decide (ns ≤ 256))) && (decide (1 ≤ (ll.length : Nat)))) && (decide ((ll.length : Nat) ≤ 1024))) := hR 26 _ rfl
  subst r26
  clear hR
  simp only [List.cons_append, List.nil_append, putAll, Act.put, List.setIfInBounds_toArray, List.set_cons_zero, List.set_cons_succ]
  replace HC := Lib.hid (HC.out.old hB)
  replace HB := Lib.hid (HB.out.trans (hB.mono HB.out.size))
  clear c0 c1 c4 hB
  have hok : ((((((decide (1 ≤ nr)) && (decide (nr ≤ 1024))) && (decide (0 ≤ ns))) && (decide (ns ≤ 256))) && (decide (1 ≤ (ll.length : Nat)))) && (decide ((ll.length : Nat) ≤ 1024))) = okC nr ns ll := rfl
  rw [hok]
  clear hok
  obtain ⟨ok0, hok0⟩ : ∃ o, okC nr ns ll = o := ⟨_, rfl⟩
  rw [hok0]
  have hR := HR.out
  rw [hok0] at hR
  replace HR := Lib.hid hR
  clear hok0 hR
  have c2 := HC.out.cell 2
  go_wp2_with fail
  clear c2
  go_loopw [4, 48] (fun t i wr => ∃ (k : Nat) (ok : Bool), k ≤ li.length ∧ i = .int .i64 k ∧ t = .bool ok ∧ Below w.heap.size w wr ∧ Bk wr w.heap.size 26 #[.int .i64 nr, .int .i64 ns, .slice Ai li.length ci, .slice Ak lk.length ck, .slice Al ll.length cl] ∧ Hid ((ok && ((li.drop k).all inB && (lk.all cleanB && refL nr ns li.length lk.length ll (fun _ => false) (fun _ => false)))) = R)) (fun _ i _ => li.length - (intOf i).toNat)
  case atStart => exact ⟨0, ok0, Nat.zero_le _, rfl, rfl, HB.out, HC.out, HR⟩
  case round =>
    clear HB HC HR
    obtain ⟨k, ok, hk, rfl, rfl, hbe, kc, hR⟩ := hrel
    by_cases hlt : k < li.length
    · as_aux_lemma =>
      obtain ⟨bb, oo, rfl, hb, hc⟩ := (ri.below hbe).elem (f := InputV.cells) (n := 4) (fun _ => rfl) (by omega) hlt
      have hR := hR.out
      rw [List.drop_eq_getElem_cons hlt, List.all_cons] at hR
      generalize li[k] = x at *
      have hc0 : wr.cell? ⟨bb, oo + k * 4, none⟩ = some (.int .i64 x.op) := hc 0 _ rfl
      have hc1 : wr.cell? ⟨bb, oo + k * 4 + 1, none⟩ = some (.int .i64 x.kind) := hc 1 _ rfl
      have hc2 : wr.cell? ⟨bb, oo + k * 4 + 2, none⟩ = some (.int .i64 x.pos) := hc 2 _ rfl
      have hc3 : wr.cell? ⟨bb, oo + k * 4 + 3, none⟩ = some (.int .i64 x.attr) := hc 3 _ rfl
      have hsz := hbe.size
      have HC := Lib.hid (kc.alloc (.cells #[.int .i64 x.op, .int .i64 x.kind, .int .i64 x.pos, .int .i64 x.attr] 39))
      have HB := Lib.hid (hbe.alloc hbe.size (.cells #[.int .i64 x.op, .int .i64 x.kind, .int .i64 x.pos, .int .i64 x.attr] 39))
      have HR := Lib.hid hR
      clear hc kc hbe hR
      cases ok
      · have hR : (false && ((li.drop (k + 1)).all inB && (lk.all cleanB && refL nr ns li.length lk.length ll (fun _ => false) (fun _ => false)))) = R := by rw [← HR.out]; rfl
        have HR := Lib.hid hR
        clear hR
        go_wp2_with fail
        go_roundw
        case rel => exact ⟨k + 1, false, by omega, by go_num, rfl, HB.out, HC.out, HR⟩
        case measure => simp [intOf]; omega
      · have hR : (inB x && ((li.drop (k + 1)).all inB && (lk.all cleanB && refL nr ns li.length lk.length ll (fun _ => false) (fun _ => false)))) = R := by rw [← HR.out, Bool.true_and, Bool.and_assoc]
        replace HR := Lib.hid hR
        clear hR
        go_wp2_with fail
        refine (rin_any x _).mono ?_
        rintro e w3 ⟨rfl, hb3⟩
        replace HC := Lib.hid (HC.out.old hb3)
        replace HB := Lib.hid (HB.out.trans (hb3.mono HB.out.size))
        clear hb3
        generalize inB x = ok2 at *
        go_wp2_with fail
        go_roundw
        case rel => exact ⟨k + 1, ok2, by omega, by go_num, rfl, HB.out, HC.out, HR⟩
        case measure => simp [intOf]; omega
    · obtain rfl : k = li.length := by omega
      have hR := hR.out
      rw [List.drop_length] at hR
      have hR : (ok && (lk.all cleanB && refL nr ns li.length lk.length ll (fun _ => false) (fun _ => false))) = R := hR
      have HR := Lib.hid hR
      have HC := Lib.hid kc
      have HB := Lib.hid hbe
      have c3 := kc.cell 3
      clear hR kc hbe
      go_wp2_with fail
      clear c3
      go_loopw [4, 61] (fun t i wr => ∃ (k : Nat) (ok : Bool), k ≤ lk.length ∧ i = .int .i64 k ∧ t = .bool ok ∧ Below w.heap.size w wr ∧ Bk wr w.heap.size 26 #[.int .i64 nr, .int .i64 ns, .slice Ai li.length ci, .slice Ak lk.length ck, .slice Al ll.length cl] ∧ Hid ((ok && ((lk.drop k).all cleanB && refL nr ns li.length lk.length ll (fun _ => false) (fun _ => false))) = R)) (fun _ i _ => lk.length - (intOf i).toNat)
      case atStart => exact ⟨0, ok, Nat.zero_le _, rfl, rfl, HB.out, HC.out, HR⟩
      case round =>
        clear HB HC HR
        obtain ⟨k, ok, hk, rfl, rfl, hbe, kc, hR⟩ := hrel
        rename World => wl
        by_cases hlt : k < lk.length
        · as_aux_lemma =>
          obtain ⟨bb, oo, rfl, hb, hc⟩ := (rk.below hbe).elem (f := V.cells) (n := 2) (fun _ => rfl) (by omega) hlt
          have hfx := fk lk[k] (by simp)
          have hR := hR.out
          rw [List.drop_eq_getElem_cons hlt, List.all_cons] at hR
          generalize lk[k] = x at *
          obtain ⟨xk, xb⟩ := x
          have hc0 : wl.cell? ⟨bb, oo + k * 2, none⟩ = some (.int .i64 xk) := hc 0 _ rfl
          have hc1 : wl.cell? ⟨bb, oo + k * 2 + 1, none⟩ = some (.int .u64 xb) := hc 1 _ rfl
          have hsz := hbe.size
          have kx := Bk.new wl 31 #[.int .i64 xk, .int .u64 xb]
          have HC := Lib.hid (kc.alloc (.cells #[.int .i64 xk, .int .u64 xb] 31))
          have HB := Lib.hid (hbe.alloc hbe.size (.cells #[.int .i64 xk, .int .u64 xb] 31))
          cases ok
          · have hR : (false && ((lk.drop (k + 1)).all cleanB && refL nr ns li.length lk.length ll (fun _ => false) (fun _ => false))) = R := by rw [← hR]; rfl
            have HR := Lib.hid hR
            clear hc kc hbe hR kx
            go_wp2_with fail
            go_region
            go_wp2_with fail
            go_roundw
            case rel => exact ⟨k + 1, false, by omega, by go_num, rfl, Below.drew HB.out, HC.out, HR⟩
            case measure => simp [intOf]; omega
          · obtain ⟨Y, hY⟩ : ∃ Y, clean ⟨xk, xb⟩ = Y := ⟨_, rfl⟩
            have hy : ∀ w' : World, Calls Try.prog 17 #[.agg #[.int .i64 xk, .int .u64 xb]] w' fun e w2 => e = .returned (.agg #[.int .i64 Y.k, .int .u64 Y.b]) ∧ Below w'.heap.size w' w2 := fun w' => by
              have := rclean_any ⟨xk, xb⟩ hfx w'
              rw [hY] at this
              exact this
            obtain ⟨nb, hnb⟩ : ∃ nb, ((Y.k == xk) && (Y.b == xb)) = nb := ⟨_, rfl⟩
            have heq : ∀ w : World, (binOp .eql 33 (.agg #[.int .i64 Y.k, .int .u64 Y.b]) (.agg #[.int .i64 xk, .int .u64 xb])).run Try.prog w = .ok (.bool nb) w := fun w => by rw [eql_RR, hnb]
            have hcl : cleanB ⟨xk, xb⟩ = nb := by unfold cleanB; rw [hY, ← hnb]
            rw [hcl] at hR
            have hR : (nb && ((lk.drop (k + 1)).all cleanB && refL nr ns li.length lk.length ll (fun _ => false) (fun _ => false))) = R := by rw [← hR, Bool.true_and, Bool.and_assoc]
            have HR := Lib.hid hR
            have HY := Lib.hid hy
            have y0 := kx.cell 0
            have y1 := kx.cell 1
            clear hc kc hbe hR hy hY hnb hcl kx
            go_wp2_with fail
            refine wp_region_t 7 (fun k => false) (by kernel_rfl) (fun qk => (rgR11 xk xb Y nb wl).getD qk .any) (by kernel_rfl) ?_ ?_
            · refine BOk.consN rfl [] [4] rfl rfl (by kernel_rfl) (by kernel_rfl) (fun qK qa wr hB qO qF hK => ?_) ?_
              · have e4 : qa.tmps[4]? = some (.bool true) := qO.1.trans rfl
                clear qO qF
                go_simp
                exact hK _ _ (Below.refl _ _) (by first | rfl | (show (_ : Value) = _; simp_all; done))
              refine BOk.cons rfl [0] [] rfl rfl (by kernel_rfl) (by kernel_rfl) (fun qK qa wr hB qO qF hK => ?_) ?_
              · have e65 : qa.tmps[65]? = some (.bool true) := fis qF.1 rfl rfl
                clear qO qF
                go_simp
                exact hK _ _ (Below.refl _ _) (by first | rfl | (show (_ : Value) = _; simp_all; done))
              refine BOk.yes rfl [] [8] rfl 1 true rfl rfl rfl (by kernel_rfl) (by kernel_rfl) (by kernel_rfl) (fun qK qa wr hB qO qF hK => ?_) ?_
              · have e8 : qa.tmps[8]? = some (.pointer (some ⟨wl.heap.size, 0, none⟩)) := qO.1.trans rfl
                clear qO qF
                have hy0 := (bcell hB _ _ (World.block_lt_of_cell? _ _ y0)).trans y0
                have hy1 := (bcell hB _ _ (World.block_lt_of_cell? _ _ y1)).trans y1
                go_simp
                exact hK _ _ (Below.refl _ _) rfl
              refine BOk.yes rfl [2] [] rfl 1 true rfl rfl rfl (by kernel_rfl) (by kernel_rfl) (by kernel_rfl) (fun qK qa wr hB qO qF hK => ?_) ?_
              · have e67 : qa.tmps[67]? = some (.agg #[.int .i64 xk, .int .u64 xb]) := fis qF.1 rfl rfl
                clear qO qF
                go_simp
                go_at_call 17
                refine (HY.out _).mono ?_
                rintro e w2 ⟨rfl, hb2⟩
                exact hK _ _ hb2 rfl
              refine BOk.yes rfl [] [8] rfl 1 true rfl rfl rfl (by kernel_rfl) (by kernel_rfl) (by kernel_rfl) (fun qK qa wr hB qO qF hK => ?_) ?_
              · have e8 : qa.tmps[8]? = some (.pointer (some ⟨wl.heap.size, 0, none⟩)) := qO.1.trans rfl
                clear qO qF
                have hy0 := (bcell hB _ _ (World.block_lt_of_cell? _ _ y0)).trans y0
                have hy1 := (bcell hB _ _ (World.block_lt_of_cell? _ _ y1)).trans y1
                go_simp
                exact hK _ _ (Below.refl _ _) rfl
              refine BOk.yes rfl [3, 4] [] rfl 1 true rfl rfl rfl (by kernel_rfl) (by kernel_rfl) (by kernel_rfl) (fun qK qa wr hB qO qF hK => ?_) ?_
              · have e68 : qa.tmps[68]? = some (.agg #[.int .i64 Y.k, .int .u64 Y.b]) := fis qF.1 rfl rfl
                have e69 : qa.tmps[69]? = some (.agg #[.int .i64 xk, .int .u64 xb]) := fis qF.2.1 rfl rfl
                clear qO qF
                go_simp
                refine hK _ _ (Below.refl _ _) ?_
                show (_ : Value) = _
                first | rfl | (simp; done) | (simp; omega)
              refine BOk.cons rfl [1, 5] [] rfl rfl (by kernel_rfl) (by kernel_rfl) (fun qK qa wr hB qO qF hK => ?_) ?_
              · have e66 : qa.tmps[66]? = some (.bool true) := fis qF.1 rfl rfl
                have e70 : qa.tmps[70]? = some (.bool nb) := fis qF.2.1 rfl rfl
                clear qO qF
                go_simp
                refine hK _ _ (Below.refl _ _) ?_
                show (_ : Value) = _
                first | rfl | (simp; done) | (simp; omega)
              exact BOk.nil
            intro vals wr hl hB hR hS
            match vals, hl with
            | [z65, z66, z67, z68, z69, z70, z71], _ =>
            have r6 : z71 = .bool nb := hR 6 _ rfl
            subst r6
            clear hS
            clear hR
            simp only [List.take_succ_cons, List.take_zero, List.drop_succ_cons, List.drop_zero, List.toList_toArray, List.cons_append, List.nil_append, putAll, Act.put, List.setIfInBounds_toArray, List.set_cons_zero, List.set_cons_succ]
            replace HC := Lib.hid (HC.out.old hB)
            replace HB := Lib.hid (HB.out.trans (hB.mono HB.out.size))
            clear hB y0 y1 heq
            go_wp2_with fail
            go_roundw
            case rel => exact ⟨k + 1, nb, by omega, by go_num, rfl, HB.out, HC.out, HR⟩
            case measure => simp [intOf]; omega
        · obtain rfl : k = lk.length := by omega
          have hR := hR.out
          rw [List.drop_length] at hR
          have hR : (ok && refL nr ns li.length lk.length ll (fun _ => false) (fun _ => false)) = R := hR
          have HR := Lib.hid hR
          have hlz := kc.lt
          have HC := Lib.hid ((kc.alloc (.map #[] 0)).alloc (.map #[] 0))
          have hbe3 : Below w.heap.size w ((wl.alloc (.map #[] 0)).alloc (.map #[] 0)) := (hbe.alloc hbe.size _).alloc (by have := hbe.size; simp; omega) _
          have hm : MapB ((wl.alloc (.map #[] 0)).alloc (.map #[] 0)) wl.heap.size 0 (fun _ => false) := (MapF.madeAt (E := boolE) rfl).alloc _
          have hs : MapB ((wl.alloc (.map #[] 0)).alloc (.map #[] 0)) (wl.heap.size + 1) 0 (fun _ => false) := MapF.madeAt (E := boolE) (by simp)
          have HM := Lib.hid hm
          have HS := Lib.hid hs
          have HB := Lib.hid hbe3
          have hz := hbe.size
          clear hR hbe hbe3 hm hs kc
          obtain ⟨wz, hwz⟩ : ∃ wz, wz = wl := ⟨_, rfl⟩
          subst hwz
          go_wp2_with fail
          go_loopw [4, 11] (fun t i wr => ∃ (k : Nat) (ok : Bool) (f g : Int → Bool), k ≤ ll.length ∧ i = .int .i64 k ∧ t = .bool ok ∧ Below w.heap.size w wr ∧ Bk wr w.heap.size 26 #[.int .i64 nr, .int .i64 ns, .slice Ai li.length ci, .slice Ak lk.length ck, .slice Al ll.length cl] ∧ MapB wr wz.heap.size k f ∧ MapB wr (wz.heap.size + 1) k g ∧ Hid ((ok && refL nr ns li.length lk.length (ll.drop k) f g) = R)) (fun _ i _ => ll.length - (intOf i).toNat)
          case atStart => exact ⟨0, ok, _, _, Nat.zero_le _, rfl, rfl, HB.out, HC.out, HM.out, HS.out, HR⟩
          case round =>
            clear HB HC HR HM HS
            obtain ⟨k, ok, f, g, hk, rfl, rfl, hbe, kc, hm, hs, hR⟩ := hrel
            rename World => wl
            cases ok
            · as_aux_lemma =>
              have hR : R = false := hR.out.symm
              go_wp2_with fail
              go_ret
              exact ⟨by first | rfl | exact ret_bool hR.symm, hbe⟩
            by_cases hlt : k < ll.length
            · obtain ⟨bb, oo, rfl, hb, hc⟩ := (rl.below hbe).elem (f := InsV.cells) (n := 4) (fun _ => rfl) (by omega) hlt
              have hR := hR.out
              rw [List.drop_eq_getElem_cons hlt, Bool.true_and, refL] at hR
              have hemp : (ll.drop (k + 1)).isEmpty = ((k : Int) == ((ll.length : Int) - 1)) := by
                rw [Bool.eq_iff_iff, List.isEmpty_iff]
                simp only [List.drop_eq_nil_iff, beq_iff_eq]
                omega
              rw [hemp] at hR
              have hfx := fl ll[k] (by simp)
              generalize ll[k] = x at *
              obtain ⟨op, dst, a, b⟩ := x
              obtain ⟨ho, hd, ha, hbI⟩ := hfx
              have ha : I64 a := ha
              have hb : I64 b := hbI
              have hd : I64 dst := hd
              have hc0 : wl.cell? ⟨bb, oo + k * 4, none⟩ = some (.int .i64 op) := hc 0 _ rfl
              have hc1 : wl.cell? ⟨bb, oo + k * 4 + 1, none⟩ = some (.int .i64 dst) := hc 1 _ rfl
              have hc2 : wl.cell? ⟨bb, oo + k * 4 + 2, none⟩ = some (.int .i64 a) := hc 2 _ rfl
              have hc3 : wl.cell? ⟨bb, oo + k * 4 + 3, none⟩ = some (.int .i64 b) := hc 3 _ rfl
              have hsz := hbe.size
              have kx := Bk.new wl 43 #[.int .i64 op, .int .i64 dst, .int .i64 a, .int .i64 b]
              have ba : Below wl.heap.size wl (wl.alloc (.cells #[.int .i64 op, .int .i64 dst, .int .i64 a, .int .i64 b] 43)) := (Below.refl _ _).alloc (Nat.le_refl _) _
              obtain ⟨m, hm0⟩ : ∃ m, opnd op = m := ⟨_, rfl⟩
              obtain ⟨rs, hrs⟩ : ∃ rs, readsL ⟨op, dst, a, b⟩ = rs := ⟨_, rfl⟩
              have hrd := fun w => reads_any ⟨op, dst, a, b⟩ w
              rw [hrs] at hrd
              have hop := fun w => operands_any op w
              rw [hm0] at hop
              rw [hrs, hm0] at hR
              have hrf : ∀ r ∈ rs, I64 r := by
                intro r hr
                rw [← hrs] at hr
                unfold readsL at hr
                split at hr
                · obtain rfl := List.mem_singleton.1 hr; exact ha
                · have := List.mem_of_mem_take hr
                  simp only [List.mem_cons, List.not_mem_nil, or_false] at this
                  rcases this with rfl | rfl
                  · exact ha
                  · exact hb
              have hrl : rs.length ≤ 2 := by
                rw [← hrs]
                unfold readsL
                split
                · exact Nat.le_succ 1
                · rw [List.length_take]; exact Nat.min_le_right _ _
              have hwr : IntKind.i64.wrap ((ll.length : Int) - 1) = (ll.length : Int) - 1 := by rw [IntKind.wrap_i64]; omega
              have HOP := Lib.hid hop
              have HRD := Lib.hid hrd
              have HC := Lib.hid (kc.old ba)
              have HB := Lib.hid (hbe.trans (ba.mono hbe.size))
              have HM := Lib.hid (MapF.old hm ba)
              have HS := Lib.hid (MapF.old hs ba)
              have HX := Lib.hid kx
              have HR := Lib.hid hR
              have c4 := kc.cell 4
              clear hc ho hm hs kc hbe hop hrd hR hemp kx ba
              go_wp2_with fail
              refine (HOP.out _).mono ?_
              rintro e wq ⟨rfl, rfl⟩
              have y0 := HX.out.cell 0
              have y1 := HX.out.cell 1
              have y2 := HX.out.cell 2
              have y3 := HX.out.cell 3
              clear c4
              go_wp2_with fail
              refine (HRD.out _).mono ?_
              rintro e wo ⟨q, cq, rfl, hq, hlq, hcq, hbo⟩
              replace HC := Lib.hid (HC.out.old hbo)
              replace HB := Lib.hid (HB.out.trans (hbo.mono HB.out.size))
              replace HM := Lib.hid (MapF.old HM.out hbo)
              replace HS := Lib.hid (MapF.old HS.out hbo)
              replace HX := Lib.hid (HX.out.old hbo)
              clear hbo HRD HOP y0 y1 y2 y3
              go_wp2_with fail
              go_loopw [4, 94] (fun t j wr => ∃ n : Nat, n ≤ rs.length ∧ j = .int .i64 n ∧ t = .bool ((rs.take n).all f) ∧ Below wo.heap.size wo wr) (fun _ j _ => rs.length - (intOf j).toNat)
              case atStart => exact ⟨0, Nat.zero_le _, rfl, rfl, Below.refl _ _⟩
              case round =>
                obtain ⟨n, hn, rfl, rfl, hbn⟩ := hrel
                by_cases hlt2 : n < rs.length
                · as_aux_lemma =>
                  have hcell := (hbn.cell (p := ⟨q, 0 + n, none⟩) hlq).trans (hq n hlt2)
                  have hs1 : (rs.take (n + 1)).all f = ((rs.take n).all f && f rs[n]) := by rw [List.take_succ_eq_append_getElem hlt2, List.all_append]; simp
                  have hri : I64 rs[n] := hrf _ (by simp)
                  generalize rs[n] = r at *
                  have HM2 := Lib.hid (MapF.old HM.out hbn)
                  have HS1 := Lib.hid hs1
                  have HBN := Lib.hid hbn
                  generalize (rs.take n).all f = T at *
                  clear hs1 hbn hq HC HB HM HS HX HR
                  rw [Nat.zero_add] at hcell
                  cases T
                  · go_wp2_with fail
                    go_roundw
                    case rel => exact ⟨n + 1, by omega, by go_num, by rw [HS1.out]; rfl, HBN.out⟩
                    case measure => simp [intOf]; omega
                  · have hl : (Instr.lookup 60 (.map (some wz.heap.size)) (.int .i64 r) false).run Try.prog wr = .ok (.bool (f r)) wr := MapF.look HM2.out Try.underlying3 Try.underlying60 (zeroMB wr) r hri.wf
                    clear HM2
                    go_wp2_with fail
                    go_roundw
                    case rel => exact ⟨n + 1, by omega, by go_num, by rw [HS1.out]; rfl, HBN.out⟩
                    case measure => simp [intOf]; omega
                · obtain rfl : n = rs.length := by omega
                  rw [List.take_length]
                  obtain ⟨ok, hok⟩ : ∃ ok, rs.all f = ok := ⟨_, rfl⟩
                  rw [hok]
                  have hR := HR.out
                  rw [hok] at hR
                  replace HR := Lib.hid hR
                  replace HC := Lib.hid (HC.out.old hbn)
                  replace HB := Lib.hid (HB.out.trans (hbn.mono HB.out.size))
                  replace HM := Lib.hid (MapF.old HM.out hbn)
                  replace HS := Lib.hid (MapF.old HS.out hbn)
                  replace HX := Lib.hid (HX.out.old hbn)
                  have x0 := HX.out.cell 0
                  have x1 := HX.out.cell 1
                  have x2 := HX.out.cell 2
                  have x3 := HX.out.cell 3
                  have c0 := HC.out.cell 0
                  have c1 := HC.out.cell 1
                  have c2 := HC.out.cell 2
                  have c3 := HC.out.cell 3
                  clear hbn hq hok hR hrf
                  go_upto_region 24 with fail
                  refine wp_region_s (fun qk => (rgR24 op dst a b nr ns Ai Ak ci ck li lk ll ok k m f g w wl wz).getD qk .any) (by kernel_rfl) ?_ ?_
                  · refine BOk.cons rfl [] [13] rfl rfl (by kernel_rfl) (by kernel_rfl) (fun qK qa wr hB qO qF hK => ?_) ?_
                    · have e13 : qa.tmps[13]? = some (.int .i64 (m : Nat)) := qO.1.trans rfl
                      clear qO qF
                      go_simp
                      exact hK _ _ (Below.refl _ _) rfl
                    refine BOk.cons rfl [0] [] rfl rfl (by kernel_rfl) (by kernel_rfl) (fun qK qa wr hB qO qF hK => ?_) ?_
                    · have e105 : qa.tmps[105]? = some (.int .i64 (m : Nat)) := fis qF.1 rfl rfl
                      clear qO qF
                      go_simp
                      refine hK _ _ (Below.refl _ _) ?_
                      show (_ : Value) = _
                      first | rfl | (simp; done) | (simp; omega) | (congr 1; simp; done) | (congr 1; rw [decide_eq_decide]; omega)
                    refine BOk.cons rfl [1] [] rfl rfl (by kernel_rfl) (by kernel_rfl) (fun qK qa wr hB qO qF hK => ?_) ?_
                    · have e106 : qa.tmps[106]? = some (.bool (decide ((m : Nat) < 2))) := fis qF.1 rfl rfl
                      clear qO qF
                      go_simp
                      exact hK _ _ (Below.refl _ _) (by first | rfl | (show (_ : Value) = _; simp_all; done))
                    refine BOk.optT rfl [] [12] rfl 2 true rfl rfl rfl rfl (by kernel_rfl) (by kernel_rfl) (by kernel_rfl) (fun hp hc hP qK qa wr hB qO qF hK => ?_) ?_
                    · have e12 : qa.tmps[12]? = some (.pointer (some ⟨wl.heap.size, 0, none⟩)) := qO.1.trans rfl
                      clear qO qF
                      go_simp
                      exact hK _ _ (Below.refl _ _) rfl
                    refine BOk.optT rfl [3] [] rfl 2 true rfl rfl rfl rfl (by kernel_rfl) (by kernel_rfl) (by kernel_rfl) (fun hp hc hP qK qa wr hB qO qF hK => ?_) ?_
                    · have e108 : qa.tmps[108]? = some (.pointer (some ⟨wl.heap.size, 0, none⟩)) := fif qF.1 rfl hP rfl
                      clear qO qF
                      have hx0 := (bcell hB _ _ (World.block_lt_of_cell? _ _ x0)).trans x0
                      go_simp
                      exact hK _ _ (Below.refl _ _) rfl
                    refine BOk.optT rfl [4] [] rfl 2 true rfl rfl rfl rfl (by kernel_rfl) (by kernel_rfl) (by kernel_rfl) (fun hp hc hP qK qa wr hB qO qF hK => ?_) ?_
                    · have e109 : qa.tmps[109]? = some (.int .i64 op) := fif qF.1 rfl hP rfl
                      clear qO qF
                      go_simp
                      refine hK _ _ (Below.refl _ _) ?_
                      show (_ : Value) = _
                      first | rfl | (simp; done) | (simp; omega) | (congr 1; simp; done) | (congr 1; rw [decide_eq_decide]; omega)
                    refine BOk.cons rfl [2, 5] [] rfl rfl (by kernel_rfl) (by kernel_rfl) (fun qK qa wr hB qO qF hK => ?_) ?_
                    · have e107 : qa.tmps[107]? = some (.bool (decide ((m : Nat) < 2))) := fis qF.1 rfl rfl
                      obtain ⟨u110, e110, r5⟩ := qF.2.1
                      have r5 : u110 = (bif (true && ((decide ((m : Nat) < 2)) == true)) then .bool ((op != 53)) else undef) := r5
                      clear qO qF
                      rcases (Bool.eq_false_or_eq_true ((decide ((m : Nat) < 2)))).symm with hcc | hcc
                      · rw [hcc] at e107
                        go_simp
                        exact hK _ _ (Below.refl _ _) (by show (_ : Value) = _; first | (rw [hcc]; first | rfl | (simp; done)) | (simp_all; done))
                      · rw [hcc] at e107
                        have e110 : qa.tmps[110]? = some (.bool (((op != 53)))) := (show u110 = .bool (((op != 53))) from r5.trans (by (first | rw [hcc] | skip); first | rfl | (rw [hP]; rfl))) ▸ e110
                        go_simp
                        exact hK _ _ (Below.refl _ _) (by show (_ : Value) = _; first | (rw [hcc]; first | rfl | (simp; done)) | (simp_all; done))
                    refine BOk.cons rfl [6] [] rfl rfl (by kernel_rfl) (by kernel_rfl) (fun qK qa wr hB qO qF hK => ?_) ?_
                    · have e111 : qa.tmps[111]? = some (.bool ((decide ((m : Nat) < 2)) && ((op != 53)))) := fis qF.1 rfl rfl
                      clear qO qF
                      go_simp
                      exact hK _ _ (Below.refl _ _) (by first | rfl | (show (_ : Value) = _; simp_all; done))
                    refine BOk.optT rfl [] [12] rfl 7 true rfl rfl rfl rfl (by kernel_rfl) (by kernel_rfl) (by kernel_rfl) (fun hp hc hP qK qa wr hB qO qF hK => ?_) ?_
                    · have e12 : qa.tmps[12]? = some (.pointer (some ⟨wl.heap.size, 0, none⟩)) := qO.1.trans rfl
                      clear qO qF
                      go_simp
                      exact hK _ _ (Below.refl _ _) rfl
                    refine BOk.optT rfl [8] [] rfl 7 true rfl rfl rfl rfl (by kernel_rfl) (by kernel_rfl) (by kernel_rfl) (fun hp hc hP qK qa wr hB qO qF hK => ?_) ?_
                    · have e113 : qa.tmps[113]? = some (.pointer (some ⟨wl.heap.size, 3, none⟩)) := fif qF.1 rfl hP rfl
                      clear qO qF
                      have hx3 := (bcell hB _ _ (World.block_lt_of_cell? _ _ x3)).trans x3
                      go_simp
                      exact hK _ _ (Below.refl _ _) rfl
                    refine BOk.optT rfl [9] [] rfl 7 true rfl rfl rfl rfl (by kernel_rfl) (by kernel_rfl) (by kernel_rfl) (fun hp hc hP qK qa wr hB qO qF hK => ?_) ?_
                    · have e114 : qa.tmps[114]? = some (.int .i64 b) := fif qF.1 rfl hP rfl
                      clear qO qF
                      go_simp
                      refine hK _ _ (Below.refl _ _) ?_
                      show (_ : Value) = _
                      first | rfl | (simp; done) | (simp; omega) | (congr 1; simp; done) | (congr 1; rw [decide_eq_decide]; omega)
                    refine BOk.cons rfl [7, 10] [] rfl rfl (by kernel_rfl) (by kernel_rfl) (fun qK qa wr hB qO qF hK => ?_) ?_
                    · have e112 : qa.tmps[112]? = some (.bool ((decide ((m : Nat) < 2)) && ((op != 53)))) := fis qF.1 rfl rfl
                      obtain ⟨u115, e115, r10⟩ := qF.2.1
                      have r10 : u115 = (bif (true && (((decide ((m : Nat) < 2)) && ((op != 53))) == true)) then .bool ((b != 0)) else undef) := r10
                      clear qO qF
                      rcases (Bool.eq_false_or_eq_true (((decide ((m : Nat) < 2)) && ((op != 53))))).symm with hcc | hcc
                      · rw [hcc] at e112
                        go_simp
                        exact hK _ _ (Below.refl _ _) (by show (_ : Value) = _; first | (rw [hcc]; first | rfl | (simp; done)) | (simp_all; done))
                      · rw [hcc] at e112
                        have e115 : qa.tmps[115]? = some (.bool (((b != 0)))) := (show u115 = .bool (((b != 0))) from r10.trans (by (first | rw [hcc] | skip); first | rfl | (rw [hP]; rfl))) ▸ e115
                        go_simp
                        exact hK _ _ (Below.refl _ _) (by show (_ : Value) = _; first | (rw [hcc]; first | rfl | (simp; done)) | (simp_all; done))
                    refine BOk.cons rfl [11] [] rfl rfl (by kernel_rfl) (by kernel_rfl) (fun qK qa wr hB qO qF hK => ?_) ?_
                    · have e116 : qa.tmps[116]? = some (.bool (((decide ((m : Nat) < 2)) && ((op != 53))) && ((b != 0)))) := fis qF.1 rfl rfl
                      clear qO qF
                      go_simp
                      exact hK _ _ (Below.refl _ _) (by first | rfl | (show (_ : Value) = _; simp_all; done))
                    refine BOk.optT rfl [] [12] rfl 12 false rfl rfl rfl rfl (by kernel_rfl) (by kernel_rfl) (by kernel_rfl) (fun hp hc hP qK qa wr hB qO qF hK => ?_) ?_
                    · have e12 : qa.tmps[12]? = some (.pointer (some ⟨wl.heap.size, 0, none⟩)) := qO.1.trans rfl
                      clear qO qF
                      go_simp
                      exact hK _ _ (Below.refl _ _) rfl
                    refine BOk.optT rfl [13] [] rfl 12 false rfl rfl rfl rfl (by kernel_rfl) (by kernel_rfl) (by kernel_rfl) (fun hp hc hP qK qa wr hB qO qF hK => ?_) ?_
                    · have e118 : qa.tmps[118]? = some (.pointer (some ⟨wl.heap.size, 0, none⟩)) := fif qF.1 rfl hP rfl
                      clear qO qF
                      have hx0 := (bcell hB _ _ (World.block_lt_of_cell? _ _ x0)).trans x0
                      go_simp
                      exact hK _ _ (Below.refl _ _) rfl
                    refine BOk.optT rfl [14] [] rfl 12 false rfl rfl rfl rfl (by kernel_rfl) (by kernel_rfl) (by kernel_rfl) (fun hp hc hP qK qa wr hB qO qF hK => ?_) ?_
                    · have e119 : qa.tmps[119]? = some (.int .i64 op) := fif qF.1 rfl hP rfl
                      clear qO qF
                      go_simp
                      refine hK _ _ (Below.refl _ _) ?_
                      show (_ : Value) = _
                      first | rfl | (simp; done) | (simp; omega) | (congr 1; simp; done) | (congr 1; rw [decide_eq_decide]; omega)
                    refine BOk.optT rfl [] [11] rfl 12 false rfl rfl rfl rfl (by kernel_rfl) (by kernel_rfl) (by kernel_rfl) (fun hp hc hP qK qa wr hB qO qF hK => ?_) ?_
                    · have e11 : qa.tmps[11]? = some (.int .i64 (k : Int)) := qO.1.trans rfl
                      clear qO qF
                      go_simp
                      exact hK _ _ (Below.refl _ _) rfl
                    refine BOk.optT rfl [] [3] rfl 12 false rfl rfl rfl rfl (by kernel_rfl) (by kernel_rfl) (by kernel_rfl) (fun hp hc hP qK qa wr hB qO qF hK => ?_) ?_
                    · have e3 : qa.tmps[3]? = some (.int .i64 (ll.length : Nat)) := qO.1.trans rfl
                      clear qO qF
                      go_simp
                      exact hK _ _ (Below.refl _ _) rfl
                    refine BOk.optT rfl [17] [] rfl 12 false rfl rfl rfl rfl (by kernel_rfl) (by kernel_rfl) (by kernel_rfl) (fun hp hc hP qK qa wr hB qO qF hK => ?_) ?_
                    · have e122 : qa.tmps[122]? = some (.int .i64 (ll.length : Nat)) := fif qF.1 rfl hP rfl
                      clear qO qF
                      go_simp
                      refine hK _ _ (Below.refl _ _) ?_
                      show (_ : Value) = _
                      first | rfl | (simp; done) | (simp; omega)
                    refine BOk.optT rfl [16, 18] [] rfl 12 false rfl rfl rfl rfl (by kernel_rfl) (by kernel_rfl) (by kernel_rfl) (fun hp hc hP qK qa wr hB qO qF hK => ?_) ?_
                    · have e121 : qa.tmps[121]? = some (.int .i64 (k : Int)) := fif qF.1 rfl hP rfl
                      have e123 : qa.tmps[123]? = some (.int .i64 ((ll.length : Int) - 1)) := fif qF.2.1 rfl hP rfl
                      clear qO qF
                      go_simp
                      refine hK _ _ (Below.refl _ _) ?_
                      show (_ : Value) = _
                      first | rfl | (simp; done) | (simp; omega) | (congr 1; simp; done) | (congr 1; rw [decide_eq_decide]; omega)
                    refine BOk.optT rfl [15, 19] [] rfl 12 false rfl rfl rfl rfl (by kernel_rfl) (by kernel_rfl) (by kernel_rfl) (fun hp hc hP qK qa wr hB qO qF hK => ?_) ?_
                    · have e120 : qa.tmps[120]? = some (.bool ((op == 52))) := fif qF.1 rfl hP rfl
                      have e124 : qa.tmps[124]? = some (.bool (((k : Int) == ((ll.length : Int) - 1)))) := fif qF.2.1 rfl hP rfl
                      clear qO qF
                      go_simp
                      refine hK _ _ (Below.refl _ _) ?_
                      show (_ : Value) = _
                      first | rfl | (simp; done) | (simp; omega) | (congr 1; simp; done)
                    refine BOk.cons rfl [12, 20] [] rfl rfl (by kernel_rfl) (by kernel_rfl) (fun qK qa wr hB qO qF hK => ?_) ?_
                    · have e117 : qa.tmps[117]? = some (.bool (((decide ((m : Nat) < 2)) && ((op != 53))) && ((b != 0)))) := fis qF.1 rfl rfl
                      obtain ⟨u125, e125, r20⟩ := qF.2.1
                      have r20 : u125 = (bif (true && ((((decide ((m : Nat) < 2)) && ((op != 53))) && ((b != 0))) == false)) then .bool (((op == 52)) != (((k : Int) == ((ll.length : Int) - 1)))) else undef) := r20
                      clear qO qF
                      rcases (Bool.eq_false_or_eq_true ((((decide ((m : Nat) < 2)) && ((op != 53))) && ((b != 0))))).symm with hcc | hcc
                      · rw [hcc] at e117
                        have e125 : qa.tmps[125]? = some (.bool ((((op == 52)) != (((k : Int) == ((ll.length : Int) - 1)))))) := (show u125 = .bool ((((op == 52)) != (((k : Int) == ((ll.length : Int) - 1))))) from r20.trans (by (first | rw [hcc] | skip); first | rfl | (rw [hP]; rfl))) ▸ e125
                        go_simp
                        exact hK _ _ (Below.refl _ _) (by show (_ : Value) = _; first | (rw [hcc]; first | rfl | (simp; done)) | (simp_all; done))
                      · rw [hcc] at e117
                        go_simp
                        exact hK _ _ (Below.refl _ _) (by show (_ : Value) = _; first | (rw [hcc]; first | rfl | (simp; done)) | (simp_all; done))
                    exact BOk.nil
                  intro vals wr hl hB hR
                  match vals, hl with
                  | [z105, z106, z107, z108, z109, z110, z111, z112, z113, z114, z115, z116, z117, z118, z119, z120, z121, z122, z123, z124, z125, z126], _ =>
                  have r21 : z126 = .bool ((((decide ((m : Nat) < 2)) && ((op != 53))) && ((b != 0))) || (((op == 52)) != (((k : Int) == ((ll.length : Int) - 1))))) := hR 21 _ rfl
                  subst r21
                  clear hR
                  simp only [List.cons_append, List.nil_append, putAll, Act.put, List.setIfInBounds_toArray, List.set_cons_zero, List.set_cons_succ]
                  have HBK := Lib.hid hB
                  replace HC := Lib.hid (HC.out.old hB)
                  replace HM := Lib.hid (MapF.old HM.out hB)
                  replace HS := Lib.hid (MapF.old HS.out hB)
                  replace HX := Lib.hid (HX.out.old hB)
                  replace HB := Lib.hid (HB.out.trans (hB.mono HB.out.size))
                  clear hB x0 x1 x2 x3 c0 c1 c2 c3
                  have x0 := HX.out.cell 0
                  have x1 := HX.out.cell 1
                  have x2 := HX.out.cell 2
                  have x3 := HX.out.cell 3
                  have c0 := HC.out.cell 0
                  have c1 := HC.out.cell 1
                  have c2 := HC.out.cell 2
                  have c3 := HC.out.cell 3
                  cases hD : ((((decide ((m : Nat) < 2)) && ((op != 53))) && ((b != 0))) || (((op == 52)) != (((k : Int) == ((ll.length : Int) - 1)))))
                  case true =>
                    as_aux_lemma =>
                    have hR : R = false := by
                      rw [← HR.out]
                      exact if_pos hD
                    go_wp2_with fail
                    go_ret
                    exact ⟨by first | rfl | exact ret_bool hR.symm, HB.out⟩
                  have hR := HR.out
                  rw [if_neg (show ¬ (((decide (m < 2) && (op != 53)) && (b != 0)) || ((op == 52) != ((k : Int) == ((ll.length : Int) - 1)))) = true by intro h; rw [show (((decide (m < 2) && (op != 53)) && (b != 0)) || ((op == 52) != ((k : Int) == ((ll.length : Int) - 1)))) = ((((decide ((m : Nat) < 2)) && ((op != 53))) && ((b != 0))) || (((op == 52)) != (((k : Int) == ((ll.length : Int) - 1))))) from rfl, hD] at h; cases h)] at hR
                  clear hD HR HBK
                  by_cases h52 : op = 52
                  · as_aux_lemma =>
                    replace hR := Lib.hid hR
                    subst h52
                    have HR : Hid ((ok && (dst == 0)) = R) := Lib.hid (by have := hR.out; exact this)
                    clear hR
                    go_upto_region 28 with fail
                    refine wp_region_s (fun qk => (rgR28 52 dst a b nr ns Ai Ak ci ck li lk ll ok k m f g w wl wz).getD qk .any) (by kernel_rfl) ?_ ?_
                    · refine BOk.cons rfl [] [4] rfl rfl (by kernel_rfl) (by kernel_rfl) (fun qK qa wr hB qO qF hK => ?_) ?_
                      · have e4 : qa.tmps[4]? = some (.bool ok) := qO.1.trans rfl
                        clear qO qF
                        go_simp
                        exact hK _ _ (Below.refl _ _) (by first | rfl | (show (_ : Value) = _; simp_all; done))
                      refine BOk.cons rfl [0] [] rfl rfl (by kernel_rfl) (by kernel_rfl) (fun qK qa wr hB qO qF hK => ?_) ?_
                      · have e136 : qa.tmps[136]? = some (.bool ok) := fis qF.1 rfl rfl
                        clear qO qF
                        go_simp
                        exact hK _ _ (Below.refl _ _) (by first | rfl | (show (_ : Value) = _; simp_all; done))
                      refine BOk.optT rfl [] [12] rfl 1 true rfl rfl rfl rfl (by kernel_rfl) (by kernel_rfl) (by kernel_rfl) (fun hp hc hP qK qa wr hB qO qF hK => ?_) ?_
                      · have e12 : qa.tmps[12]? = some (.pointer (some ⟨wl.heap.size, 0, none⟩)) := qO.1.trans rfl
                        clear qO qF
                        go_simp
                        exact hK _ _ (Below.refl _ _) rfl
                      refine BOk.optT rfl [2] [] rfl 1 true rfl rfl rfl rfl (by kernel_rfl) (by kernel_rfl) (by kernel_rfl) (fun hp hc hP qK qa wr hB qO qF hK => ?_) ?_
                      · have e138 : qa.tmps[138]? = some (.pointer (some ⟨wl.heap.size, 1, none⟩)) := fif qF.1 rfl hP rfl
                        clear qO qF
                        have hx1 := (bcell hB _ _ (World.block_lt_of_cell? _ _ x1)).trans x1
                        go_simp
                        exact hK _ _ (Below.refl _ _) rfl
                      refine BOk.optT rfl [3] [] rfl 1 true rfl rfl rfl rfl (by kernel_rfl) (by kernel_rfl) (by kernel_rfl) (fun hp hc hP qK qa wr hB qO qF hK => ?_) ?_
                      · have e139 : qa.tmps[139]? = some (.int .i64 dst) := fif qF.1 rfl hP rfl
                        clear qO qF
                        go_simp
                        refine hK _ _ (Below.refl _ _) ?_
                        show (_ : Value) = _
                        first | rfl | (simp; done) | (simp; omega) | (congr 1; simp; done) | (congr 1; rw [decide_eq_decide]; omega)
                      refine BOk.cons rfl [1, 4] [] rfl rfl (by kernel_rfl) (by kernel_rfl) (fun qK qa wr hB qO qF hK => ?_) ?_
                      · have e137 : qa.tmps[137]? = some (.bool ok) := fis qF.1 rfl rfl
                        obtain ⟨u140, e140, r4⟩ := qF.2.1
                        have r4 : u140 = (bif (true && (ok == true)) then .bool ((dst == 0)) else undef) := r4
                        clear qO qF
                        rcases (Bool.eq_false_or_eq_true (ok)).symm with hcc | hcc
                        · rw [hcc] at e137
                          go_simp
                          exact hK _ _ (Below.refl _ _) (by show (_ : Value) = _; first | (rw [hcc]; first | rfl | (simp; done)) | (simp_all; done))
                        · rw [hcc] at e137
                          have e140 : qa.tmps[140]? = some (.bool (((dst == 0)))) := (show u140 = .bool (((dst == 0))) from r4.trans (by (first | rw [hcc] | skip); first | rfl | (rw [hP]; rfl))) ▸ e140
                          go_simp
                          exact hK _ _ (Below.refl _ _) (by show (_ : Value) = _; first | (rw [hcc]; first | rfl | (simp; done)) | (simp_all; done))
                      refine BOk.cons rfl [5] [] rfl rfl (by kernel_rfl) (by kernel_rfl) (fun qK qa wr hB qO qF hK => ?_) ?_
                      · have e141 : qa.tmps[141]? = some (.bool (ok && ((dst == 0)))) := fis qF.1 rfl rfl
                        clear qO qF
                        go_simp
                        exact hK _ _ (Below.refl _ _) (by first | rfl | (show (_ : Value) = _; simp_all; done))
                      exact BOk.nil
                    intro vals wr hl hB hR
                    match vals, hl with
                    | [z136, z137, z138, z139, z140, z141, z2], _ =>
                    have r6 : z2 = .bool (ok && ((dst == 0))) := hR 6 _ rfl
                    subst r6
                    clear hR
                    simp only [List.cons_append, List.nil_append, putAll, Act.put, List.setIfInBounds_toArray, List.set_cons_zero, List.set_cons_succ]
                    go_wp2_with fail
                    go_ret
                    exact ⟨ret_bool HR.out, HB.out.trans (hB.mono HB.out.size)⟩
                  have g52 : (op == 52) = false := by rw [beq_eq_false_iff_ne]; exact h52
                  by_cases h53 : op = 53
                  · as_aux_lemma =>
                    replace hR := Lib.hid hR
                    subst h53
                    have HR : Hid ((((((ok && (dst == 0)) && decide (0 ≤ a)) && decide (a < ns)) && f b) && refL nr ns li.length lk.length (ll.drop (k + 1)) f (updB g a)) = R) := Lib.hid (by have := hR.out; exact this)
                    clear hR
                    go_upto_region 30 with fail
                    refine wp_region_st 24 (fun qk => (rgR30 53 dst a b nr ns Ai Ak ci ck li lk ll ok k m f g w wl wz).getD qk .any) (by kernel_rfl) ?_ ?_
                    · refine BOk.consN rfl [] [4] rfl rfl (by kernel_rfl) (by kernel_rfl) (fun qK qa wr hB qO qF hK => ?_) ?_
                      · have e4 : qa.tmps[4]? = some (.bool ok) := qO.1.trans rfl
                        clear qO qF
                        go_simp
                        exact hK _ _ (Below.refl _ _) (by first | rfl | (show (_ : Value) = _; simp_all; done))
                      refine BOk.cons rfl [0] [] rfl rfl (by kernel_rfl) (by kernel_rfl) (fun qK qa wr hB qO qF hK => ?_) ?_
                      · have e146 : qa.tmps[146]? = some (.bool ok) := fis qF.1 rfl rfl
                        clear qO qF
                        go_simp
                        exact hK _ _ (Below.refl _ _) (by first | rfl | (show (_ : Value) = _; simp_all; done))
                      refine BOk.optT rfl [] [12] rfl 1 true rfl rfl rfl rfl (by kernel_rfl) (by kernel_rfl) (by kernel_rfl) (fun hp hc hP qK qa wr hB qO qF hK => ?_) ?_
                      · have e12 : qa.tmps[12]? = some (.pointer (some ⟨wl.heap.size, 0, none⟩)) := qO.1.trans rfl
                        clear qO qF
                        go_simp
                        exact hK _ _ (Below.refl _ _) rfl
                      refine BOk.optT rfl [2] [] rfl 1 true rfl rfl rfl rfl (by kernel_rfl) (by kernel_rfl) (by kernel_rfl) (fun hp hc hP qK qa wr hB qO qF hK => ?_) ?_
                      · have e148 : qa.tmps[148]? = some (.pointer (some ⟨wl.heap.size, 1, none⟩)) := fif qF.1 rfl hP rfl
                        clear qO qF
                        have hx1 := (bcell hB _ _ (World.block_lt_of_cell? _ _ x1)).trans x1
                        go_simp
                        exact hK _ _ (Below.refl _ _) rfl
                      refine BOk.optT rfl [3] [] rfl 1 true rfl rfl rfl rfl (by kernel_rfl) (by kernel_rfl) (by kernel_rfl) (fun hp hc hP qK qa wr hB qO qF hK => ?_) ?_
                      · have e149 : qa.tmps[149]? = some (.int .i64 dst) := fif qF.1 rfl hP rfl
                        clear qO qF
                        go_simp
                        refine hK _ _ (Below.refl _ _) ?_
                        show (_ : Value) = _
                        first | rfl | (simp; done) | (simp; omega) | (congr 1; simp; done) | (congr 1; rw [decide_eq_decide]; omega)
                      refine BOk.cons rfl [1, 4] [] rfl rfl (by kernel_rfl) (by kernel_rfl) (fun qK qa wr hB qO qF hK => ?_) ?_
                      · have e147 : qa.tmps[147]? = some (.bool ok) := fis qF.1 rfl rfl
                        obtain ⟨u150, e150, r4⟩ := qF.2.1
                        have r4 : u150 = (bif (true && (ok == true)) then .bool ((dst == 0)) else undef) := r4
                        clear qO qF
                        rcases (Bool.eq_false_or_eq_true (ok)).symm with hcc | hcc
                        · rw [hcc] at e147
                          go_simp
                          exact hK _ _ (Below.refl _ _) (by show (_ : Value) = _; first | (rw [hcc]; first | rfl | (simp; done)) | (simp_all; done))
                        · rw [hcc] at e147
                          have e150 : qa.tmps[150]? = some (.bool (((dst == 0)))) := (show u150 = .bool (((dst == 0))) from r4.trans (by (first | rw [hcc] | skip); first | rfl | (rw [hP]; rfl))) ▸ e150
                          go_simp
                          exact hK _ _ (Below.refl _ _) (by show (_ : Value) = _; first | (rw [hcc]; first | rfl | (simp; done)) | (simp_all; done))
                      refine BOk.cons rfl [5] [] rfl rfl (by kernel_rfl) (by kernel_rfl) (fun qK qa wr hB qO qF hK => ?_) ?_
                      · have e151 : qa.tmps[151]? = some (.bool (ok && ((dst == 0)))) := fis qF.1 rfl rfl
                        clear qO qF
                        go_simp
                        exact hK _ _ (Below.refl _ _) (by first | rfl | (show (_ : Value) = _; simp_all; done))
                      refine BOk.optT rfl [] [12] rfl 6 true rfl rfl rfl rfl (by kernel_rfl) (by kernel_rfl) (by kernel_rfl) (fun hp hc hP qK qa wr hB qO qF hK => ?_) ?_
                      · have e12 : qa.tmps[12]? = some (.pointer (some ⟨wl.heap.size, 0, none⟩)) := qO.1.trans rfl
                        clear qO qF
                        go_simp
                        exact hK _ _ (Below.refl _ _) rfl
                      refine BOk.optT rfl [7] [] rfl 6 true rfl rfl rfl rfl (by kernel_rfl) (by kernel_rfl) (by kernel_rfl) (fun hp hc hP qK qa wr hB qO qF hK => ?_) ?_
                      · have e153 : qa.tmps[153]? = some (.pointer (some ⟨wl.heap.size, 2, none⟩)) := fif qF.1 rfl hP rfl
                        clear qO qF
                        have hx2 := (bcell hB _ _ (World.block_lt_of_cell? _ _ x2)).trans x2
                        go_simp
                        exact hK _ _ (Below.refl _ _) rfl
                      refine BOk.optT rfl [8] [] rfl 6 true rfl rfl rfl rfl (by kernel_rfl) (by kernel_rfl) (by kernel_rfl) (fun hp hc hP qK qa wr hB qO qF hK => ?_) ?_
                      · have e154 : qa.tmps[154]? = some (.int .i64 a) := fif qF.1 rfl hP rfl
                        clear qO qF
                        go_simp
                        refine hK _ _ (Below.refl _ _) ?_
                        show (_ : Value) = _
                        first | rfl | (simp; done) | (simp; omega) | (congr 1; simp; done) | (congr 1; rw [decide_eq_decide]; omega)
                      refine BOk.cons rfl [6, 9] [] rfl rfl (by kernel_rfl) (by kernel_rfl) (fun qK qa wr hB qO qF hK => ?_) ?_
                      · have e152 : qa.tmps[152]? = some (.bool (ok && ((dst == 0)))) := fis qF.1 rfl rfl
                        obtain ⟨u155, e155, r9⟩ := qF.2.1
                        have r9 : u155 = (bif (true && ((ok && ((dst == 0))) == true)) then .bool (decide (0 ≤ a)) else undef) := r9
                        clear qO qF
                        rcases (Bool.eq_false_or_eq_true ((ok && ((dst == 0))))).symm with hcc | hcc
                        · rw [hcc] at e152
                          go_simp
                          exact hK _ _ (Below.refl _ _) (by show (_ : Value) = _; first | (rw [hcc]; first | rfl | (simp; done)) | (simp_all; done))
                        · rw [hcc] at e152
                          have e155 : qa.tmps[155]? = some (.bool ((decide (0 ≤ a)))) := (show u155 = .bool ((decide (0 ≤ a))) from r9.trans (by (first | rw [hcc] | skip); first | rfl | (rw [hP]; rfl))) ▸ e155
                          go_simp
                          exact hK _ _ (Below.refl _ _) (by show (_ : Value) = _; first | (rw [hcc]; first | rfl | (simp; done)) | (simp_all; done))
                      refine BOk.cons rfl [10] [] rfl rfl (by kernel_rfl) (by kernel_rfl) (fun qK qa wr hB qO qF hK => ?_) ?_
                      · have e156 : qa.tmps[156]? = some (.bool ((ok && ((dst == 0))) && (decide (0 ≤ a)))) := fis qF.1 rfl rfl
                        clear qO qF
                        go_simp
                        exact hK _ _ (Below.refl _ _) (by first | rfl | (show (_ : Value) = _; simp_all; done))
                      refine BOk.optT rfl [] [12] rfl 11 true rfl rfl rfl rfl (by kernel_rfl) (by kernel_rfl) (by kernel_rfl) (fun hp hc hP qK qa wr hB qO qF hK => ?_) ?_
                      · have e12 : qa.tmps[12]? = some (.pointer (some ⟨wl.heap.size, 0, none⟩)) := qO.1.trans rfl
                        clear qO qF
                        go_simp
                        exact hK _ _ (Below.refl _ _) rfl
                      refine BOk.optT rfl [12] [] rfl 11 true rfl rfl rfl rfl (by kernel_rfl) (by kernel_rfl) (by kernel_rfl) (fun hp hc hP qK qa wr hB qO qF hK => ?_) ?_
                      · have e158 : qa.tmps[158]? = some (.pointer (some ⟨wl.heap.size, 2, none⟩)) := fif qF.1 rfl hP rfl
                        clear qO qF
                        have hx2 := (bcell hB _ _ (World.block_lt_of_cell? _ _ x2)).trans x2
                        go_simp
                        exact hK _ _ (Below.refl _ _) rfl
                      refine BOk.optT rfl [] [1] rfl 11 true rfl rfl rfl rfl (by kernel_rfl) (by kernel_rfl) (by kernel_rfl) (fun hp hc hP qK qa wr hB qO qF hK => ?_) ?_
                      · have e1 : qa.tmps[1]? = some (.pointer (some ⟨w.heap.size, 0, none⟩)) := qO.1.trans rfl
                        clear qO qF
                        go_simp
                        exact hK _ _ (Below.refl _ _) rfl
                      refine BOk.optT rfl [14] [] rfl 11 true rfl rfl rfl rfl (by kernel_rfl) (by kernel_rfl) (by kernel_rfl) (fun hp hc hP qK qa wr hB qO qF hK => ?_) ?_
                      · have e160 : qa.tmps[160]? = some (.pointer (some ⟨w.heap.size, 1, none⟩)) := fif qF.1 rfl hP rfl
                        clear qO qF
                        have hc1 := (bcell hB _ _ (World.block_lt_of_cell? _ _ c1)).trans c1
                        go_simp
                        exact hK _ _ (Below.refl _ _) rfl
                      refine BOk.optT rfl [13, 15] [] rfl 11 true rfl rfl rfl rfl (by kernel_rfl) (by kernel_rfl) (by kernel_rfl) (fun hp hc hP qK qa wr hB qO qF hK => ?_) ?_
                      · have e159 : qa.tmps[159]? = some (.int .i64 a) := fif qF.1 rfl hP rfl
                        have e161 : qa.tmps[161]? = some (.int .i64 ns) := fif qF.2.1 rfl hP rfl
                        clear qO qF
                        go_simp
                        refine hK _ _ (Below.refl _ _) ?_
                        show (_ : Value) = _
                        first | rfl | (simp; done) | (simp; omega) | (congr 1; simp; done) | (congr 1; rw [decide_eq_decide]; omega)
                      refine BOk.cons rfl [11, 16] [] rfl rfl (by kernel_rfl) (by kernel_rfl) (fun qK qa wr hB qO qF hK => ?_) ?_
                      · have e157 : qa.tmps[157]? = some (.bool ((ok && ((dst == 0))) && (decide (0 ≤ a)))) := fis qF.1 rfl rfl
                        obtain ⟨u162, e162, r16⟩ := qF.2.1
                        have r16 : u162 = (bif (true && (((ok && ((dst == 0))) && (decide (0 ≤ a))) == true)) then .bool (decide (a < ns)) else undef) := r16
                        clear qO qF
                        rcases (Bool.eq_false_or_eq_true (((ok && ((dst == 0))) && (decide (0 ≤ a))))).symm with hcc | hcc
                        · rw [hcc] at e157
                          go_simp
                          exact hK _ _ (Below.refl _ _) (by show (_ : Value) = _; first | (rw [hcc]; first | rfl | (simp; done)) | (simp_all; done))
                        · rw [hcc] at e157
                          have e162 : qa.tmps[162]? = some (.bool ((decide (a < ns)))) := (show u162 = .bool ((decide (a < ns))) from r16.trans (by (first | rw [hcc] | skip); first | rfl | (rw [hP]; rfl))) ▸ e162
                          go_simp
                          exact hK _ _ (Below.refl _ _) (by show (_ : Value) = _; first | (rw [hcc]; first | rfl | (simp; done)) | (simp_all; done))
                      refine BOk.cons rfl [17] [] rfl rfl (by kernel_rfl) (by kernel_rfl) (fun qK qa wr hB qO qF hK => ?_) ?_
                      · have e163 : qa.tmps[163]? = some (.bool (((ok && ((dst == 0))) && (decide (0 ≤ a))) && (decide (a < ns)))) := fis qF.1 rfl rfl
                        clear qO qF
                        go_simp
                        exact hK _ _ (Below.refl _ _) (by first | rfl | (show (_ : Value) = _; simp_all; done))
                      refine BOk.optT rfl [] [9] rfl 18 true rfl rfl rfl rfl (by kernel_rfl) (by kernel_rfl) (by kernel_rfl) (fun hp hc hP qK qa wr hB qO qF hK => ?_) ?_
                      · have e9 : qa.tmps[9]? = some (.map (some wz.heap.size)) := qO.1.trans rfl
                        clear qO qF
                        go_simp
                        exact hK _ _ (Below.refl _ _) rfl
                      refine BOk.optT rfl [] [12] rfl 18 true rfl rfl rfl rfl (by kernel_rfl) (by kernel_rfl) (by kernel_rfl) (fun hp hc hP qK qa wr hB qO qF hK => ?_) ?_
                      · have e12 : qa.tmps[12]? = some (.pointer (some ⟨wl.heap.size, 0, none⟩)) := qO.1.trans rfl
                        clear qO qF
                        go_simp
                        exact hK _ _ (Below.refl _ _) rfl
                      refine BOk.optT rfl [20] [] rfl 18 true rfl rfl rfl rfl (by kernel_rfl) (by kernel_rfl) (by kernel_rfl) (fun hp hc hP qK qa wr hB qO qF hK => ?_) ?_
                      · have e166 : qa.tmps[166]? = some (.pointer (some ⟨wl.heap.size, 3, none⟩)) := fif qF.1 rfl hP rfl
                        clear qO qF
                        have hx3 := (bcell hB _ _ (World.block_lt_of_cell? _ _ x3)).trans x3
                        go_simp
                        exact hK _ _ (Below.refl _ _) rfl
                      refine BOk.optT rfl [19, 21] [] rfl 18 true rfl rfl rfl rfl (by kernel_rfl) (by kernel_rfl) (by kernel_rfl) (fun hp hc hP qK qa wr hB qO qF hK => ?_) ?_
                      · have e165 : qa.tmps[165]? = some (.map (some wz.heap.size)) := fif qF.1 rfl hP rfl
                        have e167 : qa.tmps[167]? = some (.int .i64 b) := fif qF.2.1 rfl hP rfl
                        clear qO qF
                        refine wp_lookB (.tmp 165) (.tmp 167) rfl (act_evalG e165) (HM.out.old hB) hb (act_evalG e167) ?_
                        exact hK _ _ (Below.refl _ _) rfl
                      refine BOk.cons rfl [18, 22] [] rfl rfl (by kernel_rfl) (by kernel_rfl) (fun qK qa wr hB qO qF hK => ?_) ?_
                      · have e164 : qa.tmps[164]? = some (.bool (((ok && ((dst == 0))) && (decide (0 ≤ a))) && (decide (a < ns)))) := fis qF.1 rfl rfl
                        obtain ⟨u168, e168, r22⟩ := qF.2.1
                        have r22 : u168 = (bif (true && ((((ok && ((dst == 0))) && (decide (0 ≤ a))) && (decide (a < ns))) == true)) then .bool (f b) else undef) := r22
                        clear qO qF
                        rcases (Bool.eq_false_or_eq_true ((((ok && ((dst == 0))) && (decide (0 ≤ a))) && (decide (a < ns))))).symm with hcc | hcc
                        · rw [hcc] at e164
                          go_simp
                          exact hK _ _ (Below.refl _ _) (by show (_ : Value) = _; first | (rw [hcc]; first | rfl | (simp; done)) | (simp_all; done))
                        · rw [hcc] at e164
                          have e168 : qa.tmps[168]? = some (.bool ((f b))) := (show u168 = .bool ((f b)) from r22.trans (by (first | rw [hcc] | skip); first | rfl | (rw [hP]; rfl))) ▸ e168
                          go_simp
                          exact hK _ _ (Below.refl _ _) (by show (_ : Value) = _; first | (rw [hcc]; first | rfl | (simp; done)) | (simp_all; done))
                      exact BOk.nil
                    intro vals wr hl hB hR
                    match vals, hl with
                    | [z146, z147, z148, z149, z150, z151, z152, z153, z154, z155, z156, z157, z158, z159, z160, z161, z162, z163, z164, z165, z166, z167, z168, z169], _ =>
                    have r23 : z169 = .bool ((((ok && ((dst == 0))) && (decide (0 ≤ a))) && (decide (a < ns))) && (f b)) := hR 23 _ rfl
                    subst r23
                    clear hR
                    simp only [List.take_succ_cons, List.take_zero, List.drop_succ_cons, List.drop_zero, List.toList_toArray, List.cons_append, List.nil_append, putAll, Act.put, List.setIfInBounds_toArray, List.set_cons_zero, List.set_cons_succ]
                    replace HC := Lib.hid (HC.out.old hB)
                    replace HM := Lib.hid (MapF.old HM.out hB)
                    replace HS := Lib.hid (MapF.old HS.out hB)
                    replace HX := Lib.hid (HX.out.old hB)
                    replace HB := Lib.hid (HB.out.trans (hB.mono HB.out.size))
                    clear hB x0 x1 x2 x3 c0 c1 c2 c3
                    have x0 := HX.out.cell 0
                    have x1 := HX.out.cell 1
                    have x2 := HX.out.cell 2
                    have x3 := HX.out.cell 3
                    have c0 := HC.out.cell 0
                    have c1 := HC.out.cell 1
                    have c2 := HC.out.cell 2
                    have c3 := HC.out.cell 3
                    go_wp2_with (at_mapUpdate; refine wpList_putF boolE rfl _ _ _ 60 rfl 3 4 Try.underlying3 Try.underlying60 _ _ _ rfl HS.out (by unfold maxLen; omega) _ rfl ha.wf true rfl ?_; intro w3 hm3 hg3)
                    have hb3 := below_gb HB.out hg3 HB.out.size (by omega)
                    have hc3 := HC.out.grown hg3 (by intro e; injection e with e; omega)
                    have hm4 := (MapF.grown HM.out hg3 (by intro e; injection e with e; omega)).mono (Nat.le_succ _)
                    go_wp2_with fail
                    go_roundw
                    case rel => exact ⟨k + 1, _, _, _, by omega, by go_num, rfl, hb3, hc3, hm4, hm3, HR⟩
                    case measure => simp [intOf]; omega
                  have g53 : (op == 53) = false := by rw [beq_eq_false_iff_ne]; exact h53
                  rw [if_neg h52, if_neg h53] at hR
                  have HR := Lib.hid hR
                  clear hR
                  by_cases h50 : op = 50
                  · as_aux_lemma =>
                    subst h50
                    obtain ⟨ok2, hok2⟩ : ∃ o, ((ok && decide (0 ≤ a)) && decide (a < (li.length : Nat))) = o := ⟨_, rfl⟩
                    have hR : (((((ok && decide (0 ≤ a)) && decide (a < (li.length : Nat))) && decide (0 ≤ dst)) && decide (dst < nr)) && refL nr ns li.length lk.length (ll.drop (k + 1)) (updB f dst) g) = R := HR.out
                    rw [hok2] at hR
                    replace HR := Lib.hid hR
                    have HOK := Lib.hid hok2
                    clear hR hok2
                    go_upto_region 33 with fail
                    refine wp_region_st 14 (fun qk => (rgR33 50 dst a b nr ns Ai Ak ci ck li lk ll ok k m f g w wl wz).getD qk .any) (by kernel_rfl) ?_ ?_
                    · refine BOk.consN rfl [] [4] rfl rfl (by kernel_rfl) (by kernel_rfl) (fun qK qa wr hB qO qF hK => ?_) ?_
                      · have e4 : qa.tmps[4]? = some (.bool ok) := qO.1.trans rfl
                        clear qO qF
                        go_simp
                        exact hK _ _ (Below.refl _ _) (by first | rfl | (show (_ : Value) = _; simp_all; done))
                      refine BOk.cons rfl [0] [] rfl rfl (by kernel_rfl) (by kernel_rfl) (fun qK qa wr hB qO qF hK => ?_) ?_
                      · have e177 : qa.tmps[177]? = some (.bool ok) := fis qF.1 rfl rfl
                        clear qO qF
                        go_simp
                        exact hK _ _ (Below.refl _ _) (by first | rfl | (show (_ : Value) = _; simp_all; done))
                      refine BOk.optT rfl [] [12] rfl 1 true rfl rfl rfl rfl (by kernel_rfl) (by kernel_rfl) (by kernel_rfl) (fun hp hc hP qK qa wr hB qO qF hK => ?_) ?_
                      · have e12 : qa.tmps[12]? = some (.pointer (some ⟨wl.heap.size, 0, none⟩)) := qO.1.trans rfl
                        clear qO qF
                        go_simp
                        exact hK _ _ (Below.refl _ _) rfl
                      refine BOk.optT rfl [2] [] rfl 1 true rfl rfl rfl rfl (by kernel_rfl) (by kernel_rfl) (by kernel_rfl) (fun hp hc hP qK qa wr hB qO qF hK => ?_) ?_
                      · have e179 : qa.tmps[179]? = some (.pointer (some ⟨wl.heap.size, 2, none⟩)) := fif qF.1 rfl hP rfl
                        clear qO qF
                        have hx2 := (bcell hB _ _ (World.block_lt_of_cell? _ _ x2)).trans x2
                        go_simp
                        exact hK _ _ (Below.refl _ _) rfl
                      refine BOk.optT rfl [3] [] rfl 1 true rfl rfl rfl rfl (by kernel_rfl) (by kernel_rfl) (by kernel_rfl) (fun hp hc hP qK qa wr hB qO qF hK => ?_) ?_
                      · have e180 : qa.tmps[180]? = some (.int .i64 a) := fif qF.1 rfl hP rfl
                        clear qO qF
                        go_simp
                        refine hK _ _ (Below.refl _ _) ?_
                        show (_ : Value) = _
                        first | rfl | (simp; done) | (simp; omega) | (congr 1; simp; done) | (congr 1; rw [decide_eq_decide]; omega)
                      refine BOk.cons rfl [1, 4] [] rfl rfl (by kernel_rfl) (by kernel_rfl) (fun qK qa wr hB qO qF hK => ?_) ?_
                      · have e178 : qa.tmps[178]? = some (.bool ok) := fis qF.1 rfl rfl
                        obtain ⟨u181, e181, r4⟩ := qF.2.1
                        have r4 : u181 = (bif (true && (ok == true)) then .bool (decide (0 ≤ a)) else undef) := r4
                        clear qO qF
                        rcases (Bool.eq_false_or_eq_true (ok)).symm with hcc | hcc
                        · rw [hcc] at e178
                          go_simp
                          exact hK _ _ (Below.refl _ _) (by show (_ : Value) = _; first | (rw [hcc]; first | rfl | (simp; done)) | (simp_all; done))
                        · rw [hcc] at e178
                          have e181 : qa.tmps[181]? = some (.bool ((decide (0 ≤ a)))) := (show u181 = .bool ((decide (0 ≤ a))) from r4.trans (by (first | rw [hcc] | skip); first | rfl | (rw [hP]; rfl))) ▸ e181
                          go_simp
                          exact hK _ _ (Below.refl _ _) (by show (_ : Value) = _; first | (rw [hcc]; first | rfl | (simp; done)) | (simp_all; done))
                      refine BOk.cons rfl [5] [] rfl rfl (by kernel_rfl) (by kernel_rfl) (fun qK qa wr hB qO qF hK => ?_) ?_
                      · have e182 : qa.tmps[182]? = some (.bool (ok && (decide (0 ≤ a)))) := fis qF.1 rfl rfl
                        clear qO qF
                        go_simp
                        exact hK _ _ (Below.refl _ _) (by first | rfl | (show (_ : Value) = _; simp_all; done))
                      refine BOk.optT rfl [] [12] rfl 6 true rfl rfl rfl rfl (by kernel_rfl) (by kernel_rfl) (by kernel_rfl) (fun hp hc hP qK qa wr hB qO qF hK => ?_) ?_
                      · have e12 : qa.tmps[12]? = some (.pointer (some ⟨wl.heap.size, 0, none⟩)) := qO.1.trans rfl
                        clear qO qF
                        go_simp
                        exact hK _ _ (Below.refl _ _) rfl
                      refine BOk.optT rfl [7] [] rfl 6 true rfl rfl rfl rfl (by kernel_rfl) (by kernel_rfl) (by kernel_rfl) (fun hp hc hP qK qa wr hB qO qF hK => ?_) ?_
                      · have e184 : qa.tmps[184]? = some (.pointer (some ⟨wl.heap.size, 2, none⟩)) := fif qF.1 rfl hP rfl
                        clear qO qF
                        have hx2 := (bcell hB _ _ (World.block_lt_of_cell? _ _ x2)).trans x2
                        go_simp
                        exact hK _ _ (Below.refl _ _) rfl
                      refine BOk.optT rfl [] [1] rfl 6 true rfl rfl rfl rfl (by kernel_rfl) (by kernel_rfl) (by kernel_rfl) (fun hp hc hP qK qa wr hB qO qF hK => ?_) ?_
                      · have e1 : qa.tmps[1]? = some (.pointer (some ⟨w.heap.size, 0, none⟩)) := qO.1.trans rfl
                        clear qO qF
                        go_simp
                        exact hK _ _ (Below.refl _ _) rfl
                      refine BOk.optT rfl [9] [] rfl 6 true rfl rfl rfl rfl (by kernel_rfl) (by kernel_rfl) (by kernel_rfl) (fun hp hc hP qK qa wr hB qO qF hK => ?_) ?_
                      · have e186 : qa.tmps[186]? = some (.pointer (some ⟨w.heap.size, 2, none⟩)) := fif qF.1 rfl hP rfl
                        clear qO qF
                        have hc2 := (bcell hB _ _ (World.block_lt_of_cell? _ _ c2)).trans c2
                        go_simp
                        exact hK _ _ (Below.refl _ _) rfl
                      refine BOk.optT rfl [10] [] rfl 6 true rfl rfl rfl rfl (by kernel_rfl) (by kernel_rfl) (by kernel_rfl) (fun hp hc hP qK qa wr hB qO qF hK => ?_) ?_
                      · have e187 : qa.tmps[187]? = some (.slice Ai li.length ci) := fif qF.1 rfl hP rfl
                        clear qO qF
                        go_simp
                        exact hK _ _ (Below.refl _ _) rfl
                      refine BOk.optT rfl [8, 11] [] rfl 6 true rfl rfl rfl rfl (by kernel_rfl) (by kernel_rfl) (by kernel_rfl) (fun hp hc hP qK qa wr hB qO qF hK => ?_) ?_
                      · have e185 : qa.tmps[185]? = some (.int .i64 a) := fif qF.1 rfl hP rfl
                        have e188 : qa.tmps[188]? = some (.int .i64 (li.length : Nat)) := fif qF.2.1 rfl hP rfl
                        clear qO qF
                        go_simp
                        refine hK _ _ (Below.refl _ _) ?_
                        show (_ : Value) = _
                        first | rfl | (simp; done) | (simp; omega) | (congr 1; simp; done) | (congr 1; rw [decide_eq_decide]; omega)
                      refine BOk.cons rfl [6, 12] [] rfl rfl (by kernel_rfl) (by kernel_rfl) (fun qK qa wr hB qO qF hK => ?_) ?_
                      · have e183 : qa.tmps[183]? = some (.bool (ok && (decide (0 ≤ a)))) := fis qF.1 rfl rfl
                        obtain ⟨u189, e189, r12⟩ := qF.2.1
                        have r12 : u189 = (bif (true && ((ok && (decide (0 ≤ a))) == true)) then .bool (decide (a < (li.length : Nat))) else undef) := r12
                        clear qO qF
                        rcases (Bool.eq_false_or_eq_true ((ok && (decide (0 ≤ a))))).symm with hcc | hcc
                        · rw [hcc] at e183
                          go_simp
                          exact hK _ _ (Below.refl _ _) (by show (_ : Value) = _; first | (rw [hcc]; first | rfl | (simp; done)) | (simp_all; done))
                        · rw [hcc] at e183
                          have e189 : qa.tmps[189]? = some (.bool ((decide (a < (li.length : Nat))))) := (show u189 = .bool ((decide (a < (li.length : Nat)))) from r12.trans (by (first | rw [hcc] | skip); first | rfl | (rw [hP]; rfl))) ▸ e189
                          go_simp
                          exact hK _ _ (Below.refl _ _) (by show (_ : Value) = _; first | (rw [hcc]; first | rfl | (simp; done)) | (simp_all; done))
                      exact BOk.nil
                    intro vals wr hl hB hR
                    match vals, hl with
                    | [z177, z178, z179, z180, z181, z182, z183, z184, z185, z186, z187, z188, z189, z190], _ =>
                    have r13 : z190 = .bool ((ok && (decide (0 ≤ a))) && (decide (a < (li.length : Nat)))) := hR 13 _ rfl
                    subst r13
                    clear hR
                    simp only [List.take_succ_cons, List.take_zero, List.drop_succ_cons, List.drop_zero, List.toList_toArray, List.cons_append, List.nil_append, putAll, Act.put, List.setIfInBounds_toArray, List.set_cons_zero, List.set_cons_succ]
                    rw [show ((ok && (decide (0 ≤ a))) && (decide (a < (li.length : Nat)))) = ok2 from HOK.out]
                    replace HC := Lib.hid (HC.out.old hB)
                    replace HM := Lib.hid (MapF.old HM.out hB)
                    replace HS := Lib.hid (MapF.old HS.out hB)
                    replace HX := Lib.hid (HX.out.old hB)
                    replace HB := Lib.hid (HB.out.trans (hB.mono HB.out.size))
                    clear hB x0 x1 x2 x3 c0 c1 c2 c3
                    have x0 := HX.out.cell 0
                    have x1 := HX.out.cell 1
                    have x2 := HX.out.cell 2
                    have x3 := HX.out.cell 3
                    have c0 := HC.out.cell 0
                    have c1 := HC.out.cell 1
                    have c2 := HC.out.cell 2
                    have c3 := HC.out.cell 3
                    clear HOK
                    go_upto_region 38 with fail
                    refine wp_region_st 13 (fun qk => (rgR38 50 dst a b nr ns Ai Ak ci ck li lk ll ok2 k m f g w wl wz).getD qk .any) (by kernel_rfl) ?_ ?_
                    · refine BOk.consN rfl [] [4] rfl rfl (by kernel_rfl) (by kernel_rfl) (fun qK qa wr hB qO qF hK => ?_) ?_
                      · have e4 : qa.tmps[4]? = some (.bool ok2) := qO.1.trans rfl
                        clear qO qF
                        go_simp
                        exact hK _ _ (Below.refl _ _) (by first | rfl | (show (_ : Value) = _; simp_all; done))
                      refine BOk.cons rfl [0] [] rfl rfl (by kernel_rfl) (by kernel_rfl) (fun qK qa wr hB qO qF hK => ?_) ?_
                      · have e220 : qa.tmps[220]? = some (.bool ok2) := fis qF.1 rfl rfl
                        clear qO qF
                        go_simp
                        exact hK _ _ (Below.refl _ _) (by first | rfl | (show (_ : Value) = _; simp_all; done))
                      refine BOk.optT rfl [] [12] rfl 1 true rfl rfl rfl rfl (by kernel_rfl) (by kernel_rfl) (by kernel_rfl) (fun hp hc hP qK qa wr hB qO qF hK => ?_) ?_
                      · have e12 : qa.tmps[12]? = some (.pointer (some ⟨wl.heap.size, 0, none⟩)) := qO.1.trans rfl
                        clear qO qF
                        go_simp
                        exact hK _ _ (Below.refl _ _) rfl
                      refine BOk.optT rfl [2] [] rfl 1 true rfl rfl rfl rfl (by kernel_rfl) (by kernel_rfl) (by kernel_rfl) (fun hp hc hP qK qa wr hB qO qF hK => ?_) ?_
                      · have e222 : qa.tmps[222]? = some (.pointer (some ⟨wl.heap.size, 1, none⟩)) := fif qF.1 rfl hP rfl
                        clear qO qF
                        have hx1 := (bcell hB _ _ (World.block_lt_of_cell? _ _ x1)).trans x1
                        go_simp
                        exact hK _ _ (Below.refl _ _) rfl
                      refine BOk.optT rfl [3] [] rfl 1 true rfl rfl rfl rfl (by kernel_rfl) (by kernel_rfl) (by kernel_rfl) (fun hp hc hP qK qa wr hB qO qF hK => ?_) ?_
                      · have e223 : qa.tmps[223]? = some (.int .i64 dst) := fif qF.1 rfl hP rfl
                        clear qO qF
                        go_simp
                        refine hK _ _ (Below.refl _ _) ?_
                        show (_ : Value) = _
                        first | rfl | (simp; done) | (simp; omega) | (congr 1; simp; done) | (congr 1; rw [decide_eq_decide]; omega)
                      refine BOk.cons rfl [1, 4] [] rfl rfl (by kernel_rfl) (by kernel_rfl) (fun qK qa wr hB qO qF hK => ?_) ?_
                      · have e221 : qa.tmps[221]? = some (.bool ok2) := fis qF.1 rfl rfl
                        obtain ⟨u224, e224, r4⟩ := qF.2.1
                        have r4 : u224 = (bif (true && (ok2 == true)) then .bool (decide (0 ≤ dst)) else undef) := r4
                        clear qO qF
                        rcases (Bool.eq_false_or_eq_true (ok2)).symm with hcc | hcc
                        · rw [hcc] at e221
                          go_simp
                          exact hK _ _ (Below.refl _ _) (by show (_ : Value) = _; first | (rw [hcc]; first | rfl | (simp; done)) | (simp_all; done))
                        · rw [hcc] at e221
                          have e224 : qa.tmps[224]? = some (.bool ((decide (0 ≤ dst)))) := (show u224 = .bool ((decide (0 ≤ dst))) from r4.trans (by (first | rw [hcc] | skip); first | rfl | (rw [hP]; rfl))) ▸ e224
                          go_simp
                          exact hK _ _ (Below.refl _ _) (by show (_ : Value) = _; first | (rw [hcc]; first | rfl | (simp; done)) | (simp_all; done))
                      refine BOk.cons rfl [5] [] rfl rfl (by kernel_rfl) (by kernel_rfl) (fun qK qa wr hB qO qF hK => ?_) ?_
                      · have e225 : qa.tmps[225]? = some (.bool (ok2 && (decide (0 ≤ dst)))) := fis qF.1 rfl rfl
                        clear qO qF
                        go_simp
                        exact hK _ _ (Below.refl _ _) (by first | rfl | (show (_ : Value) = _; simp_all; done))
                      refine BOk.optT rfl [] [12] rfl 6 true rfl rfl rfl rfl (by kernel_rfl) (by kernel_rfl) (by kernel_rfl) (fun hp hc hP qK qa wr hB qO qF hK => ?_) ?_
                      · have e12 : qa.tmps[12]? = some (.pointer (some ⟨wl.heap.size, 0, none⟩)) := qO.1.trans rfl
                        clear qO qF
                        go_simp
                        exact hK _ _ (Below.refl _ _) rfl
                      refine BOk.optT rfl [7] [] rfl 6 true rfl rfl rfl rfl (by kernel_rfl) (by kernel_rfl) (by kernel_rfl) (fun hp hc hP qK qa wr hB qO qF hK => ?_) ?_
                      · have e227 : qa.tmps[227]? = some (.pointer (some ⟨wl.heap.size, 1, none⟩)) := fif qF.1 rfl hP rfl
                        clear qO qF
                        have hx1 := (bcell hB _ _ (World.block_lt_of_cell? _ _ x1)).trans x1
                        go_simp
                        exact hK _ _ (Below.refl _ _) rfl
                      refine BOk.optT rfl [] [1] rfl 6 true rfl rfl rfl rfl (by kernel_rfl) (by kernel_rfl) (by kernel_rfl) (fun hp hc hP qK qa wr hB qO qF hK => ?_) ?_
                      · have e1 : qa.tmps[1]? = some (.pointer (some ⟨w.heap.size, 0, none⟩)) := qO.1.trans rfl
                        clear qO qF
                        go_simp
                        exact hK _ _ (Below.refl _ _) rfl
                      refine BOk.optT rfl [9] [] rfl 6 true rfl rfl rfl rfl (by kernel_rfl) (by kernel_rfl) (by kernel_rfl) (fun hp hc hP qK qa wr hB qO qF hK => ?_) ?_
                      · have e229 : qa.tmps[229]? = some (.pointer (some ⟨w.heap.size, 0, none⟩)) := fif qF.1 rfl hP rfl
                        clear qO qF
                        have hc0 := (bcell hB _ _ (World.block_lt_of_cell? _ _ c0)).trans c0
                        go_simp
                        exact hK _ _ (Below.refl _ _) rfl
                      refine BOk.optT rfl [8, 10] [] rfl 6 true rfl rfl rfl rfl (by kernel_rfl) (by kernel_rfl) (by kernel_rfl) (fun hp hc hP qK qa wr hB qO qF hK => ?_) ?_
                      · have e228 : qa.tmps[228]? = some (.int .i64 dst) := fif qF.1 rfl hP rfl
                        have e230 : qa.tmps[230]? = some (.int .i64 nr) := fif qF.2.1 rfl hP rfl
                        clear qO qF
                        go_simp
                        refine hK _ _ (Below.refl _ _) ?_
                        show (_ : Value) = _
                        first | rfl | (simp; done) | (simp; omega) | (congr 1; simp; done) | (congr 1; rw [decide_eq_decide]; omega)
                      refine BOk.cons rfl [6, 11] [] rfl rfl (by kernel_rfl) (by kernel_rfl) (fun qK qa wr hB qO qF hK => ?_) ?_
                      · have e226 : qa.tmps[226]? = some (.bool (ok2 && (decide (0 ≤ dst)))) := fis qF.1 rfl rfl
                        obtain ⟨u231, e231, r11⟩ := qF.2.1
                        have r11 : u231 = (bif (true && ((ok2 && (decide (0 ≤ dst))) == true)) then .bool (decide (dst < nr)) else undef) := r11
                        clear qO qF
                        rcases (Bool.eq_false_or_eq_true ((ok2 && (decide (0 ≤ dst))))).symm with hcc | hcc
                        · rw [hcc] at e226
                          go_simp
                          exact hK _ _ (Below.refl _ _) (by show (_ : Value) = _; first | (rw [hcc]; first | rfl | (simp; done)) | (simp_all; done))
                        · rw [hcc] at e226
                          have e231 : qa.tmps[231]? = some (.bool ((decide (dst < nr)))) := (show u231 = .bool ((decide (dst < nr))) from r11.trans (by (first | rw [hcc] | skip); first | rfl | (rw [hP]; rfl))) ▸ e231
                          go_simp
                          exact hK _ _ (Below.refl _ _) (by show (_ : Value) = _; first | (rw [hcc]; first | rfl | (simp; done)) | (simp_all; done))
                      exact BOk.nil
                    intro vals wr hl hB hR
                    match vals, hl with
                    | [y220, y221, y222, y223, y224, y225, y226, y227, y228, y229, y230, y231, y232], _ =>
                    have r12 : y232 = .bool ((ok2 && (decide (0 ≤ dst))) && (decide (dst < nr))) := hR 12 _ rfl
                    subst r12
                    clear hR
                    simp only [List.take_succ_cons, List.take_zero, List.drop_succ_cons, List.drop_zero, List.toList_toArray, List.cons_append, List.nil_append, putAll, Act.put, List.setIfInBounds_toArray, List.set_cons_zero, List.set_cons_succ]
                    obtain ⟨ok3, hok3⟩ : ∃ o, ((ok2 && decide (0 ≤ dst)) && decide (dst < nr)) = o := ⟨_, rfl⟩
                    have hR := HR.out
                    rw [hok3] at hR
                    replace HR := Lib.hid hR
                    rw [show ((ok2 && (decide (0 ≤ dst))) && (decide (dst < nr))) = ok3 from hok3]
                    clear hok3 hR
                    replace HC := Lib.hid (HC.out.old hB)
                    replace HM := Lib.hid (MapF.old HM.out hB)
                    replace HS := Lib.hid (MapF.old HS.out hB)
                    replace HX := Lib.hid (HX.out.old hB)
                    replace HB := Lib.hid (HB.out.trans (hB.mono HB.out.size))
                    clear hB x0 x1 x2 x3 c0 c1 c2 c3
                    have x0 := HX.out.cell 0
                    have x1 := HX.out.cell 1
                    have x2 := HX.out.cell 2
                    have x3 := HX.out.cell 3
                    have c0 := HC.out.cell 0
                    have c1 := HC.out.cell 1
                    have c2 := HC.out.cell 2
                    have c3 := HC.out.cell 3
                    go_wp2_with (at_mapUpdate; refine wpList_putF boolE rfl _ _ _ 60 rfl 3 4 Try.underlying3 Try.underlying60 _ _ _ rfl HM.out (by unfold maxLen; omega) _ rfl hd.wf true rfl ?_; intro w3 hm3 hg3)
                    have hb3 := below_gb HB.out hg3 HB.out.size (by omega)
                    have hc3 := HC.out.grown hg3 (by intro e; injection e with e; omega)
                    have hs4 := (MapF.grown HS.out hg3 (by intro e; injection e with e; omega)).mono (Nat.le_succ _)
                    go_wp2_with fail
                    go_roundw
                    case rel => exact ⟨k + 1, _, _, _, by omega, by go_num, rfl, hb3, hc3, hm3, hs4, HR⟩
                    case measure => simp [intOf]; omega
                  by_cases h51 : op = 51
                  · as_aux_lemma =>
                    subst h51
                    obtain ⟨ok2, hok2⟩ : ∃ o, ((ok && decide (0 ≤ a)) && decide (a < (lk.length : Nat))) = o := ⟨_, rfl⟩
                    have hR : (((((ok && decide (0 ≤ a)) && decide (a < (lk.length : Nat))) && decide (0 ≤ dst)) && decide (dst < nr)) && refL nr ns li.length lk.length (ll.drop (k + 1)) (updB f dst) g) = R := HR.out
                    rw [hok2] at hR
                    replace HR := Lib.hid hR
                    have HOK := Lib.hid hok2
                    clear hR hok2
                    go_upto_region 35 with fail
                    refine wp_region_st 14 (fun qk => (rgR35 51 dst a b nr ns Ai Ak ci ck li lk ll ok k m f g w wl wz).getD qk .any) (by kernel_rfl) ?_ ?_
                    · refine BOk.consN rfl [] [4] rfl rfl (by kernel_rfl) (by kernel_rfl) (fun qK qa wr hB qO qF hK => ?_) ?_
                      · have e4 : qa.tmps[4]? = some (.bool ok) := qO.1.trans rfl
                        clear qO qF
                        go_simp
                        exact hK _ _ (Below.refl _ _) (by first | rfl | (show (_ : Value) = _; simp_all; done))
                      refine BOk.cons rfl [0] [] rfl rfl (by kernel_rfl) (by kernel_rfl) (fun qK qa wr hB qO qF hK => ?_) ?_
                      · have e195 : qa.tmps[195]? = some (.bool ok) := fis qF.1 rfl rfl
                        clear qO qF
                        go_simp
                        exact hK _ _ (Below.refl _ _) (by first | rfl | (show (_ : Value) = _; simp_all; done))
                      refine BOk.optT rfl [] [12] rfl 1 true rfl rfl rfl rfl (by kernel_rfl) (by kernel_rfl) (by kernel_rfl) (fun hp hc hP qK qa wr hB qO qF hK => ?_) ?_
                      · have e12 : qa.tmps[12]? = some (.pointer (some ⟨wl.heap.size, 0, none⟩)) := qO.1.trans rfl
                        clear qO qF
                        go_simp
                        exact hK _ _ (Below.refl _ _) rfl
                      refine BOk.optT rfl [2] [] rfl 1 true rfl rfl rfl rfl (by kernel_rfl) (by kernel_rfl) (by kernel_rfl) (fun hp hc hP qK qa wr hB qO qF hK => ?_) ?_
                      · have e197 : qa.tmps[197]? = some (.pointer (some ⟨wl.heap.size, 2, none⟩)) := fif qF.1 rfl hP rfl
                        clear qO qF
                        have hx2 := (bcell hB _ _ (World.block_lt_of_cell? _ _ x2)).trans x2
                        go_simp
                        exact hK _ _ (Below.refl _ _) rfl
                      refine BOk.optT rfl [3] [] rfl 1 true rfl rfl rfl rfl (by kernel_rfl) (by kernel_rfl) (by kernel_rfl) (fun hp hc hP qK qa wr hB qO qF hK => ?_) ?_
                      · have e198 : qa.tmps[198]? = some (.int .i64 a) := fif qF.1 rfl hP rfl
                        clear qO qF
                        go_simp
                        refine hK _ _ (Below.refl _ _) ?_
                        show (_ : Value) = _
                        first | rfl | (simp; done) | (simp; omega) | (congr 1; simp; done) | (congr 1; rw [decide_eq_decide]; omega)
                      refine BOk.cons rfl [1, 4] [] rfl rfl (by kernel_rfl) (by kernel_rfl) (fun qK qa wr hB qO qF hK => ?_) ?_
                      · have e196 : qa.tmps[196]? = some (.bool ok) := fis qF.1 rfl rfl
                        obtain ⟨u199, e199, r4⟩ := qF.2.1
                        have r4 : u199 = (bif (true && (ok == true)) then .bool (decide (0 ≤ a)) else undef) := r4
                        clear qO qF
                        rcases (Bool.eq_false_or_eq_true (ok)).symm with hcc | hcc
                        · rw [hcc] at e196
                          go_simp
                          exact hK _ _ (Below.refl _ _) (by show (_ : Value) = _; first | (rw [hcc]; first | rfl | (simp; done)) | (simp_all; done))
                        · rw [hcc] at e196
                          have e199 : qa.tmps[199]? = some (.bool ((decide (0 ≤ a)))) := (show u199 = .bool ((decide (0 ≤ a))) from r4.trans (by (first | rw [hcc] | skip); first | rfl | (rw [hP]; rfl))) ▸ e199
                          go_simp
                          exact hK _ _ (Below.refl _ _) (by show (_ : Value) = _; first | (rw [hcc]; first | rfl | (simp; done)) | (simp_all; done))
                      refine BOk.cons rfl [5] [] rfl rfl (by kernel_rfl) (by kernel_rfl) (fun qK qa wr hB qO qF hK => ?_) ?_
                      · have e200 : qa.tmps[200]? = some (.bool (ok && (decide (0 ≤ a)))) := fis qF.1 rfl rfl
                        clear qO qF
                        go_simp
                        exact hK _ _ (Below.refl _ _) (by first | rfl | (show (_ : Value) = _; simp_all; done))
                      refine BOk.optT rfl [] [12] rfl 6 true rfl rfl rfl rfl (by kernel_rfl) (by kernel_rfl) (by kernel_rfl) (fun hp hc hP qK qa wr hB qO qF hK => ?_) ?_
                      · have e12 : qa.tmps[12]? = some (.pointer (some ⟨wl.heap.size, 0, none⟩)) := qO.1.trans rfl
                        clear qO qF
                        go_simp
                        exact hK _ _ (Below.refl _ _) rfl
                      refine BOk.optT rfl [7] [] rfl 6 true rfl rfl rfl rfl (by kernel_rfl) (by kernel_rfl) (by kernel_rfl) (fun hp hc hP qK qa wr hB qO qF hK => ?_) ?_
                      · have e202 : qa.tmps[202]? = some (.pointer (some ⟨wl.heap.size, 2, none⟩)) := fif qF.1 rfl hP rfl
                        clear qO qF
                        have hx2 := (bcell hB _ _ (World.block_lt_of_cell? _ _ x2)).trans x2
                        go_simp
                        exact hK _ _ (Below.refl _ _) rfl
                      refine BOk.optT rfl [] [1] rfl 6 true rfl rfl rfl rfl (by kernel_rfl) (by kernel_rfl) (by kernel_rfl) (fun hp hc hP qK qa wr hB qO qF hK => ?_) ?_
                      · have e1 : qa.tmps[1]? = some (.pointer (some ⟨w.heap.size, 0, none⟩)) := qO.1.trans rfl
                        clear qO qF
                        go_simp
                        exact hK _ _ (Below.refl _ _) rfl
                      refine BOk.optT rfl [9] [] rfl 6 true rfl rfl rfl rfl (by kernel_rfl) (by kernel_rfl) (by kernel_rfl) (fun hp hc hP qK qa wr hB qO qF hK => ?_) ?_
                      · have e204 : qa.tmps[204]? = some (.pointer (some ⟨w.heap.size, 3, none⟩)) := fif qF.1 rfl hP rfl
                        clear qO qF
                        have hc3 := (bcell hB _ _ (World.block_lt_of_cell? _ _ c3)).trans c3
                        go_simp
                        exact hK _ _ (Below.refl _ _) rfl
                      refine BOk.optT rfl [10] [] rfl 6 true rfl rfl rfl rfl (by kernel_rfl) (by kernel_rfl) (by kernel_rfl) (fun hp hc hP qK qa wr hB qO qF hK => ?_) ?_
                      · have e205 : qa.tmps[205]? = some (.slice Ak lk.length ck) := fif qF.1 rfl hP rfl
                        clear qO qF
                        go_simp
                        exact hK _ _ (Below.refl _ _) rfl
                      refine BOk.optT rfl [8, 11] [] rfl 6 true rfl rfl rfl rfl (by kernel_rfl) (by kernel_rfl) (by kernel_rfl) (fun hp hc hP qK qa wr hB qO qF hK => ?_) ?_
                      · have e203 : qa.tmps[203]? = some (.int .i64 a) := fif qF.1 rfl hP rfl
                        have e206 : qa.tmps[206]? = some (.int .i64 (lk.length : Nat)) := fif qF.2.1 rfl hP rfl
                        clear qO qF
                        go_simp
                        refine hK _ _ (Below.refl _ _) ?_
                        show (_ : Value) = _
                        first | rfl | (simp; done) | (simp; omega) | (congr 1; simp; done) | (congr 1; rw [decide_eq_decide]; omega)
                      refine BOk.cons rfl [6, 12] [] rfl rfl (by kernel_rfl) (by kernel_rfl) (fun qK qa wr hB qO qF hK => ?_) ?_
                      · have e201 : qa.tmps[201]? = some (.bool (ok && (decide (0 ≤ a)))) := fis qF.1 rfl rfl
                        obtain ⟨u207, e207, r12⟩ := qF.2.1
                        have r12 : u207 = (bif (true && ((ok && (decide (0 ≤ a))) == true)) then .bool (decide (a < (lk.length : Nat))) else undef) := r12
                        clear qO qF
                        rcases (Bool.eq_false_or_eq_true ((ok && (decide (0 ≤ a))))).symm with hcc | hcc
                        · rw [hcc] at e201
                          go_simp
                          exact hK _ _ (Below.refl _ _) (by show (_ : Value) = _; first | (rw [hcc]; first | rfl | (simp; done)) | (simp_all; done))
                        · rw [hcc] at e201
                          have e207 : qa.tmps[207]? = some (.bool ((decide (a < (lk.length : Nat))))) := (show u207 = .bool ((decide (a < (lk.length : Nat)))) from r12.trans (by (first | rw [hcc] | skip); first | rfl | (rw [hP]; rfl))) ▸ e207
                          go_simp
                          exact hK _ _ (Below.refl _ _) (by show (_ : Value) = _; first | (rw [hcc]; first | rfl | (simp; done)) | (simp_all; done))
                      exact BOk.nil
                    intro vals wr hl hB hR
                    match vals, hl with
                    | [z195, z196, z197, z198, z199, z200, z201, z202, z203, z204, z205, z206, z207, z208], _ =>
                    have r13 : z208 = .bool ((ok && (decide (0 ≤ a))) && (decide (a < (lk.length : Nat)))) := hR 13 _ rfl
                    subst r13
                    clear hR
                    simp only [List.take_succ_cons, List.take_zero, List.drop_succ_cons, List.drop_zero, List.toList_toArray, List.cons_append, List.nil_append, putAll, Act.put, List.setIfInBounds_toArray, List.set_cons_zero, List.set_cons_succ]
                    rw [show ((ok && (decide (0 ≤ a))) && (decide (a < (lk.length : Nat)))) = ok2 from HOK.out]
                    replace HC := Lib.hid (HC.out.old hB)
                    replace HM := Lib.hid (MapF.old HM.out hB)
                    replace HS := Lib.hid (MapF.old HS.out hB)
                    replace HX := Lib.hid (HX.out.old hB)
                    replace HB := Lib.hid (HB.out.trans (hB.mono HB.out.size))
                    clear hB x0 x1 x2 x3 c0 c1 c2 c3
                    have x0 := HX.out.cell 0
                    have x1 := HX.out.cell 1
                    have x2 := HX.out.cell 2
                    have x3 := HX.out.cell 3
                    have c0 := HC.out.cell 0
                    have c1 := HC.out.cell 1
                    have c2 := HC.out.cell 2
                    have c3 := HC.out.cell 3
                    clear HOK
                    go_upto_region 38 with fail
                    refine wp_region_st 13 (fun qk => (rgR38 51 dst a b nr ns Ai Ak ci ck li lk ll ok2 k m f g w wl wz).getD qk .any) (by kernel_rfl) ?_ ?_
                    · refine BOk.consN rfl [] [4] rfl rfl (by kernel_rfl) (by kernel_rfl) (fun qK qa wr hB qO qF hK => ?_) ?_
                      · have e4 : qa.tmps[4]? = some (.bool ok2) := qO.1.trans rfl
                        clear qO qF
                        go_simp
                        exact hK _ _ (Below.refl _ _) (by first | rfl | (show (_ : Value) = _; simp_all; done))
                      refine BOk.cons rfl [0] [] rfl rfl (by kernel_rfl) (by kernel_rfl) (fun qK qa wr hB qO qF hK => ?_) ?_
                      · have e220 : qa.tmps[220]? = some (.bool ok2) := fis qF.1 rfl rfl
                        clear qO qF
                        go_simp
                        exact hK _ _ (Below.refl _ _) (by first | rfl | (show (_ : Value) = _; simp_all; done))
                      refine BOk.optT rfl [] [12] rfl 1 true rfl rfl rfl rfl (by kernel_rfl) (by kernel_rfl) (by kernel_rfl) (fun hp hc hP qK qa wr hB qO qF hK => ?_) ?_
                      · have e12 : qa.tmps[12]? = some (.pointer (some ⟨wl.heap.size, 0, none⟩)) := qO.1.trans rfl
                        clear qO qF
                        go_simp
                        exact hK _ _ (Below.refl _ _) rfl
                      refine BOk.optT rfl [2] [] rfl 1 true rfl rfl rfl rfl (by kernel_rfl) (by kernel_rfl) (by kernel_rfl) (fun hp hc hP qK qa wr hB qO qF hK => ?_) ?_
                      · have e222 : qa.tmps[222]? = some (.pointer (some ⟨wl.heap.size, 1, none⟩)) := fif qF.1 rfl hP rfl
                        clear qO qF
                        have hx1 := (bcell hB _ _ (World.block_lt_of_cell? _ _ x1)).trans x1
                        go_simp
                        exact hK _ _ (Below.refl _ _) rfl
                      refine BOk.optT rfl [3] [] rfl 1 true rfl rfl rfl rfl (by kernel_rfl) (by kernel_rfl) (by kernel_rfl) (fun hp hc hP qK qa wr hB qO qF hK => ?_) ?_
                      · have e223 : qa.tmps[223]? = some (.int .i64 dst) := fif qF.1 rfl hP rfl
                        clear qO qF
                        go_simp
                        refine hK _ _ (Below.refl _ _) ?_
                        show (_ : Value) = _
                        first | rfl | (simp; done) | (simp; omega) | (congr 1; simp; done) | (congr 1; rw [decide_eq_decide]; omega)
                      refine BOk.cons rfl [1, 4] [] rfl rfl (by kernel_rfl) (by kernel_rfl) (fun qK qa wr hB qO qF hK => ?_) ?_
                      · have e221 : qa.tmps[221]? = some (.bool ok2) := fis qF.1 rfl rfl
                        obtain ⟨u224, e224, r4⟩ := qF.2.1
                        have r4 : u224 = (bif (true && (ok2 == true)) then .bool (decide (0 ≤ dst)) else undef) := r4
                        clear qO qF
                        rcases (Bool.eq_false_or_eq_true (ok2)).symm with hcc | hcc
                        · rw [hcc] at e221
                          go_simp
                          exact hK _ _ (Below.refl _ _) (by show (_ : Value) = _; first | (rw [hcc]; first | rfl | (simp; done)) | (simp_all; done))
                        · rw [hcc] at e221
                          have e224 : qa.tmps[224]? = some (.bool ((decide (0 ≤ dst)))) := (show u224 = .bool ((decide (0 ≤ dst))) from r4.trans (by (first | rw [hcc] | skip); first | rfl | (rw [hP]; rfl))) ▸ e224
                          go_simp
                          exact hK _ _ (Below.refl _ _) (by show (_ : Value) = _; first | (rw [hcc]; first | rfl | (simp; done)) | (simp_all; done))
                      refine BOk.cons rfl [5] [] rfl rfl (by kernel_rfl) (by kernel_rfl) (fun qK qa wr hB qO qF hK => ?_) ?_
                      · have e225 : qa.tmps[225]? = some (.bool (ok2 && (decide (0 ≤ dst)))) := fis qF.1 rfl rfl
                        clear qO qF
                        go_simp
                        exact hK _ _ (Below.refl _ _) (by first | rfl | (show (_ : Value) = _; simp_all; done))
                      refine BOk.optT rfl [] [12] rfl 6 true rfl rfl rfl rfl (by kernel_rfl) (by kernel_rfl) (by kernel_rfl) (fun hp hc hP qK qa wr hB qO qF hK => ?_) ?_
                      · have e12 : qa.tmps[12]? = some (.pointer (some ⟨wl.heap.size, 0, none⟩)) := qO.1.trans rfl
                        clear qO qF
                        go_simp
                        exact hK _ _ (Below.refl _ _) rfl
                      refine BOk.optT rfl [7] [] rfl 6 true rfl rfl rfl rfl (by kernel_rfl) (by kernel_rfl) (by kernel_rfl) (fun hp hc hP qK qa wr hB qO qF hK => ?_) ?_
                      · have e227 : qa.tmps[227]? = some (.pointer (some ⟨wl.heap.size, 1, none⟩)) := fif qF.1 rfl hP rfl
                        clear qO qF
                        have hx1 := (bcell hB _ _ (World.block_lt_of_cell? _ _ x1)).trans x1
                        go_simp
                        exact hK _ _ (Below.refl _ _) rfl
                      refine BOk.optT rfl [] [1] rfl 6 true rfl rfl rfl rfl (by kernel_rfl) (by kernel_rfl) (by kernel_rfl) (fun hp hc hP qK qa wr hB qO qF hK => ?_) ?_
                      · have e1 : qa.tmps[1]? = some (.pointer (some ⟨w.heap.size, 0, none⟩)) := qO.1.trans rfl
                        clear qO qF
                        go_simp
                        exact hK _ _ (Below.refl _ _) rfl
                      refine BOk.optT rfl [9] [] rfl 6 true rfl rfl rfl rfl (by kernel_rfl) (by kernel_rfl) (by kernel_rfl) (fun hp hc hP qK qa wr hB qO qF hK => ?_) ?_
                      · have e229 : qa.tmps[229]? = some (.pointer (some ⟨w.heap.size, 0, none⟩)) := fif qF.1 rfl hP rfl
                        clear qO qF
                        have hc0 := (bcell hB _ _ (World.block_lt_of_cell? _ _ c0)).trans c0
                        go_simp
                        exact hK _ _ (Below.refl _ _) rfl
                      refine BOk.optT rfl [8, 10] [] rfl 6 true rfl rfl rfl rfl (by kernel_rfl) (by kernel_rfl) (by kernel_rfl) (fun hp hc hP qK qa wr hB qO qF hK => ?_) ?_
                      · have e228 : qa.tmps[228]? = some (.int .i64 dst) := fif qF.1 rfl hP rfl
                        have e230 : qa.tmps[230]? = some (.int .i64 nr) := fif qF.2.1 rfl hP rfl
                        clear qO qF
                        go_simp
                        refine hK _ _ (Below.refl _ _) ?_
                        show (_ : Value) = _
                        first | rfl | (simp; done) | (simp; omega) | (congr 1; simp; done) | (congr 1; rw [decide_eq_decide]; omega)
                      refine BOk.cons rfl [6, 11] [] rfl rfl (by kernel_rfl) (by kernel_rfl) (fun qK qa wr hB qO qF hK => ?_) ?_
                      · have e226 : qa.tmps[226]? = some (.bool (ok2 && (decide (0 ≤ dst)))) := fis qF.1 rfl rfl
                        obtain ⟨u231, e231, r11⟩ := qF.2.1
                        have r11 : u231 = (bif (true && ((ok2 && (decide (0 ≤ dst))) == true)) then .bool (decide (dst < nr)) else undef) := r11
                        clear qO qF
                        rcases (Bool.eq_false_or_eq_true ((ok2 && (decide (0 ≤ dst))))).symm with hcc | hcc
                        · rw [hcc] at e226
                          go_simp
                          exact hK _ _ (Below.refl _ _) (by show (_ : Value) = _; first | (rw [hcc]; first | rfl | (simp; done)) | (simp_all; done))
                        · rw [hcc] at e226
                          have e231 : qa.tmps[231]? = some (.bool ((decide (dst < nr)))) := (show u231 = .bool ((decide (dst < nr))) from r11.trans (by (first | rw [hcc] | skip); first | rfl | (rw [hP]; rfl))) ▸ e231
                          go_simp
                          exact hK _ _ (Below.refl _ _) (by show (_ : Value) = _; first | (rw [hcc]; first | rfl | (simp; done)) | (simp_all; done))
                      exact BOk.nil
                    intro vals wr hl hB hR
                    match vals, hl with
                    | [y220, y221, y222, y223, y224, y225, y226, y227, y228, y229, y230, y231, y232], _ =>
                    have r12 : y232 = .bool ((ok2 && (decide (0 ≤ dst))) && (decide (dst < nr))) := hR 12 _ rfl
                    subst r12
                    clear hR
                    simp only [List.take_succ_cons, List.take_zero, List.drop_succ_cons, List.drop_zero, List.toList_toArray, List.cons_append, List.nil_append, putAll, Act.put, List.setIfInBounds_toArray, List.set_cons_zero, List.set_cons_succ]
                    obtain ⟨ok3, hok3⟩ : ∃ o, ((ok2 && decide (0 ≤ dst)) && decide (dst < nr)) = o := ⟨_, rfl⟩
                    have hR := HR.out
                    rw [hok3] at hR
                    replace HR := Lib.hid hR
                    rw [show ((ok2 && (decide (0 ≤ dst))) && (decide (dst < nr))) = ok3 from hok3]
                    clear hok3 hR
                    replace HC := Lib.hid (HC.out.old hB)
                    replace HM := Lib.hid (MapF.old HM.out hB)
                    replace HS := Lib.hid (MapF.old HS.out hB)
                    replace HX := Lib.hid (HX.out.old hB)
                    replace HB := Lib.hid (HB.out.trans (hB.mono HB.out.size))
                    clear hB x0 x1 x2 x3 c0 c1 c2 c3
                    have x0 := HX.out.cell 0
                    have x1 := HX.out.cell 1
                    have x2 := HX.out.cell 2
                    have x3 := HX.out.cell 3
                    have c0 := HC.out.cell 0
                    have c1 := HC.out.cell 1
                    have c2 := HC.out.cell 2
                    have c3 := HC.out.cell 3
                    go_wp2_with (at_mapUpdate; refine wpList_putF boolE rfl _ _ _ 60 rfl 3 4 Try.underlying3 Try.underlying60 _ _ _ rfl HM.out (by unfold maxLen; omega) _ rfl hd.wf true rfl ?_; intro w3 hm3 hg3)
                    have hb3 := below_gb HB.out hg3 HB.out.size (by omega)
                    have hc3 := HC.out.grown hg3 (by intro e; injection e with e; omega)
                    have hs4 := (MapF.grown HS.out hg3 (by intro e; injection e with e; omega)).mono (Nat.le_succ _)
                    go_wp2_with fail
                    go_roundw
                    case rel => exact ⟨k + 1, _, _, _, by omega, by go_num, rfl, hb3, hc3, hm3, hs4, HR⟩
                    case measure => simp [intOf]; omega
                  by_cases h54 : op = 54
                  · as_aux_lemma =>
                    subst h54
                    obtain ⟨ok2, hok2⟩ : ∃ o, (ok && g a) = o := ⟨_, rfl⟩
                    have hR : ((((ok && g a) && decide (0 ≤ dst)) && decide (dst < nr)) && refL nr ns li.length lk.length (ll.drop (k + 1)) (updB f dst) g) = R := HR.out
                    rw [hok2] at hR
                    replace HR := Lib.hid hR
                    have HOK := Lib.hid hok2
                    clear hR hok2
                    go_upto_region 37 with fail
                    refine wp_region_st 7 (fun qk => (rgR37 54 dst a b nr ns Ai Ak ci ck li lk ll ok k m f g w wl wz).getD qk .any) (by kernel_rfl) ?_ ?_
                    · refine BOk.consN rfl [] [4] rfl rfl (by kernel_rfl) (by kernel_rfl) (fun qK qa wr hB qO qF hK => ?_) ?_
                      · have e4 : qa.tmps[4]? = some (.bool ok) := qO.1.trans rfl
                        clear qO qF
                        go_simp
                        exact hK _ _ (Below.refl _ _) (by first | rfl | (show (_ : Value) = _; simp_all; done))
                      refine BOk.cons rfl [0] [] rfl rfl (by kernel_rfl) (by kernel_rfl) (fun qK qa wr hB qO qF hK => ?_) ?_
                      · have e213 : qa.tmps[213]? = some (.bool ok) := fis qF.1 rfl rfl
                        clear qO qF
                        go_simp
                        exact hK _ _ (Below.refl _ _) (by first | rfl | (show (_ : Value) = _; simp_all; done))
                      refine BOk.optT rfl [] [10] rfl 1 true rfl rfl rfl rfl (by kernel_rfl) (by kernel_rfl) (by kernel_rfl) (fun hp hc hP qK qa wr hB qO qF hK => ?_) ?_
                      · have e10 : qa.tmps[10]? = some (.map (some (wz.heap.size + 1))) := qO.1.trans rfl
                        clear qO qF
                        go_simp
                        exact hK _ _ (Below.refl _ _) rfl
                      refine BOk.optT rfl [] [12] rfl 1 true rfl rfl rfl rfl (by kernel_rfl) (by kernel_rfl) (by kernel_rfl) (fun hp hc hP qK qa wr hB qO qF hK => ?_) ?_
                      · have e12 : qa.tmps[12]? = some (.pointer (some ⟨wl.heap.size, 0, none⟩)) := qO.1.trans rfl
                        clear qO qF
                        go_simp
                        exact hK _ _ (Below.refl _ _) rfl
                      refine BOk.optT rfl [3] [] rfl 1 true rfl rfl rfl rfl (by kernel_rfl) (by kernel_rfl) (by kernel_rfl) (fun hp hc hP qK qa wr hB qO qF hK => ?_) ?_
                      · have e216 : qa.tmps[216]? = some (.pointer (some ⟨wl.heap.size, 2, none⟩)) := fif qF.1 rfl hP rfl
                        clear qO qF
                        have hx2 := (bcell hB _ _ (World.block_lt_of_cell? _ _ x2)).trans x2
                        go_simp
                        exact hK _ _ (Below.refl _ _) rfl
                      refine BOk.optT rfl [2, 4] [] rfl 1 true rfl rfl rfl rfl (by kernel_rfl) (by kernel_rfl) (by kernel_rfl) (fun hp hc hP qK qa wr hB qO qF hK => ?_) ?_
                      · have e215 : qa.tmps[215]? = some (.map (some (wz.heap.size + 1))) := fif qF.1 rfl hP rfl
                        have e217 : qa.tmps[217]? = some (.int .i64 a) := fif qF.2.1 rfl hP rfl
                        clear qO qF
                        refine wp_lookB (.tmp 215) (.tmp 217) rfl (act_evalG e215) (HS.out.old hB) ha (act_evalG e217) ?_
                        exact hK _ _ (Below.refl _ _) rfl
                      refine BOk.cons rfl [1, 5] [] rfl rfl (by kernel_rfl) (by kernel_rfl) (fun qK qa wr hB qO qF hK => ?_) ?_
                      · have e214 : qa.tmps[214]? = some (.bool ok) := fis qF.1 rfl rfl
                        obtain ⟨u218, e218, r5⟩ := qF.2.1
                        have r5 : u218 = (bif (true && (ok == true)) then .bool (g a) else undef) := r5
                        clear qO qF
                        rcases (Bool.eq_false_or_eq_true (ok)).symm with hcc | hcc
                        · rw [hcc] at e214
                          go_simp
                          exact hK _ _ (Below.refl _ _) (by show (_ : Value) = _; first | (rw [hcc]; first | rfl | (simp; done)) | (simp_all; done))
                        · rw [hcc] at e214
                          have e218 : qa.tmps[218]? = some (.bool ((g a))) := (show u218 = .bool ((g a)) from r5.trans (by (first | rw [hcc] | skip); first | rfl | (rw [hP]; rfl))) ▸ e218
                          go_simp
                          exact hK _ _ (Below.refl _ _) (by show (_ : Value) = _; first | (rw [hcc]; first | rfl | (simp; done)) | (simp_all; done))
                      exact BOk.nil
                    intro vals wr hl hB hR
                    match vals, hl with
                    | [z213, z214, z215, z216, z217, z218, z219], _ =>
                    have r6 : z219 = .bool (ok && (g a)) := hR 6 _ rfl
                    subst r6
                    clear hR
                    simp only [List.take_succ_cons, List.take_zero, List.drop_succ_cons, List.drop_zero, List.toList_toArray, List.cons_append, List.nil_append, putAll, Act.put, List.setIfInBounds_toArray, List.set_cons_zero, List.set_cons_succ]
                    rw [show (ok && (g a)) = ok2 from HOK.out]
                    replace HC := Lib.hid (HC.out.old hB)
                    replace HM := Lib.hid (MapF.old HM.out hB)
                    replace HS := Lib.hid (MapF.old HS.out hB)
                    replace HX := Lib.hid (HX.out.old hB)
                    replace HB := Lib.hid (HB.out.trans (hB.mono HB.out.size))
                    clear hB x0 x1 x2 x3 c0 c1 c2 c3
                    have x0 := HX.out.cell 0
                    have x1 := HX.out.cell 1
                    have x2 := HX.out.cell 2
                    have x3 := HX.out.cell 3
                    have c0 := HC.out.cell 0
                    have c1 := HC.out.cell 1
                    have c2 := HC.out.cell 2
                    have c3 := HC.out.cell 3
                    clear HOK
                    go_upto_region 38 with fail
                    refine wp_region_st 13 (fun qk => (rgR38 54 dst a b nr ns Ai Ak ci ck li lk ll ok2 k m f g w wl wz).getD qk .any) (by kernel_rfl) ?_ ?_
                    · refine BOk.consN rfl [] [4] rfl rfl (by kernel_rfl) (by kernel_rfl) (fun qK qa wr hB qO qF hK => ?_) ?_
                      · have e4 : qa.tmps[4]? = some (.bool ok2) := qO.1.trans rfl
                        clear qO qF
                        go_simp
                        exact hK _ _ (Below.refl _ _) (by first | rfl | (show (_ : Value) = _; simp_all; done))
                      refine BOk.cons rfl [0] [] rfl rfl (by kernel_rfl) (by kernel_rfl) (fun qK qa wr hB qO qF hK => ?_) ?_
                      · have e220 : qa.tmps[220]? = some (.bool ok2) := fis qF.1 rfl rfl
                        clear qO qF
                        go_simp
                        exact hK _ _ (Below.refl _ _) (by first | rfl | (show (_ : Value) = _; simp_all; done))
                      refine BOk.optT rfl [] [12] rfl 1 true rfl rfl rfl rfl (by kernel_rfl) (by kernel_rfl) (by kernel_rfl) (fun hp hc hP qK qa wr hB qO qF hK => ?_) ?_
                      · have e12 : qa.tmps[12]? = some (.pointer (some ⟨wl.heap.size, 0, none⟩)) := qO.1.trans rfl
                        clear qO qF
                        go_simp
                        exact hK _ _ (Below.refl _ _) rfl
                      refine BOk.optT rfl [2] [] rfl 1 true rfl rfl rfl rfl (by kernel_rfl) (by kernel_rfl) (by kernel_rfl) (fun hp hc hP qK qa wr hB qO qF hK => ?_) ?_
                      · have e222 : qa.tmps[222]? = some (.pointer (some ⟨wl.heap.size, 1, none⟩)) := fif qF.1 rfl hP rfl
                        clear qO qF
                        have hx1 := (bcell hB _ _ (World.block_lt_of_cell? _ _ x1)).trans x1
                        go_simp
                        exact hK _ _ (Below.refl _ _) rfl
                      refine BOk.optT rfl [3] [] rfl 1 true rfl rfl rfl rfl (by kernel_rfl) (by kernel_rfl) (by kernel_rfl) (fun hp hc hP qK qa wr hB qO qF hK => ?_) ?_
                      · have e223 : qa.tmps[223]? = some (.int .i64 dst) := fif qF.1 rfl hP rfl
                        clear qO qF
                        go_simp
                        refine hK _ _ (Below.refl _ _) ?_
                        show (_ : Value) = _
                        first | rfl | (simp; done) | (simp; omega) | (congr 1; simp; done) | (congr 1; rw [decide_eq_decide]; omega)
                      refine BOk.cons rfl [1, 4] [] rfl rfl (by kernel_rfl) (by kernel_rfl) (fun qK qa wr hB qO qF hK => ?_) ?_
                      · have e221 : qa.tmps[221]? = some (.bool ok2) := fis qF.1 rfl rfl
                        obtain ⟨u224, e224, r4⟩ := qF.2.1
                        have r4 : u224 = (bif (true && (ok2 == true)) then .bool (decide (0 ≤ dst)) else undef) := r4
                        clear qO qF
                        rcases (Bool.eq_false_or_eq_true (ok2)).symm with hcc | hcc
                        · rw [hcc] at e221
                          go_simp
                          exact hK _ _ (Below.refl _ _) (by show (_ : Value) = _; first | (rw [hcc]; first | rfl | (simp; done)) | (simp_all; done))
                        · rw [hcc] at e221
                          have e224 : qa.tmps[224]? = some (.bool ((decide (0 ≤ dst)))) := (show u224 = .bool ((decide (0 ≤ dst))) from r4.trans (by (first | rw [hcc] | skip); first | rfl | (rw [hP]; rfl))) ▸ e224
                          go_simp
                          exact hK _ _ (Below.refl _ _) (by show (_ : Value) = _; first | (rw [hcc]; first | rfl | (simp; done)) | (simp_all; done))
                      refine BOk.cons rfl [5] [] rfl rfl (by kernel_rfl) (by kernel_rfl) (fun qK qa wr hB qO qF hK => ?_) ?_
                      · have e225 : qa.tmps[225]? = some (.bool (ok2 && (decide (0 ≤ dst)))) := fis qF.1 rfl rfl
                        clear qO qF
                        go_simp
                        exact hK _ _ (Below.refl _ _) (by first | rfl | (show (_ : Value) = _; simp_all; done))
                      refine BOk.optT rfl [] [12] rfl 6 true rfl rfl rfl rfl (by kernel_rfl) (by kernel_rfl) (by kernel_rfl) (fun hp hc hP qK qa wr hB qO qF hK => ?_) ?_
                      · have e12 : qa.tmps[12]? = some (.pointer (some ⟨wl.heap.size, 0, none⟩)) := qO.1.trans rfl
                        clear qO qF
                        go_simp
                        exact hK _ _ (Below.refl _ _) rfl
                      refine BOk.optT rfl [7] [] rfl 6 true rfl rfl rfl rfl (by kernel_rfl) (by kernel_rfl) (by kernel_rfl) (fun hp hc hP qK qa wr hB qO qF hK => ?_) ?_
                      · have e227 : qa.tmps[227]? = some (.pointer (some ⟨wl.heap.size, 1, none⟩)) := fif qF.1 rfl hP rfl
                        clear qO qF
                        have hx1 := (bcell hB _ _ (World.block_lt_of_cell? _ _ x1)).trans x1
                        go_simp
                        exact hK _ _ (Below.refl _ _) rfl
                      refine BOk.optT rfl [] [1] rfl 6 true rfl rfl rfl rfl (by kernel_rfl) (by kernel_rfl) (by kernel_rfl) (fun hp hc hP qK qa wr hB qO qF hK => ?_) ?_
                      · have e1 : qa.tmps[1]? = some (.pointer (some ⟨w.heap.size, 0, none⟩)) := qO.1.trans rfl
                        clear qO qF
                        go_simp
                        exact hK _ _ (Below.refl _ _) rfl
                      refine BOk.optT rfl [9] [] rfl 6 true rfl rfl rfl rfl (by kernel_rfl) (by kernel_rfl) (by kernel_rfl) (fun hp hc hP qK qa wr hB qO qF hK => ?_) ?_
                      · have e229 : qa.tmps[229]? = some (.pointer (some ⟨w.heap.size, 0, none⟩)) := fif qF.1 rfl hP rfl
                        clear qO qF
                        have hc0 := (bcell hB _ _ (World.block_lt_of_cell? _ _ c0)).trans c0
                        go_simp
                        exact hK _ _ (Below.refl _ _) rfl
                      refine BOk.optT rfl [8, 10] [] rfl 6 true rfl rfl rfl rfl (by kernel_rfl) (by kernel_rfl) (by kernel_rfl) (fun hp hc hP qK qa wr hB qO qF hK => ?_) ?_
                      · have e228 : qa.tmps[228]? = some (.int .i64 dst) := fif qF.1 rfl hP rfl
                        have e230 : qa.tmps[230]? = some (.int .i64 nr) := fif qF.2.1 rfl hP rfl
                        clear qO qF
                        go_simp
                        refine hK _ _ (Below.refl _ _) ?_
                        show (_ : Value) = _
                        first | rfl | (simp; done) | (simp; omega) | (congr 1; simp; done) | (congr 1; rw [decide_eq_decide]; omega)
                      refine BOk.cons rfl [6, 11] [] rfl rfl (by kernel_rfl) (by kernel_rfl) (fun qK qa wr hB qO qF hK => ?_) ?_
                      · have e226 : qa.tmps[226]? = some (.bool (ok2 && (decide (0 ≤ dst)))) := fis qF.1 rfl rfl
                        obtain ⟨u231, e231, r11⟩ := qF.2.1
                        have r11 : u231 = (bif (true && ((ok2 && (decide (0 ≤ dst))) == true)) then .bool (decide (dst < nr)) else undef) := r11
                        clear qO qF
                        rcases (Bool.eq_false_or_eq_true ((ok2 && (decide (0 ≤ dst))))).symm with hcc | hcc
                        · rw [hcc] at e226
                          go_simp
                          exact hK _ _ (Below.refl _ _) (by show (_ : Value) = _; first | (rw [hcc]; first | rfl | (simp; done)) | (simp_all; done))
                        · rw [hcc] at e226
                          have e231 : qa.tmps[231]? = some (.bool ((decide (dst < nr)))) := (show u231 = .bool ((decide (dst < nr))) from r11.trans (by (first | rw [hcc] | skip); first | rfl | (rw [hP]; rfl))) ▸ e231
                          go_simp
                          exact hK _ _ (Below.refl _ _) (by show (_ : Value) = _; first | (rw [hcc]; first | rfl | (simp; done)) | (simp_all; done))
                      exact BOk.nil
                    intro vals wr hl hB hR
                    match vals, hl with
                    | [y220, y221, y222, y223, y224, y225, y226, y227, y228, y229, y230, y231, y232], _ =>
                    have r12 : y232 = .bool ((ok2 && (decide (0 ≤ dst))) && (decide (dst < nr))) := hR 12 _ rfl
                    subst r12
                    clear hR
                    simp only [List.take_succ_cons, List.take_zero, List.drop_succ_cons, List.drop_zero, List.toList_toArray, List.cons_append, List.nil_append, putAll, Act.put, List.setIfInBounds_toArray, List.set_cons_zero, List.set_cons_succ]
                    obtain ⟨ok3, hok3⟩ : ∃ o, ((ok2 && decide (0 ≤ dst)) && decide (dst < nr)) = o := ⟨_, rfl⟩
                    have hR := HR.out
                    rw [hok3] at hR
                    replace HR := Lib.hid hR
                    rw [show ((ok2 && (decide (0 ≤ dst))) && (decide (dst < nr))) = ok3 from hok3]
                    clear hok3 hR
                    replace HC := Lib.hid (HC.out.old hB)
                    replace HM := Lib.hid (MapF.old HM.out hB)
                    replace HS := Lib.hid (MapF.old HS.out hB)
                    replace HX := Lib.hid (HX.out.old hB)
                    replace HB := Lib.hid (HB.out.trans (hB.mono HB.out.size))
                    clear hB x0 x1 x2 x3 c0 c1 c2 c3
                    have x0 := HX.out.cell 0
                    have x1 := HX.out.cell 1
                    have x2 := HX.out.cell 2
                    have x3 := HX.out.cell 3
                    have c0 := HC.out.cell 0
                    have c1 := HC.out.cell 1
                    have c2 := HC.out.cell 2
                    have c3 := HC.out.cell 3
                    go_wp2_with (at_mapUpdate; refine wpList_putF boolE rfl _ _ _ 60 rfl 3 4 Try.underlying3 Try.underlying60 _ _ _ rfl HM.out (by unfold maxLen; omega) _ rfl hd.wf true rfl ?_; intro w3 hm3 hg3)
                    have hb3 := below_gb HB.out hg3 HB.out.size (by omega)
                    have hc3 := HC.out.grown hg3 (by intro e; injection e with e; omega)
                    have hs4 := (MapF.grown HS.out hg3 (by intro e; injection e with e; omega)).mono (Nat.le_succ _)
                    go_wp2_with fail
                    go_roundw
                    case rel => exact ⟨k + 1, _, _, _, by omega, by go_num, rfl, hb3, hc3, hm3, hs4, HR⟩
                    case measure => simp [intOf]; omega
                  · as_aux_lemma =>
                    have g50 : (op == 50) = false := by rw [beq_eq_false_iff_ne]; exact h50
                    have g51 : (op == 51) = false := by rw [beq_eq_false_iff_ne]; exact h51
                    have g54 : (op == 54) = false := by rw [beq_eq_false_iff_ne]; exact h54
                    obtain ⟨ok2, hok2⟩ : ∃ o, (ok && decide (0 < m)) = o := ⟨_, rfl⟩
                    have hR := HR.out
                    rw [if_neg h50, if_neg h51, if_neg h54] at hR
                    rw [hok2] at hR
                    replace HR := Lib.hid hR
                    have HOK := Lib.hid hok2
                    clear hR hok2
                    go_upto_region 26 with fail
                    refine wp_region_st 5 (fun qk => (rgR26 op dst a b nr ns Ai Ak ci ck li lk ll ok k m f g w wl wz).getD qk .any) (by kernel_rfl) ?_ ?_
                    · refine BOk.consN rfl [] [4] rfl rfl (by kernel_rfl) (by kernel_rfl) (fun qK qa wr hB qO qF hK => ?_) ?_
                      · have e4 : qa.tmps[4]? = some (.bool ok) := qO.1.trans rfl
                        clear qO qF
                        go_simp
                        exact hK _ _ (Below.refl _ _) (by first | rfl | (show (_ : Value) = _; simp_all; done))
                      refine BOk.cons rfl [0] [] rfl rfl (by kernel_rfl) (by kernel_rfl) (fun qK qa wr hB qO qF hK => ?_) ?_
                      · have e127 : qa.tmps[127]? = some (.bool ok) := fis qF.1 rfl rfl
                        clear qO qF
                        go_simp
                        exact hK _ _ (Below.refl _ _) (by first | rfl | (show (_ : Value) = _; simp_all; done))
                      refine BOk.optT rfl [] [13] rfl 1 true rfl rfl rfl rfl (by kernel_rfl) (by kernel_rfl) (by kernel_rfl) (fun hp hc hP qK qa wr hB qO qF hK => ?_) ?_
                      · have e13 : qa.tmps[13]? = some (.int .i64 (m : Nat)) := qO.1.trans rfl
                        clear qO qF
                        go_simp
                        exact hK _ _ (Below.refl _ _) rfl
                      refine BOk.optT rfl [2] [] rfl 1 true rfl rfl rfl rfl (by kernel_rfl) (by kernel_rfl) (by kernel_rfl) (fun hp hc hP qK qa wr hB qO qF hK => ?_) ?_
                      · have e129 : qa.tmps[129]? = some (.int .i64 (m : Nat)) := fif qF.1 rfl hP rfl
                        clear qO qF
                        go_simp
                        refine hK _ _ (Below.refl _ _) ?_
                        show (_ : Value) = _
                        first | rfl | (simp; done) | (simp; omega) | (congr 1; simp; done) | (congr 1; rw [decide_eq_decide]; omega)
                      refine BOk.cons rfl [1, 3] [] rfl rfl (by kernel_rfl) (by kernel_rfl) (fun qK qa wr hB qO qF hK => ?_) ?_
                      · have e128 : qa.tmps[128]? = some (.bool ok) := fis qF.1 rfl rfl
                        obtain ⟨u130, e130, r3⟩ := qF.2.1
                        have r3 : u130 = (bif (true && (ok == true)) then .bool (decide (0 < (m : Nat))) else undef) := r3
                        clear qO qF
                        rcases (Bool.eq_false_or_eq_true (ok)).symm with hcc | hcc
                        · rw [hcc] at e128
                          go_simp
                          exact hK _ _ (Below.refl _ _) (by show (_ : Value) = _; first | (rw [hcc]; first | rfl | (simp; done)) | (simp_all; done))
                        · rw [hcc] at e128
                          have e130 : qa.tmps[130]? = some (.bool ((decide (0 < (m : Nat))))) := (show u130 = .bool ((decide (0 < (m : Nat)))) from r3.trans (by (first | rw [hcc] | skip); first | rfl | (rw [hP]; rfl))) ▸ e130
                          go_simp
                          exact hK _ _ (Below.refl _ _) (by show (_ : Value) = _; first | (rw [hcc]; first | rfl | (simp; done)) | (simp_all; done))
                      exact BOk.nil
                    intro vals wr hl hB hR
                    match vals, hl with
                    | [z127, z128, z129, z130, z131], _ =>
                    have r4 : z131 = .bool (ok && (decide (0 < (m : Nat)))) := hR 4 _ rfl
                    subst r4
                    clear hR
                    simp only [List.take_succ_cons, List.take_zero, List.drop_succ_cons, List.drop_zero, List.toList_toArray, List.cons_append, List.nil_append, putAll, Act.put, List.setIfInBounds_toArray, List.set_cons_zero, List.set_cons_succ]
                    rw [show (ok && (decide (0 < (m : Nat)))) = ok2 from HOK.out]
                    replace HC := Lib.hid (HC.out.old hB)
                    replace HM := Lib.hid (MapF.old HM.out hB)
                    replace HS := Lib.hid (MapF.old HS.out hB)
                    replace HX := Lib.hid (HX.out.old hB)
                    replace HB := Lib.hid (HB.out.trans (hB.mono HB.out.size))
                    clear hB x0 x1 x2 x3 c0 c1 c2 c3
                    have x0 := HX.out.cell 0
                    have x1 := HX.out.cell 1
                    have x2 := HX.out.cell 2
                    have x3 := HX.out.cell 3
                    have c0 := HC.out.cell 0
                    have c1 := HC.out.cell 1
                    have c2 := HC.out.cell 2
                    have c3 := HC.out.cell 3
                    clear HOK
                    go_upto_region 38 with fail
                    refine wp_region_st 13 (fun qk => (rgR38 op dst a b nr ns Ai Ak ci ck li lk ll ok2 k m f g w wl wz).getD qk .any) (by kernel_rfl) ?_ ?_
                    · refine BOk.consN rfl [] [4] rfl rfl (by kernel_rfl) (by kernel_rfl) (fun qK qa wr hB qO qF hK => ?_) ?_
                      · have e4 : qa.tmps[4]? = some (.bool ok2) := qO.1.trans rfl
                        clear qO qF
                        go_simp
                        exact hK _ _ (Below.refl _ _) (by first | rfl | (show (_ : Value) = _; simp_all; done))
                      refine BOk.cons rfl [0] [] rfl rfl (by kernel_rfl) (by kernel_rfl) (fun qK qa wr hB qO qF hK => ?_) ?_
                      · have e220 : qa.tmps[220]? = some (.bool ok2) := fis qF.1 rfl rfl
                        clear qO qF
                        go_simp
                        exact hK _ _ (Below.refl _ _) (by first | rfl | (show (_ : Value) = _; simp_all; done))
                      refine BOk.optT rfl [] [12] rfl 1 true rfl rfl rfl rfl (by kernel_rfl) (by kernel_rfl) (by kernel_rfl) (fun hp hc hP qK qa wr hB qO qF hK => ?_) ?_
                      · have e12 : qa.tmps[12]? = some (.pointer (some ⟨wl.heap.size, 0, none⟩)) := qO.1.trans rfl
                        clear qO qF
                        go_simp
                        exact hK _ _ (Below.refl _ _) rfl
                      refine BOk.optT rfl [2] [] rfl 1 true rfl rfl rfl rfl (by kernel_rfl) (by kernel_rfl) (by kernel_rfl) (fun hp hc hP qK qa wr hB qO qF hK => ?_) ?_
                      · have e222 : qa.tmps[222]? = some (.pointer (some ⟨wl.heap.size, 1, none⟩)) := fif qF.1 rfl hP rfl
                        clear qO qF
                        have hx1 := (bcell hB _ _ (World.block_lt_of_cell? _ _ x1)).trans x1
                        go_simp
                        exact hK _ _ (Below.refl _ _) rfl
                      refine BOk.optT rfl [3] [] rfl 1 true rfl rfl rfl rfl (by kernel_rfl) (by kernel_rfl) (by kernel_rfl) (fun hp hc hP qK qa wr hB qO qF hK => ?_) ?_
                      · have e223 : qa.tmps[223]? = some (.int .i64 dst) := fif qF.1 rfl hP rfl
                        clear qO qF
                        go_simp
                        refine hK _ _ (Below.refl _ _) ?_
                        show (_ : Value) = _
                        first | rfl | (simp; done) | (simp; omega) | (congr 1; simp; done) | (congr 1; rw [decide_eq_decide]; omega)
                      refine BOk.cons rfl [1, 4] [] rfl rfl (by kernel_rfl) (by kernel_rfl) (fun qK qa wr hB qO qF hK => ?_) ?_
                      · have e221 : qa.tmps[221]? = some (.bool ok2) := fis qF.1 rfl rfl
                        obtain ⟨u224, e224, r4⟩ := qF.2.1
                        have r4 : u224 = (bif (true && (ok2 == true)) then .bool (decide (0 ≤ dst)) else undef) := r4
                        clear qO qF
                        rcases (Bool.eq_false_or_eq_true (ok2)).symm with hcc | hcc
                        · rw [hcc] at e221
                          go_simp
                          exact hK _ _ (Below.refl _ _) (by show (_ : Value) = _; first | (rw [hcc]; first | rfl | (simp; done)) | (simp_all; done))
                        · rw [hcc] at e221
                          have e224 : qa.tmps[224]? = some (.bool ((decide (0 ≤ dst)))) := (show u224 = .bool ((decide (0 ≤ dst))) from r4.trans (by (first | rw [hcc] | skip); first | rfl | (rw [hP]; rfl))) ▸ e224
                          go_simp
                          exact hK _ _ (Below.refl _ _) (by show (_ : Value) = _; first | (rw [hcc]; first | rfl | (simp; done)) | (simp_all; done))
                      refine BOk.cons rfl [5] [] rfl rfl (by kernel_rfl) (by kernel_rfl) (fun qK qa wr hB qO qF hK => ?_) ?_
                      · have e225 : qa.tmps[225]? = some (.bool (ok2 && (decide (0 ≤ dst)))) := fis qF.1 rfl rfl
                        clear qO qF
                        go_simp
                        exact hK _ _ (Below.refl _ _) (by first | rfl | (show (_ : Value) = _; simp_all; done))
                      refine BOk.optT rfl [] [12] rfl 6 true rfl rfl rfl rfl (by kernel_rfl) (by kernel_rfl) (by kernel_rfl) (fun hp hc hP qK qa wr hB qO qF hK => ?_) ?_
                      · have e12 : qa.tmps[12]? = some (.pointer (some ⟨wl.heap.size, 0, none⟩)) := qO.1.trans rfl
                        clear qO qF
                        go_simp
                        exact hK _ _ (Below.refl _ _) rfl
                      refine BOk.optT rfl [7] [] rfl 6 true rfl rfl rfl rfl (by kernel_rfl) (by kernel_rfl) (by kernel_rfl) (fun hp hc hP qK qa wr hB qO qF hK => ?_) ?_
                      · have e227 : qa.tmps[227]? = some (.pointer (some ⟨wl.heap.size, 1, none⟩)) := fif qF.1 rfl hP rfl
                        clear qO qF
                        have hx1 := (bcell hB _ _ (World.block_lt_of_cell? _ _ x1)).trans x1
                        go_simp
                        exact hK _ _ (Below.refl _ _) rfl
                      refine BOk.optT rfl [] [1] rfl 6 true rfl rfl rfl rfl (by kernel_rfl) (by kernel_rfl) (by kernel_rfl) (fun hp hc hP qK qa wr hB qO qF hK => ?_) ?_
                      · have e1 : qa.tmps[1]? = some (.pointer (some ⟨w.heap.size, 0, none⟩)) := qO.1.trans rfl
                        clear qO qF
                        go_simp
                        exact hK _ _ (Below.refl _ _) rfl
                      refine BOk.optT rfl [9] [] rfl 6 true rfl rfl rfl rfl (by kernel_rfl) (by kernel_rfl) (by kernel_rfl) (fun hp hc hP qK qa wr hB qO qF hK => ?_) ?_
                      · have e229 : qa.tmps[229]? = some (.pointer (some ⟨w.heap.size, 0, none⟩)) := fif qF.1 rfl hP rfl
                        clear qO qF
                        have hc0 := (bcell hB _ _ (World.block_lt_of_cell? _ _ c0)).trans c0
                        go_simp
                        exact hK _ _ (Below.refl _ _) rfl
                      refine BOk.optT rfl [8, 10] [] rfl 6 true rfl rfl rfl rfl (by kernel_rfl) (by kernel_rfl) (by kernel_rfl) (fun hp hc hP qK qa wr hB qO qF hK => ?_) ?_
                      · have e228 : qa.tmps[228]? = some (.int .i64 dst) := fif qF.1 rfl hP rfl
                        have e230 : qa.tmps[230]? = some (.int .i64 nr) := fif qF.2.1 rfl hP rfl
                        clear qO qF
                        go_simp
                        refine hK _ _ (Below.refl _ _) ?_
                        show (_ : Value) = _
                        first | rfl | (simp; done) | (simp; omega) | (congr 1; simp; done) | (congr 1; rw [decide_eq_decide]; omega)
                      refine BOk.cons rfl [6, 11] [] rfl rfl (by kernel_rfl) (by kernel_rfl) (fun qK qa wr hB qO qF hK => ?_) ?_
                      · have e226 : qa.tmps[226]? = some (.bool (ok2 && (decide (0 ≤ dst)))) := fis qF.1 rfl rfl
                        obtain ⟨u231, e231, r11⟩ := qF.2.1
                        have r11 : u231 = (bif (true && ((ok2 && (decide (0 ≤ dst))) == true)) then .bool (decide (dst < nr)) else undef) := r11
                        clear qO qF
                        rcases (Bool.eq_false_or_eq_true ((ok2 && (decide (0 ≤ dst))))).symm with hcc | hcc
                        · rw [hcc] at e226
                          go_simp
                          exact hK _ _ (Below.refl _ _) (by show (_ : Value) = _; first | (rw [hcc]; first | rfl | (simp; done)) | (simp_all; done))
                        · rw [hcc] at e226
                          have e231 : qa.tmps[231]? = some (.bool ((decide (dst < nr)))) := (show u231 = .bool ((decide (dst < nr))) from r11.trans (by (first | rw [hcc] | skip); first | rfl | (rw [hP]; rfl))) ▸ e231
                          go_simp
                          exact hK _ _ (Below.refl _ _) (by show (_ : Value) = _; first | (rw [hcc]; first | rfl | (simp; done)) | (simp_all; done))
                      exact BOk.nil
                    intro vals wr hl hB hR
                    match vals, hl with
                    | [y220, y221, y222, y223, y224, y225, y226, y227, y228, y229, y230, y231, y232], _ =>
                    have r12 : y232 = .bool ((ok2 && (decide (0 ≤ dst))) && (decide (dst < nr))) := hR 12 _ rfl
                    subst r12
                    clear hR
                    simp only [List.take_succ_cons, List.take_zero, List.drop_succ_cons, List.drop_zero, List.toList_toArray, List.cons_append, List.nil_append, putAll, Act.put, List.setIfInBounds_toArray, List.set_cons_zero, List.set_cons_succ]
                    obtain ⟨ok3, hok3⟩ : ∃ o, ((ok2 && decide (0 ≤ dst)) && decide (dst < nr)) = o := ⟨_, rfl⟩
                    have hR := HR.out
                    rw [hok3] at hR
                    replace HR := Lib.hid hR
                    rw [show ((ok2 && (decide (0 ≤ dst))) && (decide (dst < nr))) = ok3 from hok3]
                    clear hok3 hR
                    replace HC := Lib.hid (HC.out.old hB)
                    replace HM := Lib.hid (MapF.old HM.out hB)
                    replace HS := Lib.hid (MapF.old HS.out hB)
                    replace HX := Lib.hid (HX.out.old hB)
                    replace HB := Lib.hid (HB.out.trans (hB.mono HB.out.size))
                    clear hB x0 x1 x2 x3 c0 c1 c2 c3
                    have x0 := HX.out.cell 0
                    have x1 := HX.out.cell 1
                    have x2 := HX.out.cell 2
                    have x3 := HX.out.cell 3
                    have c0 := HC.out.cell 0
                    have c1 := HC.out.cell 1
                    have c2 := HC.out.cell 2
                    have c3 := HC.out.cell 3
                    go_wp2_with (at_mapUpdate; refine wpList_putF boolE rfl _ _ _ 60 rfl 3 4 Try.underlying3 Try.underlying60 _ _ _ rfl HM.out (by unfold maxLen; omega) _ rfl hd.wf true rfl ?_; intro w3 hm3 hg3)
                    have hb3 := below_gb HB.out hg3 HB.out.size (by omega)
                    have hc3 := HC.out.grown hg3 (by intro e; injection e with e; omega)
                    have hs4 := (MapF.grown HS.out hg3 (by intro e; injection e with e; omega)).mono (Nat.le_succ _)
                    go_wp2_with fail
                    go_roundw
                    case rel => exact ⟨k + 1, _, _, _, by omega, by go_num, rfl, hb3, hc3, hm3, hs4, HR⟩
                    case measure => simp [intOf]; omega
            · as_aux_lemma =>
              obtain rfl : k = ll.length := by omega
              have hR := hR.out
              rw [List.drop_length] at hR
              have hR : R = true := hR.symm
              go_wp2_with fail
              go_ret
              exact ⟨by first | rfl | exact ret_bool hR.symm, hbe⟩
end Go.Proofs.Ytadblgfppnpamaa
