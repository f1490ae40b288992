/- Layer 18: the document's Plain. No conditions. -/
import Derived.Test.YtadblgfppnpamaaVmQ
import Derived.Test.YtadblgfppnpamaaVmE
namespace Go.Proofs.Ytadblgfppnpamaa
open Go.RowKit
set_option linter.unusedVariables false
set_option linter.unusedSimpArgs false

def plR1 (nr ns op dst a b : Int) (Ai Ak Al : Option Addr) (n1 n2 n ci ck cl k m : Nat) (en : Bool) (w wz : World) : List Spec := [.is (.pointer (some ⟨w.heap.size, 1, none⟩)),
  .is (.int .i64 ns),
  .is (.bool ((ns != 0))),
  .is (.bool ((ns != 0))),
  .is (bif (true && (((ns != 0)) == false)) then .pointer (some ⟨w.heap.size, 0, none⟩) else undef),
  .is (bif (true && (((ns != 0)) == false)) then .int .i64 nr else undef),
  .is (bif (true && (((ns != 0)) == false)) then .bool (decide (nr < 1)) else undef),
  .is (.bool (((ns != 0)) || (decide (nr < 1)))),
  .is (.bool (((ns != 0)) || (decide (nr < 1)))),
  .is (bif (true && ((((ns != 0)) || (decide (nr < 1))) == false)) then .pointer (some ⟨w.heap.size, 4, none⟩) else undef),
  .is (bif (true && ((((ns != 0)) || (decide (nr < 1))) == false)) then .slice Al n cl else undef),
  .is (bif (true && ((((ns != 0)) || (decide (nr < 1))) == false)) then .int .i64 (n : Nat) else undef),
  .is (bif (true && ((((ns != 0)) || (decide (nr < 1))) == false)) then .int .i64 (((n : Nat) : Int) - 1) else undef),
  .is (bif (true && ((((ns != 0)) || (decide (nr < 1))) == false)) then .pointer (some ⟨w.heap.size, 0, none⟩) else undef),
  .is (bif (true && ((((ns != 0)) || (decide (nr < 1))) == false)) then .int .i64 nr else undef),
  .is (bif (true && ((((ns != 0)) || (decide (nr < 1))) == false)) then .bool (((((n : Nat) : Int) - 1) != nr)) else undef),
  .is (.bool ((((ns != 0)) || (decide (nr < 1))) || (((((n : Nat) : Int) - 1) != nr))))]
def plR8 (nr ns op dst a b : Int) (Ai Ak Al : Option Addr) (n1 n2 n ci ck cl k m : Nat) (en : Bool) (w wz : World) : List Spec := [.is (.bool en),
  .is (.pointer (some ⟨wz.heap.size, 0, none⟩)),
  .is (.int .i64 op),
  .is (.bool ((op == 52))),
  .is (.bool (en != ((op == 52)))),
  .is (.bool (en != ((op == 52))))]
def plR9 (nr ns op dst a b : Int) (Ai Ak Al : Option Addr) (n1 n2 n ci ck cl k m : Nat) (en : Bool) (w wz : World) : List Spec := [.is (.bool en),
  .is (.bool en),
  .is (bif (true && (en == true)) then .pointer (some ⟨wz.heap.size, 1, none⟩) else undef),
  .is (bif (true && (en == true)) then .int .i64 dst else undef),
  .is (bif (true && (en == true)) then .bool ((dst != 0)) else undef),
  .is (.bool (en && ((dst != 0)))),
  .is (.bool (en && ((dst != 0))))]
def plR10 (nr ns op dst a b : Int) (Ai Ak Al : Option Addr) (n1 n2 n ci ck cl k m : Nat) (en : Bool) (w wz : World) : List Spec := [.is (.bool en),
  .is (.bool (!en)),
  .is (.bool (!en)),
  .is (bif (true && ((!en) == true)) then .pointer (some ⟨wz.heap.size, 1, none⟩) else undef),
  .is (bif (true && ((!en) == true)) then .int .i64 dst else undef),
  .is (bif (true && ((!en) == true)) then .int .i64 (k : Nat) else undef),
  .is (bif (true && ((!en) == true)) then .bool ((dst != (k : Nat))) else undef),
  .is (.bool ((!en) && ((dst != (k : Nat))))),
  .is (.bool ((!en) && ((dst != (k : Nat)))))]
def plR11 (nr ns op dst a b : Int) (Ai Ak Al : Option Addr) (n1 n2 n ci ck cl k m : Nat) (en : Bool) (w wz : World) : List Spec := [.is (.int .i64 (m : Nat)),
  .is (.bool (decide ((m : Nat) < 2))),
  .is (.bool (decide ((m : Nat) < 2))),
  .is (bif (true && ((decide ((m : Nat) < 2)) == true)) then .pointer (some ⟨wz.heap.size, 3, none⟩) else undef),
  .is (bif (true && ((decide ((m : Nat) < 2)) == true)) then .int .i64 b else undef),
  .is (bif (true && ((decide ((m : Nat) < 2)) == true)) then .bool ((b != 0)) else undef),
  .is (.bool ((decide ((m : Nat) < 2)) && ((b != 0)))),
  .is (.bool ((decide ((m : Nat) < 2)) && ((b != 0))))]
def plR12 (nr ns op dst a b : Int) (Ai Ak Al : Option Addr) (n1 n2 n ci ck cl k m : Nat) (en : Bool) (w wz : World) : List Spec := [.is (.pointer (some ⟨wz.heap.size, 2, none⟩)),
  .is (.int .i64 a),
  .is (.bool (decide (a < 0))),
  .is (.bool (decide (a < 0)))]
def plR13 (nr ns op dst a b : Int) (Ai Ak Al : Option Addr) (n1 n2 n ci ck cl k m : Nat) (en : Bool) (w wz : World) : List Spec := [.is (.pointer (some ⟨wz.heap.size, 3, none⟩)),
  .is (.int .i64 b),
  .is (.bool (decide (b < 0))),
  .is (.bool (decide (b < 0)))]
def plR15 (nr ns op dst a b : Int) (Ai Ak Al : Option Addr) (n1 n2 n ci ck cl k m : Nat) (en : Bool) (w wz : World) : List Spec := [.is (.int .i64 (m : Nat)),
  .is (.bool (decide (0 < (m : Nat)))),
  .is (.bool (decide (0 < (m : Nat)))),
  .is (bif (true && ((decide (0 < (m : Nat))) == true)) then .pointer (some ⟨wz.heap.size, 2, none⟩) else undef),
  .is (bif (true && ((decide (0 < (m : Nat))) == true)) then .int .i64 a else undef),
  .is (bif (true && ((decide (0 < (m : Nat))) == true)) then .int .i64 (k : Nat) else undef),
  .is (bif (true && ((decide (0 < (m : Nat))) == true)) then .bool (decide ((k : Nat) ≤ a)) else undef),
  .is (bif (true && ((decide (0 < (m : Nat))) == true)) then .bool (decide ((k : Nat) ≤ a)) else undef),
  .is (bif ((true && ((decide (0 < (m : Nat))) == true)) && ((decide ((k : Nat) ≤ a)) == false)) then .pointer (some ⟨wz.heap.size, 3, none⟩) else undef),
  .is (bif ((true && ((decide (0 < (m : Nat))) == true)) && ((decide ((k : Nat) ≤ a)) == false)) then .int .i64 b else undef),
  .is (bif ((true && ((decide (0 < (m : Nat))) == true)) && ((decide ((k : Nat) ≤ a)) == false)) then .int .i64 (k : Nat) else undef),
  .is (bif ((true && ((decide (0 < (m : Nat))) == true)) && ((decide ((k : Nat) ≤ a)) == false)) then .bool (decide ((k : Nat) ≤ b)) else undef),
  .is (bif (true && ((decide (0 < (m : Nat))) == true)) then .bool ((decide ((k : Nat) ≤ a)) || (decide ((k : Nat) ≤ b))) else undef),
  .is (.bool ((decide (0 < (m : Nat))) && ((decide ((k : Nat) ≤ a)) || (decide ((k : Nat) ≤ b))))),
  .is (.bool ((decide (0 < (m : Nat))) && ((decide ((k : Nat) ≤ a)) || (decide ((k : Nat) ≤ b)))))]
def plR16 (nr ns op dst a b : Int) (Ai Ak Al : Option Addr) (n1 n2 n ci ck cl k m : Nat) (en : Bool) (w wz : World) : List Spec := [.is (.bool en),
  .is (.bool en),
  .is (bif (true && (en == true)) then .pointer (some ⟨wz.heap.size, 2, none⟩) else undef),
  .is (bif (true && (en == true)) then .int .i64 a else undef),
  .is (bif (true && (en == true)) then .int .i64 (k : Nat) else undef),
  .is (bif (true && (en == true)) then .bool (decide ((k : Nat) ≤ a)) else undef),
  .is (.bool (en && (decide ((k : Nat) ≤ a)))),
  .is (.bool (en && (decide ((k : Nat) ≤ a))))]
def plR17 (nr ns op dst a b : Int) (Ai Ak Al : Option Addr) (n1 n2 n ci ck cl k m : Nat) (en : Bool) (w wz : World) : List Spec := [.is (.pointer (some ⟨wz.heap.size, 0, none⟩)),
  .is (.int .i64 op),
  .is (.bool ((op == 50))),
  .is (.bool ((op == 50))),
  .is (bif (true && (((op == 50)) == true)) then .pointer (some ⟨wz.heap.size, 2, none⟩) else undef),
  .is (bif (true && (((op == 50)) == true)) then .int .i64 a else undef),
  .is (bif (true && (((op == 50)) == true)) then .pointer (some ⟨w.heap.size, 2, none⟩) else undef),
  .is (bif (true && (((op == 50)) == true)) then .slice Ai n1 ci else undef),
  .is (bif (true && (((op == 50)) == true)) then .int .i64 (n1 : Nat) else undef),
  .is (bif (true && (((op == 50)) == true)) then .bool (decide ((n1 : Nat) ≤ a)) else undef),
  .is (.bool (((op == 50)) && (decide ((n1 : Nat) ≤ a)))),
  .is (.bool (((op == 50)) && (decide ((n1 : Nat) ≤ a))))]
def plR18 (nr ns op dst a b : Int) (Ai Ak Al : Option Addr) (n1 n2 n ci ck cl k m : Nat) (en : Bool) (w wz : World) : List Spec := [.is (.pointer (some ⟨wz.heap.size, 0, none⟩)),
  .is (.int .i64 op),
  .is (.bool ((op == 51))),
  .is (.bool ((op == 51))),
  .is (bif (true && (((op == 51)) == true)) then .pointer (some ⟨wz.heap.size, 2, none⟩) else undef),
  .is (bif (true && (((op == 51)) == true)) then .int .i64 a else undef),
  .is (bif (true && (((op == 51)) == true)) then .pointer (some ⟨w.heap.size, 3, none⟩) else undef),
  .is (bif (true && (((op == 51)) == true)) then .slice Ak n2 ck else undef),
  .is (bif (true && (((op == 51)) == true)) then .int .i64 (n2 : Nat) else undef),
  .is (bif (true && (((op == 51)) == true)) then .bool (decide ((n2 : Nat) ≤ a)) else undef),
  .is (.bool (((op == 51)) && (decide ((n2 : Nat) ≤ a)))),
  .is (.bool (((op == 51)) && (decide ((n2 : Nat) ≤ a))))]
def plR20 (nr ns op dst a b : Int) (Ai Ak Al : Option Addr) (n1 n2 n ci ck cl k m : Nat) (en : Bool) (w wz : World) : List Spec := [.is (.int .i64 (m : Nat)),
  .is (.bool (((m : Nat) == 0))),
  .is (.bool (((m : Nat) == 0))),
  .is (bif (true && ((((m : Nat) == 0)) == true)) then .pointer (some ⟨wz.heap.size, 0, none⟩) else undef),
  .is (bif (true && ((((m : Nat) == 0)) == true)) then .int .i64 op else undef),
  .is (bif (true && ((((m : Nat) == 0)) == true)) then .bool ((op != 50)) else undef),
  .is (.bool ((((m : Nat) == 0)) && ((op != 50)))),
  .is (.bool ((((m : Nat) == 0)) && ((op != 50)))),
  .is (bif (true && (((((m : Nat) == 0)) && ((op != 50))) == true)) then .pointer (some ⟨wz.heap.size, 0, none⟩) else undef),
  .is (bif (true && (((((m : Nat) == 0)) && ((op != 50))) == true)) then .int .i64 op else undef),
  .is (bif (true && (((((m : Nat) == 0)) && ((op != 50))) == true)) then .bool ((op != 51)) else undef),
  .is (.bool (((((m : Nat) == 0)) && ((op != 50))) && ((op != 51)))),
  .is (.bool (((((m : Nat) == 0)) && ((op != 50))) && ((op != 51)))),
  .is (bif (true && ((((((m : Nat) == 0)) && ((op != 50))) && ((op != 51))) == true)) then .pointer (some ⟨wz.heap.size, 0, none⟩) else undef),
  .is (bif (true && ((((((m : Nat) == 0)) && ((op != 50))) && ((op != 51))) == true)) then .int .i64 op else undef),
  .is (bif (true && ((((((m : Nat) == 0)) && ((op != 50))) && ((op != 51))) == true)) then .bool ((op != 52)) else undef),
  .is (.bool ((((((m : Nat) == 0)) && ((op != 50))) && ((op != 51))) && ((op != 52)))),
  .is (.bool ((((((m : Nat) == 0)) && ((op != 50))) && ((op != 51))) && ((op != 52))))]

/-- It returns a Bool of which this holds. -/
def SaysB (Q : Bool → Prop) (w : World) (e : Ending) (w' : World) : Prop := ∃ p, e = .returned (.bool p) ∧ Q p ∧ Below w.heap.size w w'
theorem plain_of {op dst a b nr : Int} {n1 n2 k m N : Nat} {en : Bool} (hm : opnd op = m) (hN : nr = N) (hen : ((k : Int) == nr) = en)
    (h8 : (en != ((op == 52))) = false)
    (h9 : (en && ((dst != 0))) = false)
    (h10 : ((!en) && ((dst != (k : Nat)))) = false)
    (h11 : ((decide ((m : Nat) < 2)) && ((b != 0))) = false)
    (h12 : (decide (a < 0)) = false)
    (h13 : (decide (b < 0)) = false)
    (h15 : ((decide (0 < (m : Nat))) && ((decide ((k : Nat) ≤ a)) || (decide ((k : Nat) ≤ b)))) = false)
    (h16 : (en && (decide ((k : Nat) ≤ a))) = false)
    (h17 : (((op == 50)) && (decide ((n1 : Nat) ≤ a))) = false)
    (h18 : (((op == 51)) && (decide ((n2 : Nat) ≤ a))) = false)
    (h20 : ((((((m : Nat) == 0)) && ((op != 50))) && ((op != 51))) && ((op != 52))) = false)
    : PlainP n1 n2 N k ⟨op, dst, a, b⟩ := by
  subst hN
  subst hm
  have hen' : en = true ↔ k = N := by rw [← hen, beq_iff_eq]; omega
  simp only [Bool.and_eq_false_iff, Bool.or_eq_false_iff, decide_eq_false_iff_not, bne_eq_false_iff_eq, beq_eq_false_iff_ne, Bool.not_eq_false', ne_eq] at h8 h9 h10 h11 h12 h13 h15 h16 h17 h18 h20
  refine ⟨?_, ?_, ?_, ?_, by show (0 : Int) ≤ a; omega, by show (0 : Int) ≤ b; omega, ?_, ?_, ?_, ?_, ?_⟩
  · show op = 52 ↔ k = N
    rw [← hen', h8, beq_iff_eq]
  · intro h
    show dst = k
    have : en ≠ true := fun e => h (hen'.1 e)
    rcases h10 with h | h
    · exact absurd h this
    · exact h
  · intro h
    show dst = 0
    have := hen'.2 h
    rcases h9 with h | h
    · rw [this] at h; cases h
    · exact h
  · intro h
    show b = 0
    have h : opnd op < 2 := h
    rcases h11 with h' | h'
    · omega
    · exact h'
  · intro h
    show a < k ∧ b < k
    have h : 0 < opnd op := h
    rcases h15 with h' | h'
    · omega
    · omega
  · intro h
    show a < k
    have := hen'.2 h
    rcases h16 with h | h
    · rw [this] at h; cases h
    · omega
  · intro h
    show a < n1
    have h : op = 50 := h
    rcases h17 with h' | h'
    · exact absurd h h'
    · omega
  · intro h
    show a < n2
    have h : op = 51 := h
    rcases h18 with h' | h'
    · exact absurd h h'
    · omega
  · intro h
    show op = 50 ∨ op = 51 ∨ op = 52
    have h : opnd op = 0 := h
    rcases h20 with ((h' | h') | h') | h'
    · omega
    · exact .inl h'
    · exact .inr (.inl h')
    · exact .inr (.inr h')

set_option maxRecDepth 100000 in
set_option maxHeartbeats 20000000 in
theorem plain_any (cd : CodeV) (w : World) (h : cd.ok w w.heap.size) :
    Calls Try.prog 14 #[cd.val] w (SaysB (fun p => p = true → ∃ N, PlainV cd N) w) := by
  obtain ⟨nr, ns, Ai, ci, li, Ak, ck, lk, Al, cl, ll⟩ := cd
  obtain ⟨ri, rk, rl, ni, nk, nl, fi, fk, fl, fr, fs⟩ := h
  simp only at ri rk rl ni nk nl fi fk fl fr fs
  have HRL := Lib.hid rl
  have HV : Hid (∀ N : Nat, nr = N → ns = 0 → 1 ≤ N → ll.length = N + 1 → (∀ (i : Nat) (x : InsV), ll[i]? = some x → PlainP li.length lk.length N i x) → PlainV ⟨nr, ns, Ai, ci, li, Ak, ck, lk, Al, cl, ll⟩ N) := Lib.hid fun N h1 h2 h3 h4 h5 => ⟨h1, h2, h3, h4, h5⟩
  show Calls Try.prog 14 #[.agg #[.int .i64 nr, .int .i64 ns, .slice Ai li.length ci, .slice Ak lk.length ck, .slice Al ll.length cl]] w _
  clear ri rk rl fi fk fl fr fs
  generalize hPV : (∃ N, PlainV ⟨nr, ns, Ai, ci, li, Ak, ck, lk, Al, cl, ll⟩ N) = PV
  have HPV := Lib.hid hPV
  clear hPV
  generalize hn1 : li.length = n1 at *
  generalize hn2 : lk.length = n2 at *
  obtain ⟨n, hn⟩ : ∃ n, ll.length = n := ⟨_, rfl⟩
  rw [hn]
  have HN := Lib.hid hn
  rw [hn] at nl
  clear hn hn1 hn2
  have hwr : IntKind.i64.wrap ((n : Int) - 1) = (n : Int) - 1 := by rw [IntKind.wrap_i64]; omega
  have kc := Bk.new w 26 #[.int .i64 nr, .int .i64 ns, .slice Ai n1 ci, .slice Ak n2 ck, .slice Al n cl]
  have hbe : Below w.heap.size w (w.alloc (.cells #[.int .i64 nr, .int .i64 ns, .slice Ai n1 ci, .slice Ak n2 ck, .slice Al n cl] 26)) := (Below.refl _ _).alloc (Nat.le_refl _) _
  go_enter Try.func14, Try.ntmps14
  have c0 : (w.alloc (.cells #[.int .i64 nr, .int .i64 ns, .slice Ai n1 ci, .slice Ak n2 ck, .slice Al n cl] 26)).cell? ⟨w.heap.size, 0, none⟩ = some (.int .i64 nr) := kc.cell 0
  have c1 : (w.alloc (.cells #[.int .i64 nr, .int .i64 ns, .slice Ai n1 ci, .slice Ak n2 ck, .slice Al n cl] 26)).cell? ⟨w.heap.size, 1, none⟩ = some (.int .i64 ns) := kc.cell 1
  have c2 : (w.alloc (.cells #[.int .i64 nr, .int .i64 ns, .slice Ai n1 ci, .slice Ak n2 ck, .slice Al n cl] 26)).cell? ⟨w.heap.size, 2, none⟩ = some (.slice Ai n1 ci) := kc.cell 2
  have c3 : (w.alloc (.cells #[.int .i64 nr, .int .i64 ns, .slice Ai n1 ci, .slice Ak n2 ck, .slice Al n cl] 26)).cell? ⟨w.heap.size, 3, none⟩ = some (.slice Ak n2 ck) := kc.cell 3
  have c4 : (w.alloc (.cells #[.int .i64 nr, .int .i64 ns, .slice Ai n1 ci, .slice Ak n2 ck, .slice Al n cl] 26)).cell? ⟨w.heap.size, 4, none⟩ = some (.slice Al n cl) := kc.cell 4
  go_upto_region 1 with fail
  refine wp_region_s (fun qk => (plR1 nr ns 0 0 0 0 Ai Ak Al n1 n2 n ci ck cl 0 0 false w w).getD qk .any) (by kernel_rfl) ?_ ?_
  · refine BOk.cons rfl [] [1] rfl rfl (by kernel_rfl) (by kernel_rfl) (fun qK qa wr hB qO qF hK => ?_) ?_
    · have e1 : qa.tmps[1]? = some (.pointer (some ⟨w.heap.size, 0, none⟩)) := qO.1.trans rfl
      clear qO qF
      go_simp
      exact hK _ _ (Below.refl _ _) rfl
    refine BOk.cons rfl [0] [] rfl rfl (by kernel_rfl) (by kernel_rfl) (fun qK qa wr hB qO qF hK => ?_) ?_
    · have e7 : qa.tmps[7]? = some (.pointer (some ⟨w.heap.size, 1, none⟩)) := fis qF.1 rfl rfl
      clear qO qF
      have hc1 := (bcell hB _ _ (World.block_lt_of_cell? _ _ c1)).trans c1
      go_simp
      exact hK _ _ (Below.refl _ _) rfl
    refine BOk.cons rfl [1] [] rfl rfl (by kernel_rfl) (by kernel_rfl) (fun qK qa wr hB qO qF hK => ?_) ?_
    · have e8 : qa.tmps[8]? = some (.int .i64 ns) := fis qF.1 rfl rfl
      clear qO qF
      go_simp
      refine hK _ _ (Below.refl _ _) ?_
      show (_ : Value) = _
      first | rfl | (simp; done) | (simp; omega) | (congr 1; simp; done) | (congr 1; rw [decide_eq_decide]; omega) | exact congrArg Value.bool (nat_bne _ _) | exact congrArg Value.bool (nat_beq _ _)
    refine BOk.cons rfl [2] [] rfl rfl (by kernel_rfl) (by kernel_rfl) (fun qK qa wr hB qO qF hK => ?_) ?_
    · have e9 : qa.tmps[9]? = some (.bool ((ns != 0))) := fis qF.1 rfl rfl
      clear qO qF
      go_simp
      exact hK _ _ (Below.refl _ _) (by first | rfl | (show (_ : Value) = _; simp_all; done))
    refine BOk.optT rfl [] [1] rfl 3 false rfl rfl rfl rfl (by kernel_rfl) (by kernel_rfl) (by kernel_rfl) (fun hp hc hP qK qa wr hB qO qF hK => ?_) ?_
    · have e1 : qa.tmps[1]? = some (.pointer (some ⟨w.heap.size, 0, none⟩)) := qO.1.trans rfl
      clear qO qF
      go_simp
      exact hK _ _ (Below.refl _ _) rfl
    refine BOk.optT rfl [4] [] rfl 3 false rfl rfl rfl rfl (by kernel_rfl) (by kernel_rfl) (by kernel_rfl) (fun hp hc hP qK qa wr hB qO qF hK => ?_) ?_
    · have e11 : qa.tmps[11]? = some (.pointer (some ⟨w.heap.size, 0, none⟩)) := fif qF.1 rfl hP rfl
      clear qO qF
      have hc0 := (bcell hB _ _ (World.block_lt_of_cell? _ _ c0)).trans c0
      go_simp
      exact hK _ _ (Below.refl _ _) rfl
    refine BOk.optT rfl [5] [] rfl 3 false rfl rfl rfl rfl (by kernel_rfl) (by kernel_rfl) (by kernel_rfl) (fun hp hc hP qK qa wr hB qO qF hK => ?_) ?_
    · have e12 : qa.tmps[12]? = some (.int .i64 nr) := fif qF.1 rfl hP rfl
      clear qO qF
      go_simp
      refine hK _ _ (Below.refl _ _) ?_
      show (_ : Value) = _
      first | rfl | (simp; done) | (simp; omega) | (congr 1; simp; done) | (congr 1; rw [decide_eq_decide]; omega) | exact congrArg Value.bool (nat_bne _ _) | exact congrArg Value.bool (nat_beq _ _)
    refine BOk.cons rfl [3, 6] [] rfl rfl (by kernel_rfl) (by kernel_rfl) (fun qK qa wr hB qO qF hK => ?_) ?_
    · have e10 : qa.tmps[10]? = some (.bool ((ns != 0))) := fis qF.1 rfl rfl
      obtain ⟨u13, e13, r6⟩ := qF.2.1
      have r6 : u13 = (bif (true && (((ns != 0)) == false)) then .bool (decide (nr < 1)) else undef) := r6
      clear qO qF
      rcases (Bool.eq_false_or_eq_true (((ns != 0)))).symm with hcc | hcc
      · rw [hcc] at e10
        have e13 : qa.tmps[13]? = some (.bool ((decide (nr < 1)))) := (show u13 = .bool ((decide (nr < 1))) from r6.trans (by (first | rw [hcc] | skip); first | rfl | (rw [hP]; rfl))) ▸ e13
        go_simp
        exact hK _ _ (Below.refl _ _) (by show (_ : Value) = _; first | (rw [hcc]; first | rfl | (simp; done)) | (simp_all; done))
      · rw [hcc] at e10
        go_simp
        exact hK _ _ (Below.refl _ _) (by show (_ : Value) = _; first | (rw [hcc]; first | rfl | (simp; done)) | (simp_all; done))
    refine BOk.cons rfl [7] [] rfl rfl (by kernel_rfl) (by kernel_rfl) (fun qK qa wr hB qO qF hK => ?_) ?_
    · have e14 : qa.tmps[14]? = some (.bool (((ns != 0)) || (decide (nr < 1)))) := fis qF.1 rfl rfl
      clear qO qF
      go_simp
      exact hK _ _ (Below.refl _ _) (by first | rfl | (show (_ : Value) = _; simp_all; done))
    refine BOk.optT rfl [] [1] rfl 8 false rfl rfl rfl rfl (by kernel_rfl) (by kernel_rfl) (by kernel_rfl) (fun hp hc hP qK qa wr hB qO qF hK => ?_) ?_
    · have e1 : qa.tmps[1]? = some (.pointer (some ⟨w.heap.size, 0, none⟩)) := qO.1.trans rfl
      clear qO qF
      go_simp
      exact hK _ _ (Below.refl _ _) rfl
    refine BOk.optT rfl [9] [] rfl 8 false rfl rfl rfl rfl (by kernel_rfl) (by kernel_rfl) (by kernel_rfl) (fun hp hc hP qK qa wr hB qO qF hK => ?_) ?_
    · have e16 : qa.tmps[16]? = some (.pointer (some ⟨w.heap.size, 4, none⟩)) := fif qF.1 rfl hP rfl
      clear qO qF
      have hc4 := (bcell hB _ _ (World.block_lt_of_cell? _ _ c4)).trans c4
      go_simp
      exact hK _ _ (Below.refl _ _) rfl
    refine BOk.optT rfl [10] [] rfl 8 false rfl rfl rfl rfl (by kernel_rfl) (by kernel_rfl) (by kernel_rfl) (fun hp hc hP qK qa wr hB qO qF hK => ?_) ?_
    · have e17 : qa.tmps[17]? = some (.slice Al n cl) := fif qF.1 rfl hP rfl
      clear qO qF
      go_simp
      exact hK _ _ (Below.refl _ _) rfl
    refine BOk.optT rfl [11] [] rfl 8 false rfl rfl rfl rfl (by kernel_rfl) (by kernel_rfl) (by kernel_rfl) (fun hp hc hP qK qa wr hB qO qF hK => ?_) ?_
    · have e18 : qa.tmps[18]? = some (.int .i64 (n : Nat)) := fif qF.1 rfl hP rfl
      clear qO qF
      go_simp
      refine hK _ _ (Below.refl _ _) ?_
      show (_ : Value) = _
      first | rfl | (simp; done) | (simp; omega)
    refine BOk.optT rfl [] [1] rfl 8 false rfl rfl rfl rfl (by kernel_rfl) (by kernel_rfl) (by kernel_rfl) (fun hp hc hP qK qa wr hB qO qF hK => ?_) ?_
    · have e1 : qa.tmps[1]? = some (.pointer (some ⟨w.heap.size, 0, none⟩)) := qO.1.trans rfl
      clear qO qF
      go_simp
      exact hK _ _ (Below.refl _ _) rfl
    refine BOk.optT rfl [13] [] rfl 8 false rfl rfl rfl rfl (by kernel_rfl) (by kernel_rfl) (by kernel_rfl) (fun hp hc hP qK qa wr hB qO qF hK => ?_) ?_
    · have e20 : qa.tmps[20]? = some (.pointer (some ⟨w.heap.size, 0, none⟩)) := fif qF.1 rfl hP rfl
      clear qO qF
      have hc0 := (bcell hB _ _ (World.block_lt_of_cell? _ _ c0)).trans c0
      go_simp
      exact hK _ _ (Below.refl _ _) rfl
    refine BOk.optT rfl [12, 14] [] rfl 8 false rfl rfl rfl rfl (by kernel_rfl) (by kernel_rfl) (by kernel_rfl) (fun hp hc hP qK qa wr hB qO qF hK => ?_) ?_
    · have e19 : qa.tmps[19]? = some (.int .i64 (((n : Nat) : Int) - 1)) := fif qF.1 rfl hP rfl
      have e21 : qa.tmps[21]? = some (.int .i64 nr) := fif qF.2.1 rfl hP rfl
      clear qO qF
      go_simp
      refine hK _ _ (Below.refl _ _) ?_
      show (_ : Value) = _
      first | rfl | (simp; done) | (simp; omega) | (congr 1; simp; done) | (congr 1; rw [decide_eq_decide]; omega) | exact congrArg Value.bool (nat_bne _ _) | exact congrArg Value.bool (nat_beq _ _)
    refine BOk.cons rfl [8, 15] [] rfl rfl (by kernel_rfl) (by kernel_rfl) (fun qK qa wr hB qO qF hK => ?_) ?_
    · have e15 : qa.tmps[15]? = some (.bool (((ns != 0)) || (decide (nr < 1)))) := fis qF.1 rfl rfl
      obtain ⟨u22, e22, r15⟩ := qF.2.1
      have r15 : u22 = (bif (true && ((((ns != 0)) || (decide (nr < 1))) == false)) then .bool (((((n : Nat) : Int) - 1) != nr)) else undef) := r15
      clear qO qF
      rcases (Bool.eq_false_or_eq_true ((((ns != 0)) || (decide (nr < 1))))).symm with hcc | hcc
      · rw [hcc] at e15
        have e22 : qa.tmps[22]? = some (.bool ((((((n : Nat) : Int) - 1) != nr)))) := (show u22 = .bool ((((((n : Nat) : Int) - 1) != nr))) from r15.trans (by (first | rw [hcc] | skip); first | rfl | (rw [hP]; rfl))) ▸ e22
        go_simp
        exact hK _ _ (Below.refl _ _) (by show (_ : Value) = _; first | (rw [hcc]; first | rfl | (simp; done)) | (simp_all; done))
      · rw [hcc] at e15
        go_simp
        exact hK _ _ (Below.refl _ _) (by show (_ : Value) = _; first | (rw [hcc]; first | rfl | (simp; done)) | (simp_all; done))
    exact BOk.nil
  intro vals wr hl hB hR
  match vals, hl with
  | [y7, y8, y9, y10, y11, y12, y13, y14, y15, y16, y17, y18, y19, y20, y21, y22, y23], _ =>
  have r16 : y23 = .bool ((((ns != 0)) || (decide (nr < 1))) || (((((n : Nat) : Int) - 1) != nr))) := hR 16 _ rfl
  subst r16
  clear hR
  simp only [List.cons_append, List.nil_append, putAll, Act.put, List.setIfInBounds_toArray, List.set_cons_zero, List.set_cons_succ]
  rename World => wa
  replace hbe := hbe.trans (hB.mono hbe.size)
  replace kc := kc.old hB
  clear hB c0 c1 c2 c3 c4
  by_cases h1 : ((((ns != 0)) || (decide (nr < 1))) || (((((n : Nat) : Int) - 1) != nr))) = true
  · as_aux_lemma =>
    rw [h1]
    clear kc
    go_wp2_with fail
    go_ret
    exact ⟨false, rfl, fun h => (by cases h), hbe⟩
  have g1 : ((((ns != 0)) || (decide (nr < 1))) || (((((n : Nat) : Int) - 1) != nr))) = false := by simpa using h1
  rw [g1]
  simp only [Bool.or_eq_false_iff, bne_eq_false_iff_eq, decide_eq_false_iff_not] at g1
  obtain ⟨⟨hns, hnr1⟩, hnr⟩ := g1
  obtain ⟨N, hN⟩ : ∃ N : Nat, nr = N := ⟨nr.toNat, by omega⟩
  have hNn : n = N + 1 := by omega
  have hN1 : 1 ≤ N := by omega
  have HF := Lib.hid hns
  subst hN
  have HNN := Lib.hid hNn
  clear h1 hns hnr1 hnr hwr hNn
  have c0 : wa.cell? ⟨w.heap.size, 0, none⟩ = some (.int .i64 (N : Nat)) := kc.cell 0
  have c1 : wa.cell? ⟨w.heap.size, 1, none⟩ = some (.int .i64 ns) := kc.cell 1
  have c2 : wa.cell? ⟨w.heap.size, 2, none⟩ = some (.slice Ai n1 ci) := kc.cell 2
  have c3 : wa.cell? ⟨w.heap.size, 3, none⟩ = some (.slice Ak n2 ck) := kc.cell 3
  have c4 : wa.cell? ⟨w.heap.size, 4, none⟩ = some (.slice Al n cl) := kc.cell 4
  go_wp2_with fail
  clear c0 c1 c2 c3 c4
  go_loopw [27] (fun i wr => ∃ k : Nat, k ≤ n ∧ i = .int .i64 k ∧ Below w.heap.size w wr ∧ Bk wr w.heap.size 26 #[.int .i64 (N : Nat), .int .i64 ns, .slice Ai n1 ci, .slice Ak n2 ck, .slice Al n cl] ∧ Hid (∀ (j : Nat) (x : InsV), j < k → ll[j]? = some x → PlainP n1 n2 N j x)) (fun i _ => n - (intOf i).toNat)
  case atStart => exact ⟨0, Nat.zero_le _, rfl, hbe, kc, Lib.hid (fun j x hj => by omega)⟩
  case round =>
    rename World => wz
    clear hbe kc
    obtain ⟨k, hk, rfl, hbe, kc, hall⟩ := hrel
    by_cases hlt : k < n
    · have hlt' : k < ll.length := by rw [HN.out]; exact hlt
      obtain ⟨bb, oo, rfl, hb, hc⟩ := (HRL.out.below hbe).elem (f := InsV.cells) (n := 4) (fun _ => rfl) (by omega) hlt'
      have hxk : ll[k]? = some ll[k] := List.getElem?_eq_getElem hlt'
      generalize ll[k] = x at *
      obtain ⟨op, dst, a, b⟩ := x
      have y0 : wz.cell? ⟨bb, oo + k * 4, none⟩ = some (.int .i64 op) := hc 0 _ rfl
      have y1 : wz.cell? ⟨bb, oo + k * 4 + 1, none⟩ = some (.int .i64 dst) := hc 1 _ rfl
      have y2 : wz.cell? ⟨bb, oo + k * 4 + 2, none⟩ = some (.int .i64 a) := hc 2 _ rfl
      have y3 : wz.cell? ⟨bb, oo + k * 4 + 3, none⟩ = some (.int .i64 b) := hc 3 _ rfl
      have HXK := Lib.hid hxk
      have c0 : wz.cell? ⟨w.heap.size, 0, none⟩ = some (.int .i64 (N : Nat)) := kc.cell 0
      have c0a : (wz.alloc (.cells #[.int .i64 op, .int .i64 dst, .int .i64 a, .int .i64 b] 43)).cell? ⟨w.heap.size, 0, none⟩ = some (.int .i64 (N : Nat)) := (kc.alloc _).cell 0
      obtain ⟨m, hm⟩ : ∃ m, opnd op = m := ⟨_, rfl⟩
      have hop : ∀ w', Calls Try.prog 22 #[.int .i64 op] w' fun e w2 => e = .returned (.int .i64 (m : Nat)) ∧ w' = w2 := fun w' => by rw [← hm]; exact operands_any op w'
      have HOP := Lib.hid hop
      have HM := Lib.hid hm
      obtain ⟨en, hen⟩ : ∃ en, ((k : Int) == (N : Int)) = en := ⟨_, rfl⟩
      clear hc hxk hop hm
      go_wp2_with fail
      refine (HOP.out _).mono ?_
      rintro e w9 ⟨rfl, rfl⟩
      have kx := Bk.new wz 43 #[.int .i64 op, .int .i64 dst, .int .i64 a, .int .i64 b]
      replace hbe := hbe.alloc hbe.size (.cells #[.int .i64 op, .int .i64 dst, .int .i64 a, .int .i64 b] 43)
      replace kc := kc.alloc (.cells #[.int .i64 op, .int .i64 dst, .int .i64 a, .int .i64 b] 43)
      clear y0 y1 y2 y3 c0 c0a HOP
      have c0 : (wz.alloc (.cells #[.int .i64 op, .int .i64 dst, .int .i64 a, .int .i64 b] 43)).cell? ⟨w.heap.size, 0, none⟩ = some (.int .i64 (N : Nat)) := kc.cell 0
      have c1 : (wz.alloc (.cells #[.int .i64 op, .int .i64 dst, .int .i64 a, .int .i64 b] 43)).cell? ⟨w.heap.size, 1, none⟩ = some (.int .i64 ns) := kc.cell 1
      have c2 : (wz.alloc (.cells #[.int .i64 op, .int .i64 dst, .int .i64 a, .int .i64 b] 43)).cell? ⟨w.heap.size, 2, none⟩ = some (.slice Ai n1 ci) := kc.cell 2
      have c3 : (wz.alloc (.cells #[.int .i64 op, .int .i64 dst, .int .i64 a, .int .i64 b] 43)).cell? ⟨w.heap.size, 3, none⟩ = some (.slice Ak n2 ck) := kc.cell 3
      have c4 : (wz.alloc (.cells #[.int .i64 op, .int .i64 dst, .int .i64 a, .int .i64 b] 43)).cell? ⟨w.heap.size, 4, none⟩ = some (.slice (some ⟨bb, oo, none⟩) n cl) := kc.cell 4
      have x0 : (wz.alloc (.cells #[.int .i64 op, .int .i64 dst, .int .i64 a, .int .i64 b] 43)).cell? ⟨wz.heap.size, 0, none⟩ = some (.int .i64 op) := kx.cell 0
      have x1 : (wz.alloc (.cells #[.int .i64 op, .int .i64 dst, .int .i64 a, .int .i64 b] 43)).cell? ⟨wz.heap.size, 1, none⟩ = some (.int .i64 dst) := kx.cell 1
      have x2 : (wz.alloc (.cells #[.int .i64 op, .int .i64 dst, .int .i64 a, .int .i64 b] 43)).cell? ⟨wz.heap.size, 2, none⟩ = some (.int .i64 a) := kx.cell 2
      have x3 : (wz.alloc (.cells #[.int .i64 op, .int .i64 dst, .int .i64 a, .int .i64 b] 43)).cell? ⟨wz.heap.size, 3, none⟩ = some (.int .i64 b) := kx.cell 3
      go_upto_region 8 with fail
      refine wp_region_s (fun qk => (plR8 N ns op dst a b Ai Ak (some ⟨bb, oo, none⟩) n1 n2 n ci ck cl k m en w wz).getD qk .any) (by kernel_rfl) ?_ ?_
      · refine BOk.cons rfl [] [6] rfl rfl (by kernel_rfl) (by kernel_rfl) (fun qK qa wr hB qO qF hK => ?_) ?_
        · have e6 : qa.tmps[6]? = some (.bool en) := qO.1.trans rfl
          clear qO qF
          go_simp
          exact hK _ _ (Below.refl _ _) (by first | rfl | (show (_ : Value) = _; simp_all; done))
        refine BOk.cons rfl [] [4] rfl rfl (by kernel_rfl) (by kernel_rfl) (fun qK qa wr hB qO qF hK => ?_) ?_
        · have e4 : qa.tmps[4]? = some (.pointer (some ⟨wz.heap.size, 0, none⟩)) := qO.1.trans rfl
          clear qO qF
          go_simp
          exact hK _ _ (Below.refl _ _) rfl
        refine BOk.cons rfl [1] [] rfl rfl (by kernel_rfl) (by kernel_rfl) (fun qK qa wr hB qO qF hK => ?_) ?_
        · have e41 : qa.tmps[41]? = some (.pointer (some ⟨wz.heap.size, 0, none⟩)) := fis qF.1 rfl rfl
          clear qO qF
          have hx0 := (bcell hB _ _ (World.block_lt_of_cell? _ _ x0)).trans x0
          go_simp
          exact hK _ _ (Below.refl _ _) rfl
        refine BOk.cons rfl [2] [] rfl rfl (by kernel_rfl) (by kernel_rfl) (fun qK qa wr hB qO qF hK => ?_) ?_
        · have e42 : qa.tmps[42]? = some (.int .i64 op) := fis qF.1 rfl rfl
          clear qO qF
          go_simp
          refine hK _ _ (Below.refl _ _) ?_
          show (_ : Value) = _
          first | rfl | (simp; done) | (simp; omega) | (congr 1; simp; done) | (congr 1; rw [decide_eq_decide]; omega) | exact congrArg Value.bool (nat_bne _ _) | exact congrArg Value.bool (nat_beq _ _)
        refine BOk.cons rfl [0, 3] [] rfl rfl (by kernel_rfl) (by kernel_rfl) (fun qK qa wr hB qO qF hK => ?_) ?_
        · have e40 : qa.tmps[40]? = some (.bool en) := fis qF.1 rfl rfl
          have e43 : qa.tmps[43]? = some (.bool ((op == 52))) := fis qF.2.1 rfl rfl
          clear qO qF
          go_simp
          refine hK _ _ (Below.refl _ _) ?_
          show (_ : Value) = _
          first | rfl | (simp; done) | (simp; omega) | (congr 1; simp; done)
        refine BOk.cons rfl [4] [] rfl rfl (by kernel_rfl) (by kernel_rfl) (fun qK qa wr hB qO qF hK => ?_) ?_
        · have e44 : qa.tmps[44]? = some (.bool (en != ((op == 52)))) := fis qF.1 rfl rfl
          clear qO qF
          go_simp
          exact hK _ _ (Below.refl _ _) (by first | rfl | (show (_ : Value) = _; simp_all; done))
        exact BOk.nil
      intro vals wr hl hB hR
      match vals, hl with
      | [z8_40, z8_41, z8_42, z8_43, z8_44, z8_39], _ =>
      have r5 : z8_39 = .bool (en != ((op == 52))) := hR 5 _ rfl
      subst r5
      clear hR
      simp only [List.cons_append, List.nil_append, putAll, Act.put, List.setIfInBounds_toArray, List.set_cons_zero, List.set_cons_succ]
      rename World => w8
      replace hbe := hbe.trans (hB.mono hbe.size)
      replace kc := kc.old hB
      replace kx := kx.old hB
      clear hB c0 c1 c2 c3 c4 x0 x1 x2 x3
      by_cases h8 : (en != ((op == 52))) = true
      · as_aux_lemma =>
        rw [h8]
        clear kx kc
        go_wp2_with fail
        go_ret
        exact ⟨false, rfl, fun h => (by cases h), hbe⟩
      have g8 : (en != ((op == 52))) = false := by simpa using h8
      rw [g8]
      have G8 := Lib.hid g8
      clear g8 h8
      have c0 : w8.cell? ⟨w.heap.size, 0, none⟩ = some (.int .i64 (N : Nat)) := kc.cell 0
      have c1 : w8.cell? ⟨w.heap.size, 1, none⟩ = some (.int .i64 ns) := kc.cell 1
      have c2 : w8.cell? ⟨w.heap.size, 2, none⟩ = some (.slice Ai n1 ci) := kc.cell 2
      have c3 : w8.cell? ⟨w.heap.size, 3, none⟩ = some (.slice Ak n2 ck) := kc.cell 3
      have c4 : w8.cell? ⟨w.heap.size, 4, none⟩ = some (.slice (some ⟨bb, oo, none⟩) n cl) := kc.cell 4
      have x0 : w8.cell? ⟨wz.heap.size, 0, none⟩ = some (.int .i64 op) := kx.cell 0
      have x1 : w8.cell? ⟨wz.heap.size, 1, none⟩ = some (.int .i64 dst) := kx.cell 1
      have x2 : w8.cell? ⟨wz.heap.size, 2, none⟩ = some (.int .i64 a) := kx.cell 2
      have x3 : w8.cell? ⟨wz.heap.size, 3, none⟩ = some (.int .i64 b) := kx.cell 3
      go_upto_region 9 with fail
      refine wp_region_s (fun qk => (plR9 N ns op dst a b Ai Ak (some ⟨bb, oo, none⟩) n1 n2 n ci ck cl k m en w wz).getD qk .any) (by kernel_rfl) ?_ ?_
      · refine BOk.cons rfl [] [6] rfl rfl (by kernel_rfl) (by kernel_rfl) (fun qK qa wr hB qO qF hK => ?_) ?_
        · have e6 : qa.tmps[6]? = some (.bool en) := qO.1.trans rfl
          clear qO qF
          go_simp
          exact hK _ _ (Below.refl _ _) (by first | rfl | (show (_ : Value) = _; simp_all; done))
        refine BOk.cons rfl [0] [] rfl rfl (by kernel_rfl) (by kernel_rfl) (fun qK qa wr hB qO qF hK => ?_) ?_
        · have e45 : qa.tmps[45]? = some (.bool en) := fis qF.1 rfl rfl
          clear qO qF
          go_simp
          exact hK _ _ (Below.refl _ _) (by first | rfl | (show (_ : Value) = _; simp_all; done))
        refine BOk.optT rfl [] [4] rfl 1 true rfl rfl rfl rfl (by kernel_rfl) (by kernel_rfl) (by kernel_rfl) (fun hp hc hP qK qa wr hB qO qF hK => ?_) ?_
        · have e4 : qa.tmps[4]? = some (.pointer (some ⟨wz.heap.size, 0, none⟩)) := qO.1.trans rfl
          clear qO qF
          go_simp
          exact hK _ _ (Below.refl _ _) rfl
        refine BOk.optT rfl [2] [] rfl 1 true rfl rfl rfl rfl (by kernel_rfl) (by kernel_rfl) (by kernel_rfl) (fun hp hc hP qK qa wr hB qO qF hK => ?_) ?_
        · have e47 : qa.tmps[47]? = some (.pointer (some ⟨wz.heap.size, 1, none⟩)) := fif qF.1 rfl hP rfl
          clear qO qF
          have hx1 := (bcell hB _ _ (World.block_lt_of_cell? _ _ x1)).trans x1
          go_simp
          exact hK _ _ (Below.refl _ _) rfl
        refine BOk.optT rfl [3] [] rfl 1 true rfl rfl rfl rfl (by kernel_rfl) (by kernel_rfl) (by kernel_rfl) (fun hp hc hP qK qa wr hB qO qF hK => ?_) ?_
        · have e48 : qa.tmps[48]? = some (.int .i64 dst) := fif qF.1 rfl hP rfl
          clear qO qF
          go_simp
          refine hK _ _ (Below.refl _ _) ?_
          show (_ : Value) = _
          first | rfl | (simp; done) | (simp; omega) | (congr 1; simp; done) | (congr 1; rw [decide_eq_decide]; omega) | exact congrArg Value.bool (nat_bne _ _) | exact congrArg Value.bool (nat_beq _ _)
        refine BOk.cons rfl [1, 4] [] rfl rfl (by kernel_rfl) (by kernel_rfl) (fun qK qa wr hB qO qF hK => ?_) ?_
        · have e46 : qa.tmps[46]? = some (.bool en) := fis qF.1 rfl rfl
          obtain ⟨u49, e49, r4⟩ := qF.2.1
          have r4 : u49 = (bif (true && (en == true)) then .bool ((dst != 0)) else undef) := r4
          clear qO qF
          rcases (Bool.eq_false_or_eq_true (en)).symm with hcc | hcc
          · rw [hcc] at e46
            go_simp
            exact hK _ _ (Below.refl _ _) (by show (_ : Value) = _; first | (rw [hcc]; first | rfl | (simp; done)) | (simp_all; done))
          · rw [hcc] at e46
            have e49 : qa.tmps[49]? = some (.bool (((dst != 0)))) := (show u49 = .bool (((dst != 0))) from r4.trans (by (first | rw [hcc] | skip); first | rfl | (rw [hP]; rfl))) ▸ e49
            go_simp
            exact hK _ _ (Below.refl _ _) (by show (_ : Value) = _; first | (rw [hcc]; first | rfl | (simp; done)) | (simp_all; done))
        refine BOk.cons rfl [5] [] rfl rfl (by kernel_rfl) (by kernel_rfl) (fun qK qa wr hB qO qF hK => ?_) ?_
        · have e50 : qa.tmps[50]? = some (.bool (en && ((dst != 0)))) := fis qF.1 rfl rfl
          clear qO qF
          go_simp
          exact hK _ _ (Below.refl _ _) (by first | rfl | (show (_ : Value) = _; simp_all; done))
        exact BOk.nil
      intro vals wr hl hB hR
      match vals, hl with
      | [z9_45, z9_46, z9_47, z9_48, z9_49, z9_50, z9_39], _ =>
      have r6 : z9_39 = .bool (en && ((dst != 0))) := hR 6 _ rfl
      subst r6
      clear hR
      simp only [List.cons_append, List.nil_append, putAll, Act.put, List.setIfInBounds_toArray, List.set_cons_zero, List.set_cons_succ]
      rename World => w9
      replace hbe := hbe.trans (hB.mono hbe.size)
      replace kc := kc.old hB
      replace kx := kx.old hB
      clear hB c0 c1 c2 c3 c4 x0 x1 x2 x3
      by_cases h9 : (en && ((dst != 0))) = true
      · as_aux_lemma =>
        rw [h9]
        clear kx kc
        go_wp2_with fail
        go_ret
        exact ⟨false, rfl, fun h => (by cases h), hbe⟩
      have g9 : (en && ((dst != 0))) = false := by simpa using h9
      rw [g9]
      have G9 := Lib.hid g9
      clear g9 h9
      have c0 : w9.cell? ⟨w.heap.size, 0, none⟩ = some (.int .i64 (N : Nat)) := kc.cell 0
      have c1 : w9.cell? ⟨w.heap.size, 1, none⟩ = some (.int .i64 ns) := kc.cell 1
      have c2 : w9.cell? ⟨w.heap.size, 2, none⟩ = some (.slice Ai n1 ci) := kc.cell 2
      have c3 : w9.cell? ⟨w.heap.size, 3, none⟩ = some (.slice Ak n2 ck) := kc.cell 3
      have c4 : w9.cell? ⟨w.heap.size, 4, none⟩ = some (.slice (some ⟨bb, oo, none⟩) n cl) := kc.cell 4
      have x0 : w9.cell? ⟨wz.heap.size, 0, none⟩ = some (.int .i64 op) := kx.cell 0
      have x1 : w9.cell? ⟨wz.heap.size, 1, none⟩ = some (.int .i64 dst) := kx.cell 1
      have x2 : w9.cell? ⟨wz.heap.size, 2, none⟩ = some (.int .i64 a) := kx.cell 2
      have x3 : w9.cell? ⟨wz.heap.size, 3, none⟩ = some (.int .i64 b) := kx.cell 3
      go_upto_region 10 with fail
      refine wp_region_s (fun qk => (plR10 N ns op dst a b Ai Ak (some ⟨bb, oo, none⟩) n1 n2 n ci ck cl k m en w wz).getD qk .any) (by kernel_rfl) ?_ ?_
      · refine BOk.cons rfl [] [6] rfl rfl (by kernel_rfl) (by kernel_rfl) (fun qK qa wr hB qO qF hK => ?_) ?_
        · have e6 : qa.tmps[6]? = some (.bool en) := qO.1.trans rfl
          clear qO qF
          go_simp
          exact hK _ _ (Below.refl _ _) (by first | rfl | (show (_ : Value) = _; simp_all; done))
        refine BOk.cons rfl [0] [] rfl rfl (by kernel_rfl) (by kernel_rfl) (fun qK qa wr hB qO qF hK => ?_) ?_
        · have e51 : qa.tmps[51]? = some (.bool en) := fis qF.1 rfl rfl
          clear qO qF
          go_simp
          exact hK _ _ (Below.refl _ _) rfl
        refine BOk.cons rfl [1] [] rfl rfl (by kernel_rfl) (by kernel_rfl) (fun qK qa wr hB qO qF hK => ?_) ?_
        · have e52 : qa.tmps[52]? = some (.bool (!en)) := fis qF.1 rfl rfl
          clear qO qF
          go_simp
          exact hK _ _ (Below.refl _ _) (by first | rfl | (show (_ : Value) = _; simp_all; done))
        refine BOk.optT rfl [] [4] rfl 2 true rfl rfl rfl rfl (by kernel_rfl) (by kernel_rfl) (by kernel_rfl) (fun hp hc hP qK qa wr hB qO qF hK => ?_) ?_
        · have e4 : qa.tmps[4]? = some (.pointer (some ⟨wz.heap.size, 0, none⟩)) := qO.1.trans rfl
          clear qO qF
          go_simp
          exact hK _ _ (Below.refl _ _) rfl
        refine BOk.optT rfl [3] [] rfl 2 true rfl rfl rfl rfl (by kernel_rfl) (by kernel_rfl) (by kernel_rfl) (fun hp hc hP qK qa wr hB qO qF hK => ?_) ?_
        · have e54 : qa.tmps[54]? = some (.pointer (some ⟨wz.heap.size, 1, none⟩)) := fif qF.1 rfl hP rfl
          clear qO qF
          have hx1 := (bcell hB _ _ (World.block_lt_of_cell? _ _ x1)).trans x1
          go_simp
          exact hK _ _ (Below.refl _ _) rfl
        refine BOk.optT rfl [] [3] rfl 2 true rfl rfl rfl rfl (by kernel_rfl) (by kernel_rfl) (by kernel_rfl) (fun hp hc hP qK qa wr hB qO qF hK => ?_) ?_
        · have e3 : qa.tmps[3]? = some (.int .i64 (k : Nat)) := qO.1.trans rfl
          clear qO qF
          go_simp
          exact hK _ _ (Below.refl _ _) rfl
        refine BOk.optT rfl [4, 5] [] rfl 2 true rfl rfl rfl rfl (by kernel_rfl) (by kernel_rfl) (by kernel_rfl) (fun hp hc hP qK qa wr hB qO qF hK => ?_) ?_
        · have e55 : qa.tmps[55]? = some (.int .i64 dst) := fif qF.1 rfl hP rfl
          have e56 : qa.tmps[56]? = some (.int .i64 (k : Nat)) := fif qF.2.1 rfl hP rfl
          clear qO qF
          go_simp
          refine hK _ _ (Below.refl _ _) ?_
          show (_ : Value) = _
          first | rfl | (simp; done) | (simp; omega) | (congr 1; simp; done) | (congr 1; rw [decide_eq_decide]; omega) | exact congrArg Value.bool (nat_bne _ _) | exact congrArg Value.bool (nat_beq _ _)
        refine BOk.cons rfl [2, 6] [] rfl rfl (by kernel_rfl) (by kernel_rfl) (fun qK qa wr hB qO qF hK => ?_) ?_
        · have e53 : qa.tmps[53]? = some (.bool (!en)) := fis qF.1 rfl rfl
          obtain ⟨u57, e57, r6⟩ := qF.2.1
          have r6 : u57 = (bif (true && ((!en) == true)) then .bool ((dst != (k : Nat))) else undef) := r6
          clear qO qF
          rcases (Bool.eq_false_or_eq_true ((!en))).symm with hcc | hcc
          · rw [hcc] at e53
            go_simp
            exact hK _ _ (Below.refl _ _) (by show (_ : Value) = _; first | (rw [hcc]; first | rfl | (simp; done)) | (simp_all; done))
          · rw [hcc] at e53
            have e57 : qa.tmps[57]? = some (.bool (((dst != (k : Nat))))) := (show u57 = .bool (((dst != (k : Nat)))) from r6.trans (by (first | rw [hcc] | skip); first | rfl | (rw [hP]; rfl))) ▸ e57
            go_simp
            exact hK _ _ (Below.refl _ _) (by show (_ : Value) = _; first | (rw [hcc]; first | rfl | (simp; done)) | (simp_all; done))
        refine BOk.cons rfl [7] [] rfl rfl (by kernel_rfl) (by kernel_rfl) (fun qK qa wr hB qO qF hK => ?_) ?_
        · have e58 : qa.tmps[58]? = some (.bool ((!en) && ((dst != (k : Nat))))) := fis qF.1 rfl rfl
          clear qO qF
          go_simp
          exact hK _ _ (Below.refl _ _) (by first | rfl | (show (_ : Value) = _; simp_all; done))
        exact BOk.nil
      intro vals wr hl hB hR
      match vals, hl with
      | [z10_51, z10_52, z10_53, z10_54, z10_55, z10_56, z10_57, z10_58, z10_39], _ =>
      have r8 : z10_39 = .bool ((!en) && ((dst != (k : Nat)))) := hR 8 _ rfl
      subst r8
      clear hR
      simp only [List.cons_append, List.nil_append, putAll, Act.put, List.setIfInBounds_toArray, List.set_cons_zero, List.set_cons_succ]
      rename World => w10
      replace hbe := hbe.trans (hB.mono hbe.size)
      replace kc := kc.old hB
      replace kx := kx.old hB
      clear hB c0 c1 c2 c3 c4 x0 x1 x2 x3
      by_cases h10 : ((!en) && ((dst != (k : Nat)))) = true
      · as_aux_lemma =>
        rw [h10]
        clear kx kc
        go_wp2_with fail
        go_ret
        exact ⟨false, rfl, fun h => (by cases h), hbe⟩
      have g10 : ((!en) && ((dst != (k : Nat)))) = false := by simpa using h10
      rw [g10]
      have G10 := Lib.hid g10
      clear g10 h10
      have c0 : w10.cell? ⟨w.heap.size, 0, none⟩ = some (.int .i64 (N : Nat)) := kc.cell 0
      have c1 : w10.cell? ⟨w.heap.size, 1, none⟩ = some (.int .i64 ns) := kc.cell 1
      have c2 : w10.cell? ⟨w.heap.size, 2, none⟩ = some (.slice Ai n1 ci) := kc.cell 2
      have c3 : w10.cell? ⟨w.heap.size, 3, none⟩ = some (.slice Ak n2 ck) := kc.cell 3
      have c4 : w10.cell? ⟨w.heap.size, 4, none⟩ = some (.slice (some ⟨bb, oo, none⟩) n cl) := kc.cell 4
      have x0 : w10.cell? ⟨wz.heap.size, 0, none⟩ = some (.int .i64 op) := kx.cell 0
      have x1 : w10.cell? ⟨wz.heap.size, 1, none⟩ = some (.int .i64 dst) := kx.cell 1
      have x2 : w10.cell? ⟨wz.heap.size, 2, none⟩ = some (.int .i64 a) := kx.cell 2
      have x3 : w10.cell? ⟨wz.heap.size, 3, none⟩ = some (.int .i64 b) := kx.cell 3
      go_upto_region 11 with fail
      refine wp_region_s (fun qk => (plR11 N ns op dst a b Ai Ak (some ⟨bb, oo, none⟩) n1 n2 n ci ck cl k m en w wz).getD qk .any) (by kernel_rfl) ?_ ?_
      · refine BOk.cons rfl [] [5] rfl rfl (by kernel_rfl) (by kernel_rfl) (fun qK qa wr hB qO qF hK => ?_) ?_
        · have e5 : qa.tmps[5]? = some (.int .i64 (m : Nat)) := qO.1.trans rfl
          clear qO qF
          go_simp
          exact hK _ _ (Below.refl _ _) rfl
        refine BOk.cons rfl [0] [] rfl rfl (by kernel_rfl) (by kernel_rfl) (fun qK qa wr hB qO qF hK => ?_) ?_
        · have e59 : qa.tmps[59]? = some (.int .i64 (m : Nat)) := fis qF.1 rfl rfl
          clear qO qF
          go_simp
          refine hK _ _ (Below.refl _ _) ?_
          show (_ : Value) = _
          first | rfl | (simp; done) | (simp; omega) | (congr 1; simp; done) | (congr 1; rw [decide_eq_decide]; omega) | exact congrArg Value.bool (nat_bne _ _) | exact congrArg Value.bool (nat_beq _ _)
        refine BOk.cons rfl [1] [] rfl rfl (by kernel_rfl) (by kernel_rfl) (fun qK qa wr hB qO qF hK => ?_) ?_
        · have e60 : qa.tmps[60]? = some (.bool (decide ((m : Nat) < 2))) := fis qF.1 rfl rfl
          clear qO qF
          go_simp
          exact hK _ _ (Below.refl _ _) (by first | rfl | (show (_ : Value) = _; simp_all; done))
        refine BOk.optT rfl [] [4] rfl 2 true rfl rfl rfl rfl (by kernel_rfl) (by kernel_rfl) (by kernel_rfl) (fun hp hc hP qK qa wr hB qO qF hK => ?_) ?_
        · have e4 : qa.tmps[4]? = some (.pointer (some ⟨wz.heap.size, 0, none⟩)) := qO.1.trans rfl
          clear qO qF
          go_simp
          exact hK _ _ (Below.refl _ _) rfl
        refine BOk.optT rfl [3] [] rfl 2 true rfl rfl rfl rfl (by kernel_rfl) (by kernel_rfl) (by kernel_rfl) (fun hp hc hP qK qa wr hB qO qF hK => ?_) ?_
        · have e62 : qa.tmps[62]? = some (.pointer (some ⟨wz.heap.size, 3, none⟩)) := fif qF.1 rfl hP rfl
          clear qO qF
          have hx3 := (bcell hB _ _ (World.block_lt_of_cell? _ _ x3)).trans x3
          go_simp
          exact hK _ _ (Below.refl _ _) rfl
        refine BOk.optT rfl [4] [] rfl 2 true rfl rfl rfl rfl (by kernel_rfl) (by kernel_rfl) (by kernel_rfl) (fun hp hc hP qK qa wr hB qO qF hK => ?_) ?_
        · have e63 : qa.tmps[63]? = some (.int .i64 b) := fif qF.1 rfl hP rfl
          clear qO qF
          go_simp
          refine hK _ _ (Below.refl _ _) ?_
          show (_ : Value) = _
          first | rfl | (simp; done) | (simp; omega) | (congr 1; simp; done) | (congr 1; rw [decide_eq_decide]; omega) | exact congrArg Value.bool (nat_bne _ _) | exact congrArg Value.bool (nat_beq _ _)
        refine BOk.cons rfl [2, 5] [] rfl rfl (by kernel_rfl) (by kernel_rfl) (fun qK qa wr hB qO qF hK => ?_) ?_
        · have e61 : qa.tmps[61]? = some (.bool (decide ((m : Nat) < 2))) := fis qF.1 rfl rfl
          obtain ⟨u64, e64, r5⟩ := qF.2.1
          have r5 : u64 = (bif (true && ((decide ((m : Nat) < 2)) == true)) then .bool ((b != 0)) else undef) := r5
          clear qO qF
          rcases (Bool.eq_false_or_eq_true ((decide ((m : Nat) < 2)))).symm with hcc | hcc
          · rw [hcc] at e61
            go_simp
            exact hK _ _ (Below.refl _ _) (by show (_ : Value) = _; first | (rw [hcc]; first | rfl | (simp; done)) | (simp_all; done))
          · rw [hcc] at e61
            have e64 : qa.tmps[64]? = some (.bool (((b != 0)))) := (show u64 = .bool (((b != 0))) from r5.trans (by (first | rw [hcc] | skip); first | rfl | (rw [hP]; rfl))) ▸ e64
            go_simp
            exact hK _ _ (Below.refl _ _) (by show (_ : Value) = _; first | (rw [hcc]; first | rfl | (simp; done)) | (simp_all; done))
        refine BOk.cons rfl [6] [] rfl rfl (by kernel_rfl) (by kernel_rfl) (fun qK qa wr hB qO qF hK => ?_) ?_
        · have e65 : qa.tmps[65]? = some (.bool ((decide ((m : Nat) < 2)) && ((b != 0)))) := fis qF.1 rfl rfl
          clear qO qF
          go_simp
          exact hK _ _ (Below.refl _ _) (by first | rfl | (show (_ : Value) = _; simp_all; done))
        exact BOk.nil
      intro vals wr hl hB hR
      match vals, hl with
      | [z11_59, z11_60, z11_61, z11_62, z11_63, z11_64, z11_65, z11_39], _ =>
      have r7 : z11_39 = .bool ((decide ((m : Nat) < 2)) && ((b != 0))) := hR 7 _ rfl
      subst r7
      clear hR
      simp only [List.cons_append, List.nil_append, putAll, Act.put, List.setIfInBounds_toArray, List.set_cons_zero, List.set_cons_succ]
      rename World => w11
      replace hbe := hbe.trans (hB.mono hbe.size)
      replace kc := kc.old hB
      replace kx := kx.old hB
      clear hB c0 c1 c2 c3 c4 x0 x1 x2 x3
      by_cases h11 : ((decide ((m : Nat) < 2)) && ((b != 0))) = true
      · as_aux_lemma =>
        rw [h11]
        clear kx kc
        go_wp2_with fail
        go_ret
        exact ⟨false, rfl, fun h => (by cases h), hbe⟩
      have g11 : ((decide ((m : Nat) < 2)) && ((b != 0))) = false := by simpa using h11
      rw [g11]
      have G11 := Lib.hid g11
      clear g11 h11
      have c0 : w11.cell? ⟨w.heap.size, 0, none⟩ = some (.int .i64 (N : Nat)) := kc.cell 0
      have c1 : w11.cell? ⟨w.heap.size, 1, none⟩ = some (.int .i64 ns) := kc.cell 1
      have c2 : w11.cell? ⟨w.heap.size, 2, none⟩ = some (.slice Ai n1 ci) := kc.cell 2
      have c3 : w11.cell? ⟨w.heap.size, 3, none⟩ = some (.slice Ak n2 ck) := kc.cell 3
      have c4 : w11.cell? ⟨w.heap.size, 4, none⟩ = some (.slice (some ⟨bb, oo, none⟩) n cl) := kc.cell 4
      have x0 : w11.cell? ⟨wz.heap.size, 0, none⟩ = some (.int .i64 op) := kx.cell 0
      have x1 : w11.cell? ⟨wz.heap.size, 1, none⟩ = some (.int .i64 dst) := kx.cell 1
      have x2 : w11.cell? ⟨wz.heap.size, 2, none⟩ = some (.int .i64 a) := kx.cell 2
      have x3 : w11.cell? ⟨wz.heap.size, 3, none⟩ = some (.int .i64 b) := kx.cell 3
      go_upto_region 12 with fail
      refine wp_region_s (fun qk => (plR12 N ns op dst a b Ai Ak (some ⟨bb, oo, none⟩) n1 n2 n ci ck cl k m en w wz).getD qk .any) (by kernel_rfl) ?_ ?_
      · refine BOk.cons rfl [] [4] rfl rfl (by kernel_rfl) (by kernel_rfl) (fun qK qa wr hB qO qF hK => ?_) ?_
        · have e4 : qa.tmps[4]? = some (.pointer (some ⟨wz.heap.size, 0, none⟩)) := qO.1.trans rfl
          clear qO qF
          go_simp
          exact hK _ _ (Below.refl _ _) rfl
        refine BOk.cons rfl [0] [] rfl rfl (by kernel_rfl) (by kernel_rfl) (fun qK qa wr hB qO qF hK => ?_) ?_
        · have e66 : qa.tmps[66]? = some (.pointer (some ⟨wz.heap.size, 2, none⟩)) := fis qF.1 rfl rfl
          clear qO qF
          have hx2 := (bcell hB _ _ (World.block_lt_of_cell? _ _ x2)).trans x2
          go_simp
          exact hK _ _ (Below.refl _ _) rfl
        refine BOk.cons rfl [1] [] rfl rfl (by kernel_rfl) (by kernel_rfl) (fun qK qa wr hB qO qF hK => ?_) ?_
        · have e67 : qa.tmps[67]? = some (.int .i64 a) := fis qF.1 rfl rfl
          clear qO qF
          go_simp
          refine hK _ _ (Below.refl _ _) ?_
          show (_ : Value) = _
          first | rfl | (simp; done) | (simp; omega) | (congr 1; simp; done) | (congr 1; rw [decide_eq_decide]; omega) | exact congrArg Value.bool (nat_bne _ _) | exact congrArg Value.bool (nat_beq _ _)
        refine BOk.cons rfl [2] [] rfl rfl (by kernel_rfl) (by kernel_rfl) (fun qK qa wr hB qO qF hK => ?_) ?_
        · have e68 : qa.tmps[68]? = some (.bool (decide (a < 0))) := fis qF.1 rfl rfl
          clear qO qF
          go_simp
          exact hK _ _ (Below.refl _ _) (by first | rfl | (show (_ : Value) = _; simp_all; done))
        exact BOk.nil
      intro vals wr hl hB hR
      match vals, hl with
      | [z12_66, z12_67, z12_68, z12_39], _ =>
      have r3 : z12_39 = .bool (decide (a < 0)) := hR 3 _ rfl
      subst r3
      clear hR
      simp only [List.cons_append, List.nil_append, putAll, Act.put, List.setIfInBounds_toArray, List.set_cons_zero, List.set_cons_succ]
      rename World => w12
      replace hbe := hbe.trans (hB.mono hbe.size)
      replace kc := kc.old hB
      replace kx := kx.old hB
      clear hB c0 c1 c2 c3 c4 x0 x1 x2 x3
      by_cases h12 : (decide (a < 0)) = true
      · as_aux_lemma =>
        rw [h12]
        clear kx kc
        go_wp2_with fail
        go_ret
        exact ⟨false, rfl, fun h => (by cases h), hbe⟩
      have g12 : (decide (a < 0)) = false := by simpa using h12
      rw [g12]
      have G12 := Lib.hid g12
      clear g12 h12
      have c0 : w12.cell? ⟨w.heap.size, 0, none⟩ = some (.int .i64 (N : Nat)) := kc.cell 0
      have c1 : w12.cell? ⟨w.heap.size, 1, none⟩ = some (.int .i64 ns) := kc.cell 1
      have c2 : w12.cell? ⟨w.heap.size, 2, none⟩ = some (.slice Ai n1 ci) := kc.cell 2
      have c3 : w12.cell? ⟨w.heap.size, 3, none⟩ = some (.slice Ak n2 ck) := kc.cell 3
      have c4 : w12.cell? ⟨w.heap.size, 4, none⟩ = some (.slice (some ⟨bb, oo, none⟩) n cl) := kc.cell 4
      have x0 : w12.cell? ⟨wz.heap.size, 0, none⟩ = some (.int .i64 op) := kx.cell 0
      have x1 : w12.cell? ⟨wz.heap.size, 1, none⟩ = some (.int .i64 dst) := kx.cell 1
      have x2 : w12.cell? ⟨wz.heap.size, 2, none⟩ = some (.int .i64 a) := kx.cell 2
      have x3 : w12.cell? ⟨wz.heap.size, 3, none⟩ = some (.int .i64 b) := kx.cell 3
      go_upto_region 13 with fail
      refine wp_region_s (fun qk => (plR13 N ns op dst a b Ai Ak (some ⟨bb, oo, none⟩) n1 n2 n ci ck cl k m en w wz).getD qk .any) (by kernel_rfl) ?_ ?_
      · refine BOk.cons rfl [] [4] rfl rfl (by kernel_rfl) (by kernel_rfl) (fun qK qa wr hB qO qF hK => ?_) ?_
        · have e4 : qa.tmps[4]? = some (.pointer (some ⟨wz.heap.size, 0, none⟩)) := qO.1.trans rfl
          clear qO qF
          go_simp
          exact hK _ _ (Below.refl _ _) rfl
        refine BOk.cons rfl [0] [] rfl rfl (by kernel_rfl) (by kernel_rfl) (fun qK qa wr hB qO qF hK => ?_) ?_
        · have e69 : qa.tmps[69]? = some (.pointer (some ⟨wz.heap.size, 3, none⟩)) := fis qF.1 rfl rfl
          clear qO qF
          have hx3 := (bcell hB _ _ (World.block_lt_of_cell? _ _ x3)).trans x3
          go_simp
          exact hK _ _ (Below.refl _ _) rfl
        refine BOk.cons rfl [1] [] rfl rfl (by kernel_rfl) (by kernel_rfl) (fun qK qa wr hB qO qF hK => ?_) ?_
        · have e70 : qa.tmps[70]? = some (.int .i64 b) := fis qF.1 rfl rfl
          clear qO qF
          go_simp
          refine hK _ _ (Below.refl _ _) ?_
          show (_ : Value) = _
          first | rfl | (simp; done) | (simp; omega) | (congr 1; simp; done) | (congr 1; rw [decide_eq_decide]; omega) | exact congrArg Value.bool (nat_bne _ _) | exact congrArg Value.bool (nat_beq _ _)
        refine BOk.cons rfl [2] [] rfl rfl (by kernel_rfl) (by kernel_rfl) (fun qK qa wr hB qO qF hK => ?_) ?_
        · have e71 : qa.tmps[71]? = some (.bool (decide (b < 0))) := fis qF.1 rfl rfl
          clear qO qF
          go_simp
          exact hK _ _ (Below.refl _ _) (by first | rfl | (show (_ : Value) = _; simp_all; done))
        exact BOk.nil
      intro vals wr hl hB hR
      match vals, hl with
      | [z13_69, z13_70, z13_71, z13_39], _ =>
      have r3 : z13_39 = .bool (decide (b < 0)) := hR 3 _ rfl
      subst r3
      clear hR
      simp only [List.cons_append, List.nil_append, putAll, Act.put, List.setIfInBounds_toArray, List.set_cons_zero, List.set_cons_succ]
      rename World => w13
      replace hbe := hbe.trans (hB.mono hbe.size)
      replace kc := kc.old hB
      replace kx := kx.old hB
      clear hB c0 c1 c2 c3 c4 x0 x1 x2 x3
      by_cases h13 : (decide (b < 0)) = true
      · as_aux_lemma =>
        rw [h13]
        clear kx kc
        go_wp2_with fail
        go_ret
        exact ⟨false, rfl, fun h => (by cases h), hbe⟩
      have g13 : (decide (b < 0)) = false := by simpa using h13
      rw [g13]
      have G13 := Lib.hid g13
      clear g13 h13
      have c0 : w13.cell? ⟨w.heap.size, 0, none⟩ = some (.int .i64 (N : Nat)) := kc.cell 0
      have c1 : w13.cell? ⟨w.heap.size, 1, none⟩ = some (.int .i64 ns) := kc.cell 1
      have c2 : w13.cell? ⟨w.heap.size, 2, none⟩ = some (.slice Ai n1 ci) := kc.cell 2
      have c3 : w13.cell? ⟨w.heap.size, 3, none⟩ = some (.slice Ak n2 ck) := kc.cell 3
      have c4 : w13.cell? ⟨w.heap.size, 4, none⟩ = some (.slice (some ⟨bb, oo, none⟩) n cl) := kc.cell 4
      have x0 : w13.cell? ⟨wz.heap.size, 0, none⟩ = some (.int .i64 op) := kx.cell 0
      have x1 : w13.cell? ⟨wz.heap.size, 1, none⟩ = some (.int .i64 dst) := kx.cell 1
      have x2 : w13.cell? ⟨wz.heap.size, 2, none⟩ = some (.int .i64 a) := kx.cell 2
      have x3 : w13.cell? ⟨wz.heap.size, 3, none⟩ = some (.int .i64 b) := kx.cell 3
      go_upto_region 15 with fail
      refine wp_region_s (fun qk => (plR15 N ns op dst a b Ai Ak (some ⟨bb, oo, none⟩) n1 n2 n ci ck cl k m en w wz).getD qk .any) (by kernel_rfl) ?_ ?_
      · refine BOk.cons rfl [] [5] rfl rfl (by kernel_rfl) (by kernel_rfl) (fun qK qa wr hB qO qF hK => ?_) ?_
        · have e5 : qa.tmps[5]? = some (.int .i64 (m : Nat)) := qO.1.trans rfl
          clear qO qF
          go_simp
          exact hK _ _ (Below.refl _ _) rfl
        refine BOk.cons rfl [0] [] rfl rfl (by kernel_rfl) (by kernel_rfl) (fun qK qa wr hB qO qF hK => ?_) ?_
        · have e73 : qa.tmps[73]? = some (.int .i64 (m : Nat)) := fis qF.1 rfl rfl
          clear qO qF
          go_simp
          refine hK _ _ (Below.refl _ _) ?_
          show (_ : Value) = _
          first | rfl | (simp; done) | (simp; omega) | (congr 1; simp; done) | (congr 1; rw [decide_eq_decide]; omega) | exact congrArg Value.bool (nat_bne _ _) | exact congrArg Value.bool (nat_beq _ _)
        refine BOk.cons rfl [1] [] rfl rfl (by kernel_rfl) (by kernel_rfl) (fun qK qa wr hB qO qF hK => ?_) ?_
        · have e74 : qa.tmps[74]? = some (.bool (decide (0 < (m : Nat)))) := fis qF.1 rfl rfl
          clear qO qF
          go_simp
          exact hK _ _ (Below.refl _ _) (by first | rfl | (show (_ : Value) = _; simp_all; done))
        refine BOk.optT rfl [] [4] rfl 2 true rfl rfl rfl rfl (by kernel_rfl) (by kernel_rfl) (by kernel_rfl) (fun hp hc hP qK qa wr hB qO qF hK => ?_) ?_
        · have e4 : qa.tmps[4]? = some (.pointer (some ⟨wz.heap.size, 0, none⟩)) := qO.1.trans rfl
          clear qO qF
          go_simp
          exact hK _ _ (Below.refl _ _) rfl
        refine BOk.optT rfl [3] [] rfl 2 true rfl rfl rfl rfl (by kernel_rfl) (by kernel_rfl) (by kernel_rfl) (fun hp hc hP qK qa wr hB qO qF hK => ?_) ?_
        · have e76 : qa.tmps[76]? = some (.pointer (some ⟨wz.heap.size, 2, none⟩)) := fif qF.1 rfl hP rfl
          clear qO qF
          have hx2 := (bcell hB _ _ (World.block_lt_of_cell? _ _ x2)).trans x2
          go_simp
          exact hK _ _ (Below.refl _ _) rfl
        refine BOk.optT rfl [] [3] rfl 2 true rfl rfl rfl rfl (by kernel_rfl) (by kernel_rfl) (by kernel_rfl) (fun hp hc hP qK qa wr hB qO qF hK => ?_) ?_
        · have e3 : qa.tmps[3]? = some (.int .i64 (k : Nat)) := qO.1.trans rfl
          clear qO qF
          go_simp
          exact hK _ _ (Below.refl _ _) rfl
        refine BOk.optT rfl [4, 5] [] rfl 2 true rfl rfl rfl rfl (by kernel_rfl) (by kernel_rfl) (by kernel_rfl) (fun hp hc hP qK qa wr hB qO qF hK => ?_) ?_
        · have e77 : qa.tmps[77]? = some (.int .i64 a) := fif qF.1 rfl hP rfl
          have e78 : qa.tmps[78]? = some (.int .i64 (k : Nat)) := fif qF.2.1 rfl hP rfl
          clear qO qF
          go_simp
          refine hK _ _ (Below.refl _ _) ?_
          show (_ : Value) = _
          first | rfl | (simp; done) | (simp; omega) | (congr 1; simp; done) | (congr 1; rw [decide_eq_decide]; omega) | exact congrArg Value.bool (nat_bne _ _) | exact congrArg Value.bool (nat_beq _ _)
        refine BOk.optT rfl [6] [] rfl 2 true rfl rfl rfl rfl (by kernel_rfl) (by kernel_rfl) (by kernel_rfl) (fun hp hc hP qK qa wr hB qO qF hK => ?_) ?_
        · have e79 : qa.tmps[79]? = some (.bool (decide ((k : Nat) ≤ a))) := fif qF.1 rfl hP rfl
          clear qO qF
          go_simp
          exact hK _ _ (Below.refl _ _) (by first | rfl | (show (_ : Value) = _; simp_all; done))
        refine BOk.optX rfl [] [4] rfl 7 false rfl rfl rfl rfl (by kernel_rfl) (by kernel_rfl) (by kernel_rfl) (fun hp hc hP qK qa wr hB qO qF hK => ?_) ?_
        · have e4 : qa.tmps[4]? = some (.pointer (some ⟨wz.heap.size, 0, none⟩)) := qO.1.trans rfl
          clear qO qF
          go_simp
          exact hK _ _ (Below.refl _ _) rfl
        refine BOk.optX rfl [8] [] rfl 7 false rfl rfl rfl rfl (by kernel_rfl) (by kernel_rfl) (by kernel_rfl) (fun hp hc hP qK qa wr hB qO qF hK => ?_) ?_
        · have e81 : qa.tmps[81]? = some (.pointer (some ⟨wz.heap.size, 3, none⟩)) := fif qF.1 rfl hP rfl
          clear qO qF
          have hx3 := (bcell hB _ _ (World.block_lt_of_cell? _ _ x3)).trans x3
          go_simp
          exact hK _ _ (Below.refl _ _) rfl
        refine BOk.optX rfl [] [3] rfl 7 false rfl rfl rfl rfl (by kernel_rfl) (by kernel_rfl) (by kernel_rfl) (fun hp hc hP qK qa wr hB qO qF hK => ?_) ?_
        · have e3 : qa.tmps[3]? = some (.int .i64 (k : Nat)) := qO.1.trans rfl
          clear qO qF
          go_simp
          exact hK _ _ (Below.refl _ _) rfl
        refine BOk.optX rfl [9, 10] [] rfl 7 false rfl rfl rfl rfl (by kernel_rfl) (by kernel_rfl) (by kernel_rfl) (fun hp hc hP qK qa wr hB qO qF hK => ?_) ?_
        · have e82 : qa.tmps[82]? = some (.int .i64 b) := fif qF.1 rfl hP rfl
          have e83 : qa.tmps[83]? = some (.int .i64 (k : Nat)) := fif qF.2.1 rfl hP rfl
          clear qO qF
          go_simp
          refine hK _ _ (Below.refl _ _) ?_
          show (_ : Value) = _
          first | rfl | (simp; done) | (simp; omega) | (congr 1; simp; done) | (congr 1; rw [decide_eq_decide]; omega) | exact congrArg Value.bool (nat_bne _ _) | exact congrArg Value.bool (nat_beq _ _)
        refine BOk.optT rfl [7, 11] [] rfl 2 true rfl rfl rfl rfl (by kernel_rfl) (by kernel_rfl) (by kernel_rfl) (fun hp hc hP qK qa wr hB qO qF hK => ?_) ?_
        · have e80 : qa.tmps[80]? = some (.bool (decide ((k : Nat) ≤ a))) := fif qF.1 rfl hP rfl
          obtain ⟨u84, e84, r11⟩ := qF.2.1
          have r11 : u84 = (bif ((true && ((decide (0 < (m : Nat))) == true)) && ((decide ((k : Nat) ≤ a)) == false)) then .bool (decide ((k : Nat) ≤ b)) else undef) := r11
          clear qO qF
          rcases (Bool.eq_false_or_eq_true ((decide ((k : Nat) ≤ a)))).symm with hcc | hcc
          · rw [hcc] at e80
            have e84 : qa.tmps[84]? = some (.bool ((decide ((k : Nat) ≤ b)))) := (show u84 = .bool ((decide ((k : Nat) ≤ b))) from r11.trans (by (first | rw [hcc] | skip); first | rfl | (rw [hP]; rfl))) ▸ e84
            go_simp
            exact hK _ _ (Below.refl _ _) (by show (_ : Value) = _; first | (rw [hcc]; first | rfl | (simp; done)) | (simp_all; done))
          · rw [hcc] at e80
            go_simp
            exact hK _ _ (Below.refl _ _) (by show (_ : Value) = _; first | (rw [hcc]; first | rfl | (simp; done)) | (simp_all; done))
        refine BOk.cons rfl [2, 12] [] rfl rfl (by kernel_rfl) (by kernel_rfl) (fun qK qa wr hB qO qF hK => ?_) ?_
        · have e75 : qa.tmps[75]? = some (.bool (decide (0 < (m : Nat)))) := fis qF.1 rfl rfl
          obtain ⟨u85, e85, r12⟩ := qF.2.1
          have r12 : u85 = (bif (true && ((decide (0 < (m : Nat))) == true)) then .bool ((decide ((k : Nat) ≤ a)) || (decide ((k : Nat) ≤ b))) else undef) := r12
          clear qO qF
          rcases (Bool.eq_false_or_eq_true ((decide (0 < (m : Nat))))).symm with hcc | hcc
          · rw [hcc] at e75
            go_simp
            exact hK _ _ (Below.refl _ _) (by show (_ : Value) = _; first | (rw [hcc]; first | rfl | (simp; done)) | (simp_all; done))
          · rw [hcc] at e75
            have e85 : qa.tmps[85]? = some (.bool (((decide ((k : Nat) ≤ a)) || (decide ((k : Nat) ≤ b))))) := (show u85 = .bool (((decide ((k : Nat) ≤ a)) || (decide ((k : Nat) ≤ b)))) from r12.trans (by (first | rw [hcc] | skip); first | rfl | (rw [hP]; rfl))) ▸ e85
            go_simp
            exact hK _ _ (Below.refl _ _) (by show (_ : Value) = _; first | (rw [hcc]; first | rfl | (simp; done)) | (simp_all; done))
        refine BOk.cons rfl [13] [] rfl rfl (by kernel_rfl) (by kernel_rfl) (fun qK qa wr hB qO qF hK => ?_) ?_
        · have e86 : qa.tmps[86]? = some (.bool ((decide (0 < (m : Nat))) && ((decide ((k : Nat) ≤ a)) || (decide ((k : Nat) ≤ b))))) := fis qF.1 rfl rfl
          clear qO qF
          go_simp
          exact hK _ _ (Below.refl _ _) (by first | rfl | (show (_ : Value) = _; simp_all; done))
        exact BOk.nil
      intro vals wr hl hB hR
      match vals, hl with
      | [z15_73, z15_74, z15_75, z15_76, z15_77, z15_78, z15_79, z15_80, z15_81, z15_82, z15_83, z15_84, z15_85, z15_86, z15_72], _ =>
      have r14 : z15_72 = .bool ((decide (0 < (m : Nat))) && ((decide ((k : Nat) ≤ a)) || (decide ((k : Nat) ≤ b)))) := hR 14 _ rfl
      subst r14
      clear hR
      simp only [List.cons_append, List.nil_append, putAll, Act.put, List.setIfInBounds_toArray, List.set_cons_zero, List.set_cons_succ]
      rename World => w15
      replace hbe := hbe.trans (hB.mono hbe.size)
      replace kc := kc.old hB
      replace kx := kx.old hB
      clear hB c0 c1 c2 c3 c4 x0 x1 x2 x3
      by_cases h15 : ((decide (0 < (m : Nat))) && ((decide ((k : Nat) ≤ a)) || (decide ((k : Nat) ≤ b)))) = true
      · as_aux_lemma =>
        rw [h15]
        clear kx kc
        go_wp2_with fail
        go_ret
        exact ⟨false, rfl, fun h => (by cases h), hbe⟩
      have g15 : ((decide (0 < (m : Nat))) && ((decide ((k : Nat) ≤ a)) || (decide ((k : Nat) ≤ b)))) = false := by simpa using h15
      rw [g15]
      have G15 := Lib.hid g15
      clear g15 h15
      have c0 : w15.cell? ⟨w.heap.size, 0, none⟩ = some (.int .i64 (N : Nat)) := kc.cell 0
      have c1 : w15.cell? ⟨w.heap.size, 1, none⟩ = some (.int .i64 ns) := kc.cell 1
      have c2 : w15.cell? ⟨w.heap.size, 2, none⟩ = some (.slice Ai n1 ci) := kc.cell 2
      have c3 : w15.cell? ⟨w.heap.size, 3, none⟩ = some (.slice Ak n2 ck) := kc.cell 3
      have c4 : w15.cell? ⟨w.heap.size, 4, none⟩ = some (.slice (some ⟨bb, oo, none⟩) n cl) := kc.cell 4
      have x0 : w15.cell? ⟨wz.heap.size, 0, none⟩ = some (.int .i64 op) := kx.cell 0
      have x1 : w15.cell? ⟨wz.heap.size, 1, none⟩ = some (.int .i64 dst) := kx.cell 1
      have x2 : w15.cell? ⟨wz.heap.size, 2, none⟩ = some (.int .i64 a) := kx.cell 2
      have x3 : w15.cell? ⟨wz.heap.size, 3, none⟩ = some (.int .i64 b) := kx.cell 3
      go_upto_region 16 with fail
      refine wp_region_s (fun qk => (plR16 N ns op dst a b Ai Ak (some ⟨bb, oo, none⟩) n1 n2 n ci ck cl k m en w wz).getD qk .any) (by kernel_rfl) ?_ ?_
      · refine BOk.cons rfl [] [6] rfl rfl (by kernel_rfl) (by kernel_rfl) (fun qK qa wr hB qO qF hK => ?_) ?_
        · have e6 : qa.tmps[6]? = some (.bool en) := qO.1.trans rfl
          clear qO qF
          go_simp
          exact hK _ _ (Below.refl _ _) (by first | rfl | (show (_ : Value) = _; simp_all; done))
        refine BOk.cons rfl [0] [] rfl rfl (by kernel_rfl) (by kernel_rfl) (fun qK qa wr hB qO qF hK => ?_) ?_
        · have e87 : qa.tmps[87]? = some (.bool en) := fis qF.1 rfl rfl
          clear qO qF
          go_simp
          exact hK _ _ (Below.refl _ _) (by first | rfl | (show (_ : Value) = _; simp_all; done))
        refine BOk.optT rfl [] [4] rfl 1 true rfl rfl rfl rfl (by kernel_rfl) (by kernel_rfl) (by kernel_rfl) (fun hp hc hP qK qa wr hB qO qF hK => ?_) ?_
        · have e4 : qa.tmps[4]? = some (.pointer (some ⟨wz.heap.size, 0, none⟩)) := qO.1.trans rfl
          clear qO qF
          go_simp
          exact hK _ _ (Below.refl _ _) rfl
        refine BOk.optT rfl [2] [] rfl 1 true rfl rfl rfl rfl (by kernel_rfl) (by kernel_rfl) (by kernel_rfl) (fun hp hc hP qK qa wr hB qO qF hK => ?_) ?_
        · have e89 : qa.tmps[89]? = some (.pointer (some ⟨wz.heap.size, 2, none⟩)) := fif qF.1 rfl hP rfl
          clear qO qF
          have hx2 := (bcell hB _ _ (World.block_lt_of_cell? _ _ x2)).trans x2
          go_simp
          exact hK _ _ (Below.refl _ _) rfl
        refine BOk.optT rfl [] [3] rfl 1 true rfl rfl rfl rfl (by kernel_rfl) (by kernel_rfl) (by kernel_rfl) (fun hp hc hP qK qa wr hB qO qF hK => ?_) ?_
        · have e3 : qa.tmps[3]? = some (.int .i64 (k : Nat)) := qO.1.trans rfl
          clear qO qF
          go_simp
          exact hK _ _ (Below.refl _ _) rfl
        refine BOk.optT rfl [3, 4] [] rfl 1 true rfl rfl rfl rfl (by kernel_rfl) (by kernel_rfl) (by kernel_rfl) (fun hp hc hP qK qa wr hB qO qF hK => ?_) ?_
        · have e90 : qa.tmps[90]? = some (.int .i64 a) := fif qF.1 rfl hP rfl
          have e91 : qa.tmps[91]? = some (.int .i64 (k : Nat)) := fif qF.2.1 rfl hP rfl
          clear qO qF
          go_simp
          refine hK _ _ (Below.refl _ _) ?_
          show (_ : Value) = _
          first | rfl | (simp; done) | (simp; omega) | (congr 1; simp; done) | (congr 1; rw [decide_eq_decide]; omega) | exact congrArg Value.bool (nat_bne _ _) | exact congrArg Value.bool (nat_beq _ _)
        refine BOk.cons rfl [1, 5] [] rfl rfl (by kernel_rfl) (by kernel_rfl) (fun qK qa wr hB qO qF hK => ?_) ?_
        · have e88 : qa.tmps[88]? = some (.bool en) := fis qF.1 rfl rfl
          obtain ⟨u92, e92, r5⟩ := qF.2.1
          have r5 : u92 = (bif (true && (en == true)) then .bool (decide ((k : Nat) ≤ a)) else undef) := r5
          clear qO qF
          rcases (Bool.eq_false_or_eq_true (en)).symm with hcc | hcc
          · rw [hcc] at e88
            go_simp
            exact hK _ _ (Below.refl _ _) (by show (_ : Value) = _; first | (rw [hcc]; first | rfl | (simp; done)) | (simp_all; done))
          · rw [hcc] at e88
            have e92 : qa.tmps[92]? = some (.bool ((decide ((k : Nat) ≤ a)))) := (show u92 = .bool ((decide ((k : Nat) ≤ a))) from r5.trans (by (first | rw [hcc] | skip); first | rfl | (rw [hP]; rfl))) ▸ e92
            go_simp
            exact hK _ _ (Below.refl _ _) (by show (_ : Value) = _; first | (rw [hcc]; first | rfl | (simp; done)) | (simp_all; done))
        refine BOk.cons rfl [6] [] rfl rfl (by kernel_rfl) (by kernel_rfl) (fun qK qa wr hB qO qF hK => ?_) ?_
        · have e93 : qa.tmps[93]? = some (.bool (en && (decide ((k : Nat) ≤ a)))) := fis qF.1 rfl rfl
          clear qO qF
          go_simp
          exact hK _ _ (Below.refl _ _) (by first | rfl | (show (_ : Value) = _; simp_all; done))
        exact BOk.nil
      intro vals wr hl hB hR
      match vals, hl with
      | [z16_87, z16_88, z16_89, z16_90, z16_91, z16_92, z16_93, z16_72], _ =>
      have r7 : z16_72 = .bool (en && (decide ((k : Nat) ≤ a))) := hR 7 _ rfl
      subst r7
      clear hR
      simp only [List.cons_append, List.nil_append, putAll, Act.put, List.setIfInBounds_toArray, List.set_cons_zero, List.set_cons_succ]
      rename World => w16
      replace hbe := hbe.trans (hB.mono hbe.size)
      replace kc := kc.old hB
      replace kx := kx.old hB
      clear hB c0 c1 c2 c3 c4 x0 x1 x2 x3
      by_cases h16 : (en && (decide ((k : Nat) ≤ a))) = true
      · as_aux_lemma =>
        rw [h16]
        clear kx kc
        go_wp2_with fail
        go_ret
        exact ⟨false, rfl, fun h => (by cases h), hbe⟩
      have g16 : (en && (decide ((k : Nat) ≤ a))) = false := by simpa using h16
      rw [g16]
      have G16 := Lib.hid g16
      clear g16 h16
      have c0 : w16.cell? ⟨w.heap.size, 0, none⟩ = some (.int .i64 (N : Nat)) := kc.cell 0
      have c1 : w16.cell? ⟨w.heap.size, 1, none⟩ = some (.int .i64 ns) := kc.cell 1
      have c2 : w16.cell? ⟨w.heap.size, 2, none⟩ = some (.slice Ai n1 ci) := kc.cell 2
      have c3 : w16.cell? ⟨w.heap.size, 3, none⟩ = some (.slice Ak n2 ck) := kc.cell 3
      have c4 : w16.cell? ⟨w.heap.size, 4, none⟩ = some (.slice (some ⟨bb, oo, none⟩) n cl) := kc.cell 4
      have x0 : w16.cell? ⟨wz.heap.size, 0, none⟩ = some (.int .i64 op) := kx.cell 0
      have x1 : w16.cell? ⟨wz.heap.size, 1, none⟩ = some (.int .i64 dst) := kx.cell 1
      have x2 : w16.cell? ⟨wz.heap.size, 2, none⟩ = some (.int .i64 a) := kx.cell 2
      have x3 : w16.cell? ⟨wz.heap.size, 3, none⟩ = some (.int .i64 b) := kx.cell 3
      go_upto_region 17 with fail
      refine wp_region_s (fun qk => (plR17 N ns op dst a b Ai Ak (some ⟨bb, oo, none⟩) n1 n2 n ci ck cl k m en w wz).getD qk .any) (by kernel_rfl) ?_ ?_
      · refine BOk.cons rfl [] [4] rfl rfl (by kernel_rfl) (by kernel_rfl) (fun qK qa wr hB qO qF hK => ?_) ?_
        · have e4 : qa.tmps[4]? = some (.pointer (some ⟨wz.heap.size, 0, none⟩)) := qO.1.trans rfl
          clear qO qF
          go_simp
          exact hK _ _ (Below.refl _ _) rfl
        refine BOk.cons rfl [0] [] rfl rfl (by kernel_rfl) (by kernel_rfl) (fun qK qa wr hB qO qF hK => ?_) ?_
        · have e94 : qa.tmps[94]? = some (.pointer (some ⟨wz.heap.size, 0, none⟩)) := fis qF.1 rfl rfl
          clear qO qF
          have hx0 := (bcell hB _ _ (World.block_lt_of_cell? _ _ x0)).trans x0
          go_simp
          exact hK _ _ (Below.refl _ _) rfl
        refine BOk.cons rfl [1] [] rfl rfl (by kernel_rfl) (by kernel_rfl) (fun qK qa wr hB qO qF hK => ?_) ?_
        · have e95 : qa.tmps[95]? = some (.int .i64 op) := fis qF.1 rfl rfl
          clear qO qF
          go_simp
          refine hK _ _ (Below.refl _ _) ?_
          show (_ : Value) = _
          first | rfl | (simp; done) | (simp; omega) | (congr 1; simp; done) | (congr 1; rw [decide_eq_decide]; omega) | exact congrArg Value.bool (nat_bne _ _) | exact congrArg Value.bool (nat_beq _ _)
        refine BOk.cons rfl [2] [] rfl rfl (by kernel_rfl) (by kernel_rfl) (fun qK qa wr hB qO qF hK => ?_) ?_
        · have e96 : qa.tmps[96]? = some (.bool ((op == 50))) := fis qF.1 rfl rfl
          clear qO qF
          go_simp
          exact hK _ _ (Below.refl _ _) (by first | rfl | (show (_ : Value) = _; simp_all; done))
        refine BOk.optT rfl [] [4] rfl 3 true rfl rfl rfl rfl (by kernel_rfl) (by kernel_rfl) (by kernel_rfl) (fun hp hc hP qK qa wr hB qO qF hK => ?_) ?_
        · have e4 : qa.tmps[4]? = some (.pointer (some ⟨wz.heap.size, 0, none⟩)) := qO.1.trans rfl
          clear qO qF
          go_simp
          exact hK _ _ (Below.refl _ _) rfl
        refine BOk.optT rfl [4] [] rfl 3 true rfl rfl rfl rfl (by kernel_rfl) (by kernel_rfl) (by kernel_rfl) (fun hp hc hP qK qa wr hB qO qF hK => ?_) ?_
        · have e98 : qa.tmps[98]? = some (.pointer (some ⟨wz.heap.size, 2, none⟩)) := fif qF.1 rfl hP rfl
          clear qO qF
          have hx2 := (bcell hB _ _ (World.block_lt_of_cell? _ _ x2)).trans x2
          go_simp
          exact hK _ _ (Below.refl _ _) rfl
        refine BOk.optT rfl [] [1] rfl 3 true rfl rfl rfl rfl (by kernel_rfl) (by kernel_rfl) (by kernel_rfl) (fun hp hc hP qK qa wr hB qO qF hK => ?_) ?_
        · have e1 : qa.tmps[1]? = some (.pointer (some ⟨w.heap.size, 0, none⟩)) := qO.1.trans rfl
          clear qO qF
          go_simp
          exact hK _ _ (Below.refl _ _) rfl
        refine BOk.optT rfl [6] [] rfl 3 true rfl rfl rfl rfl (by kernel_rfl) (by kernel_rfl) (by kernel_rfl) (fun hp hc hP qK qa wr hB qO qF hK => ?_) ?_
        · have e100 : qa.tmps[100]? = some (.pointer (some ⟨w.heap.size, 2, none⟩)) := fif qF.1 rfl hP rfl
          clear qO qF
          have hc2 := (bcell hB _ _ (World.block_lt_of_cell? _ _ c2)).trans c2
          go_simp
          exact hK _ _ (Below.refl _ _) rfl
        refine BOk.optT rfl [7] [] rfl 3 true rfl rfl rfl rfl (by kernel_rfl) (by kernel_rfl) (by kernel_rfl) (fun hp hc hP qK qa wr hB qO qF hK => ?_) ?_
        · have e101 : qa.tmps[101]? = some (.slice Ai n1 ci) := fif qF.1 rfl hP rfl
          clear qO qF
          go_simp
          exact hK _ _ (Below.refl _ _) rfl
        refine BOk.optT rfl [5, 8] [] rfl 3 true rfl rfl rfl rfl (by kernel_rfl) (by kernel_rfl) (by kernel_rfl) (fun hp hc hP qK qa wr hB qO qF hK => ?_) ?_
        · have e99 : qa.tmps[99]? = some (.int .i64 a) := fif qF.1 rfl hP rfl
          have e102 : qa.tmps[102]? = some (.int .i64 (n1 : Nat)) := fif qF.2.1 rfl hP rfl
          clear qO qF
          go_simp
          refine hK _ _ (Below.refl _ _) ?_
          show (_ : Value) = _
          first | rfl | (simp; done) | (simp; omega) | (congr 1; simp; done) | (congr 1; rw [decide_eq_decide]; omega) | exact congrArg Value.bool (nat_bne _ _) | exact congrArg Value.bool (nat_beq _ _)
        refine BOk.cons rfl [3, 9] [] rfl rfl (by kernel_rfl) (by kernel_rfl) (fun qK qa wr hB qO qF hK => ?_) ?_
        · have e97 : qa.tmps[97]? = some (.bool ((op == 50))) := fis qF.1 rfl rfl
          obtain ⟨u103, e103, r9⟩ := qF.2.1
          have r9 : u103 = (bif (true && (((op == 50)) == true)) then .bool (decide ((n1 : Nat) ≤ a)) else undef) := r9
          clear qO qF
          rcases (Bool.eq_false_or_eq_true (((op == 50)))).symm with hcc | hcc
          · rw [hcc] at e97
            go_simp
            exact hK _ _ (Below.refl _ _) (by show (_ : Value) = _; first | (rw [hcc]; first | rfl | (simp; done)) | (simp_all; done))
          · rw [hcc] at e97
            have e103 : qa.tmps[103]? = some (.bool ((decide ((n1 : Nat) ≤ a)))) := (show u103 = .bool ((decide ((n1 : Nat) ≤ a))) from r9.trans (by (first | rw [hcc] | skip); first | rfl | (rw [hP]; rfl))) ▸ e103
            go_simp
            exact hK _ _ (Below.refl _ _) (by show (_ : Value) = _; first | (rw [hcc]; first | rfl | (simp; done)) | (simp_all; done))
        refine BOk.cons rfl [10] [] rfl rfl (by kernel_rfl) (by kernel_rfl) (fun qK qa wr hB qO qF hK => ?_) ?_
        · have e104 : qa.tmps[104]? = some (.bool (((op == 50)) && (decide ((n1 : Nat) ≤ a)))) := fis qF.1 rfl rfl
          clear qO qF
          go_simp
          exact hK _ _ (Below.refl _ _) (by first | rfl | (show (_ : Value) = _; simp_all; done))
        exact BOk.nil
      intro vals wr hl hB hR
      match vals, hl with
      | [z17_94, z17_95, z17_96, z17_97, z17_98, z17_99, z17_100, z17_101, z17_102, z17_103, z17_104, z17_72], _ =>
      have r11 : z17_72 = .bool (((op == 50)) && (decide ((n1 : Nat) ≤ a))) := hR 11 _ rfl
      subst r11
      clear hR
      simp only [List.cons_append, List.nil_append, putAll, Act.put, List.setIfInBounds_toArray, List.set_cons_zero, List.set_cons_succ]
      rename World => w17
      replace hbe := hbe.trans (hB.mono hbe.size)
      replace kc := kc.old hB
      replace kx := kx.old hB
      clear hB c0 c1 c2 c3 c4 x0 x1 x2 x3
      by_cases h17 : (((op == 50)) && (decide ((n1 : Nat) ≤ a))) = true
      · as_aux_lemma =>
        rw [h17]
        clear kx kc
        go_wp2_with fail
        go_ret
        exact ⟨false, rfl, fun h => (by cases h), hbe⟩
      have g17 : (((op == 50)) && (decide ((n1 : Nat) ≤ a))) = false := by simpa using h17
      rw [g17]
      have G17 := Lib.hid g17
      clear g17 h17
      have c0 : w17.cell? ⟨w.heap.size, 0, none⟩ = some (.int .i64 (N : Nat)) := kc.cell 0
      have c1 : w17.cell? ⟨w.heap.size, 1, none⟩ = some (.int .i64 ns) := kc.cell 1
      have c2 : w17.cell? ⟨w.heap.size, 2, none⟩ = some (.slice Ai n1 ci) := kc.cell 2
      have c3 : w17.cell? ⟨w.heap.size, 3, none⟩ = some (.slice Ak n2 ck) := kc.cell 3
      have c4 : w17.cell? ⟨w.heap.size, 4, none⟩ = some (.slice (some ⟨bb, oo, none⟩) n cl) := kc.cell 4
      have x0 : w17.cell? ⟨wz.heap.size, 0, none⟩ = some (.int .i64 op) := kx.cell 0
      have x1 : w17.cell? ⟨wz.heap.size, 1, none⟩ = some (.int .i64 dst) := kx.cell 1
      have x2 : w17.cell? ⟨wz.heap.size, 2, none⟩ = some (.int .i64 a) := kx.cell 2
      have x3 : w17.cell? ⟨wz.heap.size, 3, none⟩ = some (.int .i64 b) := kx.cell 3
      go_upto_region 18 with fail
      refine wp_region_s (fun qk => (plR18 N ns op dst a b Ai Ak (some ⟨bb, oo, none⟩) n1 n2 n ci ck cl k m en w wz).getD qk .any) (by kernel_rfl) ?_ ?_
      · refine BOk.cons rfl [] [4] rfl rfl (by kernel_rfl) (by kernel_rfl) (fun qK qa wr hB qO qF hK => ?_) ?_
        · have e4 : qa.tmps[4]? = some (.pointer (some ⟨wz.heap.size, 0, none⟩)) := qO.1.trans rfl
          clear qO qF
          go_simp
          exact hK _ _ (Below.refl _ _) rfl
        refine BOk.cons rfl [0] [] rfl rfl (by kernel_rfl) (by kernel_rfl) (fun qK qa wr hB qO qF hK => ?_) ?_
        · have e105 : qa.tmps[105]? = some (.pointer (some ⟨wz.heap.size, 0, none⟩)) := fis qF.1 rfl rfl
          clear qO qF
          have hx0 := (bcell hB _ _ (World.block_lt_of_cell? _ _ x0)).trans x0
          go_simp
          exact hK _ _ (Below.refl _ _) rfl
        refine BOk.cons rfl [1] [] rfl rfl (by kernel_rfl) (by kernel_rfl) (fun qK qa wr hB qO qF hK => ?_) ?_
        · have e106 : qa.tmps[106]? = some (.int .i64 op) := fis qF.1 rfl rfl
          clear qO qF
          go_simp
          refine hK _ _ (Below.refl _ _) ?_
          show (_ : Value) = _
          first | rfl | (simp; done) | (simp; omega) | (congr 1; simp; done) | (congr 1; rw [decide_eq_decide]; omega) | exact congrArg Value.bool (nat_bne _ _) | exact congrArg Value.bool (nat_beq _ _)
        refine BOk.cons rfl [2] [] rfl rfl (by kernel_rfl) (by kernel_rfl) (fun qK qa wr hB qO qF hK => ?_) ?_
        · have e107 : qa.tmps[107]? = some (.bool ((op == 51))) := fis qF.1 rfl rfl
          clear qO qF
          go_simp
          exact hK _ _ (Below.refl _ _) (by first | rfl | (show (_ : Value) = _; simp_all; done))
        refine BOk.optT rfl [] [4] rfl 3 true rfl rfl rfl rfl (by kernel_rfl) (by kernel_rfl) (by kernel_rfl) (fun hp hc hP qK qa wr hB qO qF hK => ?_) ?_
        · have e4 : qa.tmps[4]? = some (.pointer (some ⟨wz.heap.size, 0, none⟩)) := qO.1.trans rfl
          clear qO qF
          go_simp
          exact hK _ _ (Below.refl _ _) rfl
        refine BOk.optT rfl [4] [] rfl 3 true rfl rfl rfl rfl (by kernel_rfl) (by kernel_rfl) (by kernel_rfl) (fun hp hc hP qK qa wr hB qO qF hK => ?_) ?_
        · have e109 : qa.tmps[109]? = some (.pointer (some ⟨wz.heap.size, 2, none⟩)) := fif qF.1 rfl hP rfl
          clear qO qF
          have hx2 := (bcell hB _ _ (World.block_lt_of_cell? _ _ x2)).trans x2
          go_simp
          exact hK _ _ (Below.refl _ _) rfl
        refine BOk.optT rfl [] [1] rfl 3 true rfl rfl rfl rfl (by kernel_rfl) (by kernel_rfl) (by kernel_rfl) (fun hp hc hP qK qa wr hB qO qF hK => ?_) ?_
        · have e1 : qa.tmps[1]? = some (.pointer (some ⟨w.heap.size, 0, none⟩)) := qO.1.trans rfl
          clear qO qF
          go_simp
          exact hK _ _ (Below.refl _ _) rfl
        refine BOk.optT rfl [6] [] rfl 3 true rfl rfl rfl rfl (by kernel_rfl) (by kernel_rfl) (by kernel_rfl) (fun hp hc hP qK qa wr hB qO qF hK => ?_) ?_
        · have e111 : qa.tmps[111]? = some (.pointer (some ⟨w.heap.size, 3, none⟩)) := fif qF.1 rfl hP rfl
          clear qO qF
          have hc3 := (bcell hB _ _ (World.block_lt_of_cell? _ _ c3)).trans c3
          go_simp
          exact hK _ _ (Below.refl _ _) rfl
        refine BOk.optT rfl [7] [] rfl 3 true rfl rfl rfl rfl (by kernel_rfl) (by kernel_rfl) (by kernel_rfl) (fun hp hc hP qK qa wr hB qO qF hK => ?_) ?_
        · have e112 : qa.tmps[112]? = some (.slice Ak n2 ck) := fif qF.1 rfl hP rfl
          clear qO qF
          go_simp
          exact hK _ _ (Below.refl _ _) rfl
        refine BOk.optT rfl [5, 8] [] rfl 3 true rfl rfl rfl rfl (by kernel_rfl) (by kernel_rfl) (by kernel_rfl) (fun hp hc hP qK qa wr hB qO qF hK => ?_) ?_
        · have e110 : qa.tmps[110]? = some (.int .i64 a) := fif qF.1 rfl hP rfl
          have e113 : qa.tmps[113]? = some (.int .i64 (n2 : Nat)) := fif qF.2.1 rfl hP rfl
          clear qO qF
          go_simp
          refine hK _ _ (Below.refl _ _) ?_
          show (_ : Value) = _
          first | rfl | (simp; done) | (simp; omega) | (congr 1; simp; done) | (congr 1; rw [decide_eq_decide]; omega) | exact congrArg Value.bool (nat_bne _ _) | exact congrArg Value.bool (nat_beq _ _)
        refine BOk.cons rfl [3, 9] [] rfl rfl (by kernel_rfl) (by kernel_rfl) (fun qK qa wr hB qO qF hK => ?_) ?_
        · have e108 : qa.tmps[108]? = some (.bool ((op == 51))) := fis qF.1 rfl rfl
          obtain ⟨u114, e114, r9⟩ := qF.2.1
          have r9 : u114 = (bif (true && (((op == 51)) == true)) then .bool (decide ((n2 : Nat) ≤ a)) else undef) := r9
          clear qO qF
          rcases (Bool.eq_false_or_eq_true (((op == 51)))).symm with hcc | hcc
          · rw [hcc] at e108
            go_simp
            exact hK _ _ (Below.refl _ _) (by show (_ : Value) = _; first | (rw [hcc]; first | rfl | (simp; done)) | (simp_all; done))
          · rw [hcc] at e108
            have e114 : qa.tmps[114]? = some (.bool ((decide ((n2 : Nat) ≤ a)))) := (show u114 = .bool ((decide ((n2 : Nat) ≤ a))) from r9.trans (by (first | rw [hcc] | skip); first | rfl | (rw [hP]; rfl))) ▸ e114
            go_simp
            exact hK _ _ (Below.refl _ _) (by show (_ : Value) = _; first | (rw [hcc]; first | rfl | (simp; done)) | (simp_all; done))
        refine BOk.cons rfl [10] [] rfl rfl (by kernel_rfl) (by kernel_rfl) (fun qK qa wr hB qO qF hK => ?_) ?_
        · have e115 : qa.tmps[115]? = some (.bool (((op == 51)) && (decide ((n2 : Nat) ≤ a)))) := fis qF.1 rfl rfl
          clear qO qF
          go_simp
          exact hK _ _ (Below.refl _ _) (by first | rfl | (show (_ : Value) = _; simp_all; done))
        exact BOk.nil
      intro vals wr hl hB hR
      match vals, hl with
      | [z18_105, z18_106, z18_107, z18_108, z18_109, z18_110, z18_111, z18_112, z18_113, z18_114, z18_115, z18_72], _ =>
      have r11 : z18_72 = .bool (((op == 51)) && (decide ((n2 : Nat) ≤ a))) := hR 11 _ rfl
      subst r11
      clear hR
      simp only [List.cons_append, List.nil_append, putAll, Act.put, List.setIfInBounds_toArray, List.set_cons_zero, List.set_cons_succ]
      rename World => w18
      replace hbe := hbe.trans (hB.mono hbe.size)
      replace kc := kc.old hB
      replace kx := kx.old hB
      clear hB c0 c1 c2 c3 c4 x0 x1 x2 x3
      by_cases h18 : (((op == 51)) && (decide ((n2 : Nat) ≤ a))) = true
      · as_aux_lemma =>
        rw [h18]
        clear kx kc
        go_wp2_with fail
        go_ret
        exact ⟨false, rfl, fun h => (by cases h), hbe⟩
      have g18 : (((op == 51)) && (decide ((n2 : Nat) ≤ a))) = false := by simpa using h18
      rw [g18]
      have G18 := Lib.hid g18
      clear g18 h18
      have c0 : w18.cell? ⟨w.heap.size, 0, none⟩ = some (.int .i64 (N : Nat)) := kc.cell 0
      have c1 : w18.cell? ⟨w.heap.size, 1, none⟩ = some (.int .i64 ns) := kc.cell 1
      have c2 : w18.cell? ⟨w.heap.size, 2, none⟩ = some (.slice Ai n1 ci) := kc.cell 2
      have c3 : w18.cell? ⟨w.heap.size, 3, none⟩ = some (.slice Ak n2 ck) := kc.cell 3
      have c4 : w18.cell? ⟨w.heap.size, 4, none⟩ = some (.slice (some ⟨bb, oo, none⟩) n cl) := kc.cell 4
      have x0 : w18.cell? ⟨wz.heap.size, 0, none⟩ = some (.int .i64 op) := kx.cell 0
      have x1 : w18.cell? ⟨wz.heap.size, 1, none⟩ = some (.int .i64 dst) := kx.cell 1
      have x2 : w18.cell? ⟨wz.heap.size, 2, none⟩ = some (.int .i64 a) := kx.cell 2
      have x3 : w18.cell? ⟨wz.heap.size, 3, none⟩ = some (.int .i64 b) := kx.cell 3
      go_upto_region 20 with fail
      refine wp_region_s (fun qk => (plR20 N ns op dst a b Ai Ak (some ⟨bb, oo, none⟩) n1 n2 n ci ck cl k m en w wz).getD qk .any) (by kernel_rfl) ?_ ?_
      · refine BOk.cons rfl [] [5] rfl rfl (by kernel_rfl) (by kernel_rfl) (fun qK qa wr hB qO qF hK => ?_) ?_
        · have e5 : qa.tmps[5]? = some (.int .i64 (m : Nat)) := qO.1.trans rfl
          clear qO qF
          go_simp
          exact hK _ _ (Below.refl _ _) rfl
        refine BOk.cons rfl [0] [] rfl rfl (by kernel_rfl) (by kernel_rfl) (fun qK qa wr hB qO qF hK => ?_) ?_
        · have e117 : qa.tmps[117]? = some (.int .i64 (m : Nat)) := fis qF.1 rfl rfl
          clear qO qF
          go_simp
          refine hK _ _ (Below.refl _ _) ?_
          show (_ : Value) = _
          first | rfl | (simp; done) | (simp; omega) | (congr 1; simp; done) | (congr 1; rw [decide_eq_decide]; omega) | exact congrArg Value.bool (nat_bne _ _) | exact congrArg Value.bool (nat_beq _ _)
        refine BOk.cons rfl [1] [] rfl rfl (by kernel_rfl) (by kernel_rfl) (fun qK qa wr hB qO qF hK => ?_) ?_
        · have e118 : qa.tmps[118]? = some (.bool (((m : Nat) == 0))) := fis qF.1 rfl rfl
          clear qO qF
          go_simp
          exact hK _ _ (Below.refl _ _) (by first | rfl | (show (_ : Value) = _; simp_all; done))
        refine BOk.optT rfl [] [4] rfl 2 true rfl rfl rfl rfl (by kernel_rfl) (by kernel_rfl) (by kernel_rfl) (fun hp hc hP qK qa wr hB qO qF hK => ?_) ?_
        · have e4 : qa.tmps[4]? = some (.pointer (some ⟨wz.heap.size, 0, none⟩)) := qO.1.trans rfl
          clear qO qF
          go_simp
          exact hK _ _ (Below.refl _ _) rfl
        refine BOk.optT rfl [3] [] rfl 2 true rfl rfl rfl rfl (by kernel_rfl) (by kernel_rfl) (by kernel_rfl) (fun hp hc hP qK qa wr hB qO qF hK => ?_) ?_
        · have e120 : qa.tmps[120]? = some (.pointer (some ⟨wz.heap.size, 0, none⟩)) := fif qF.1 rfl hP rfl
          clear qO qF
          have hx0 := (bcell hB _ _ (World.block_lt_of_cell? _ _ x0)).trans x0
          go_simp
          exact hK _ _ (Below.refl _ _) rfl
        refine BOk.optT rfl [4] [] rfl 2 true rfl rfl rfl rfl (by kernel_rfl) (by kernel_rfl) (by kernel_rfl) (fun hp hc hP qK qa wr hB qO qF hK => ?_) ?_
        · have e121 : qa.tmps[121]? = some (.int .i64 op) := fif qF.1 rfl hP rfl
          clear qO qF
          go_simp
          refine hK _ _ (Below.refl _ _) ?_
          show (_ : Value) = _
          first | rfl | (simp; done) | (simp; omega) | (congr 1; simp; done) | (congr 1; rw [decide_eq_decide]; omega) | exact congrArg Value.bool (nat_bne _ _) | exact congrArg Value.bool (nat_beq _ _)
        refine BOk.cons rfl [2, 5] [] rfl rfl (by kernel_rfl) (by kernel_rfl) (fun qK qa wr hB qO qF hK => ?_) ?_
        · have e119 : qa.tmps[119]? = some (.bool (((m : Nat) == 0))) := fis qF.1 rfl rfl
          obtain ⟨u122, e122, r5⟩ := qF.2.1
          have r5 : u122 = (bif (true && ((((m : Nat) == 0)) == true)) then .bool ((op != 50)) else undef) := r5
          clear qO qF
          rcases (Bool.eq_false_or_eq_true ((((m : Nat) == 0)))).symm with hcc | hcc
          · rw [hcc] at e119
            go_simp
            exact hK _ _ (Below.refl _ _) (by show (_ : Value) = _; first | (rw [hcc]; first | rfl | (simp; done)) | (simp_all; done))
          · rw [hcc] at e119
            have e122 : qa.tmps[122]? = some (.bool (((op != 50)))) := (show u122 = .bool (((op != 50))) from r5.trans (by (first | rw [hcc] | skip); first | rfl | (rw [hP]; rfl))) ▸ e122
            go_simp
            exact hK _ _ (Below.refl _ _) (by show (_ : Value) = _; first | (rw [hcc]; first | rfl | (simp; done)) | (simp_all; done))
        refine BOk.cons rfl [6] [] rfl rfl (by kernel_rfl) (by kernel_rfl) (fun qK qa wr hB qO qF hK => ?_) ?_
        · have e123 : qa.tmps[123]? = some (.bool ((((m : Nat) == 0)) && ((op != 50)))) := fis qF.1 rfl rfl
          clear qO qF
          go_simp
          exact hK _ _ (Below.refl _ _) (by first | rfl | (show (_ : Value) = _; simp_all; done))
        refine BOk.optT rfl [] [4] rfl 7 true rfl rfl rfl rfl (by kernel_rfl) (by kernel_rfl) (by kernel_rfl) (fun hp hc hP qK qa wr hB qO qF hK => ?_) ?_
        · have e4 : qa.tmps[4]? = some (.pointer (some ⟨wz.heap.size, 0, none⟩)) := qO.1.trans rfl
          clear qO qF
          go_simp
          exact hK _ _ (Below.refl _ _) rfl
        refine BOk.optT rfl [8] [] rfl 7 true rfl rfl rfl rfl (by kernel_rfl) (by kernel_rfl) (by kernel_rfl) (fun hp hc hP qK qa wr hB qO qF hK => ?_) ?_
        · have e125 : qa.tmps[125]? = some (.pointer (some ⟨wz.heap.size, 0, none⟩)) := fif qF.1 rfl hP rfl
          clear qO qF
          have hx0 := (bcell hB _ _ (World.block_lt_of_cell? _ _ x0)).trans x0
          go_simp
          exact hK _ _ (Below.refl _ _) rfl
        refine BOk.optT rfl [9] [] rfl 7 true rfl rfl rfl rfl (by kernel_rfl) (by kernel_rfl) (by kernel_rfl) (fun hp hc hP qK qa wr hB qO qF hK => ?_) ?_
        · have e126 : qa.tmps[126]? = some (.int .i64 op) := fif qF.1 rfl hP rfl
          clear qO qF
          go_simp
          refine hK _ _ (Below.refl _ _) ?_
          show (_ : Value) = _
          first | rfl | (simp; done) | (simp; omega) | (congr 1; simp; done) | (congr 1; rw [decide_eq_decide]; omega) | exact congrArg Value.bool (nat_bne _ _) | exact congrArg Value.bool (nat_beq _ _)
        refine BOk.cons rfl [7, 10] [] rfl rfl (by kernel_rfl) (by kernel_rfl) (fun qK qa wr hB qO qF hK => ?_) ?_
        · have e124 : qa.tmps[124]? = some (.bool ((((m : Nat) == 0)) && ((op != 50)))) := fis qF.1 rfl rfl
          obtain ⟨u127, e127, r10⟩ := qF.2.1
          have r10 : u127 = (bif (true && (((((m : Nat) == 0)) && ((op != 50))) == true)) then .bool ((op != 51)) else undef) := r10
          clear qO qF
          rcases (Bool.eq_false_or_eq_true (((((m : Nat) == 0)) && ((op != 50))))).symm with hcc | hcc
          · rw [hcc] at e124
            go_simp
            exact hK _ _ (Below.refl _ _) (by show (_ : Value) = _; first | (rw [hcc]; first | rfl | (simp; done)) | (simp_all; done))
          · rw [hcc] at e124
            have e127 : qa.tmps[127]? = some (.bool (((op != 51)))) := (show u127 = .bool (((op != 51))) from r10.trans (by (first | rw [hcc] | skip); first | rfl | (rw [hP]; rfl))) ▸ e127
            go_simp
            exact hK _ _ (Below.refl _ _) (by show (_ : Value) = _; first | (rw [hcc]; first | rfl | (simp; done)) | (simp_all; done))
        refine BOk.cons rfl [11] [] rfl rfl (by kernel_rfl) (by kernel_rfl) (fun qK qa wr hB qO qF hK => ?_) ?_
        · have e128 : qa.tmps[128]? = some (.bool (((((m : Nat) == 0)) && ((op != 50))) && ((op != 51)))) := fis qF.1 rfl rfl
          clear qO qF
          go_simp
          exact hK _ _ (Below.refl _ _) (by first | rfl | (show (_ : Value) = _; simp_all; done))
        refine BOk.optT rfl [] [4] rfl 12 true rfl rfl rfl rfl (by kernel_rfl) (by kernel_rfl) (by kernel_rfl) (fun hp hc hP qK qa wr hB qO qF hK => ?_) ?_
        · have e4 : qa.tmps[4]? = some (.pointer (some ⟨wz.heap.size, 0, none⟩)) := qO.1.trans rfl
          clear qO qF
          go_simp
          exact hK _ _ (Below.refl _ _) rfl
        refine BOk.optT rfl [13] [] rfl 12 true rfl rfl rfl rfl (by kernel_rfl) (by kernel_rfl) (by kernel_rfl) (fun hp hc hP qK qa wr hB qO qF hK => ?_) ?_
        · have e130 : qa.tmps[130]? = some (.pointer (some ⟨wz.heap.size, 0, none⟩)) := fif qF.1 rfl hP rfl
          clear qO qF
          have hx0 := (bcell hB _ _ (World.block_lt_of_cell? _ _ x0)).trans x0
          go_simp
          exact hK _ _ (Below.refl _ _) rfl
        refine BOk.optT rfl [14] [] rfl 12 true rfl rfl rfl rfl (by kernel_rfl) (by kernel_rfl) (by kernel_rfl) (fun hp hc hP qK qa wr hB qO qF hK => ?_) ?_
        · have e131 : qa.tmps[131]? = some (.int .i64 op) := fif qF.1 rfl hP rfl
          clear qO qF
          go_simp
          refine hK _ _ (Below.refl _ _) ?_
          show (_ : Value) = _
          first | rfl | (simp; done) | (simp; omega) | (congr 1; simp; done) | (congr 1; rw [decide_eq_decide]; omega) | exact congrArg Value.bool (nat_bne _ _) | exact congrArg Value.bool (nat_beq _ _)
        refine BOk.cons rfl [12, 15] [] rfl rfl (by kernel_rfl) (by kernel_rfl) (fun qK qa wr hB qO qF hK => ?_) ?_
        · have e129 : qa.tmps[129]? = some (.bool (((((m : Nat) == 0)) && ((op != 50))) && ((op != 51)))) := fis qF.1 rfl rfl
          obtain ⟨u132, e132, r15⟩ := qF.2.1
          have r15 : u132 = (bif (true && ((((((m : Nat) == 0)) && ((op != 50))) && ((op != 51))) == true)) then .bool ((op != 52)) else undef) := r15
          clear qO qF
          rcases (Bool.eq_false_or_eq_true ((((((m : Nat) == 0)) && ((op != 50))) && ((op != 51))))).symm with hcc | hcc
          · rw [hcc] at e129
            go_simp
            exact hK _ _ (Below.refl _ _) (by show (_ : Value) = _; first | (rw [hcc]; first | rfl | (simp; done)) | (simp_all; done))
          · rw [hcc] at e129
            have e132 : qa.tmps[132]? = some (.bool (((op != 52)))) := (show u132 = .bool (((op != 52))) from r15.trans (by (first | rw [hcc] | skip); first | rfl | (rw [hP]; rfl))) ▸ e132
            go_simp
            exact hK _ _ (Below.refl _ _) (by show (_ : Value) = _; first | (rw [hcc]; first | rfl | (simp; done)) | (simp_all; done))
        refine BOk.cons rfl [16] [] rfl rfl (by kernel_rfl) (by kernel_rfl) (fun qK qa wr hB qO qF hK => ?_) ?_
        · have e133 : qa.tmps[133]? = some (.bool ((((((m : Nat) == 0)) && ((op != 50))) && ((op != 51))) && ((op != 52)))) := fis qF.1 rfl rfl
          clear qO qF
          go_simp
          exact hK _ _ (Below.refl _ _) (by first | rfl | (show (_ : Value) = _; simp_all; done))
        exact BOk.nil
      intro vals wr hl hB hR
      match vals, hl with
      | [z20_117, z20_118, z20_119, z20_120, z20_121, z20_122, z20_123, z20_124, z20_125, z20_126, z20_127, z20_128, z20_129, z20_130, z20_131, z20_132, z20_133, z20_116], _ =>
      have r17 : z20_116 = .bool ((((((m : Nat) == 0)) && ((op != 50))) && ((op != 51))) && ((op != 52))) := hR 17 _ rfl
      subst r17
      clear hR
      simp only [List.cons_append, List.nil_append, putAll, Act.put, List.setIfInBounds_toArray, List.set_cons_zero, List.set_cons_succ]
      rename World => w20
      replace hbe := hbe.trans (hB.mono hbe.size)
      replace kc := kc.old hB
      replace kx := kx.old hB
      clear hB c0 c1 c2 c3 c4 x0 x1 x2 x3
      by_cases h20 : ((((((m : Nat) == 0)) && ((op != 50))) && ((op != 51))) && ((op != 52))) = true
      · as_aux_lemma =>
        rw [h20]
        clear kx kc
        go_wp2_with fail
        go_ret
        exact ⟨false, rfl, fun h => (by cases h), hbe⟩
      have g20 : ((((((m : Nat) == 0)) && ((op != 50))) && ((op != 51))) && ((op != 52))) = false := by simpa using h20
      rw [g20]
      have G20 := Lib.hid g20
      clear g20 h20
      have c0 : w20.cell? ⟨w.heap.size, 0, none⟩ = some (.int .i64 (N : Nat)) := kc.cell 0
      have c1 : w20.cell? ⟨w.heap.size, 1, none⟩ = some (.int .i64 ns) := kc.cell 1
      have c2 : w20.cell? ⟨w.heap.size, 2, none⟩ = some (.slice Ai n1 ci) := kc.cell 2
      have c3 : w20.cell? ⟨w.heap.size, 3, none⟩ = some (.slice Ak n2 ck) := kc.cell 3
      have c4 : w20.cell? ⟨w.heap.size, 4, none⟩ = some (.slice (some ⟨bb, oo, none⟩) n cl) := kc.cell 4
      have x0 : w20.cell? ⟨wz.heap.size, 0, none⟩ = some (.int .i64 op) := kx.cell 0
      have x1 : w20.cell? ⟨wz.heap.size, 1, none⟩ = some (.int .i64 dst) := kx.cell 1
      have x2 : w20.cell? ⟨wz.heap.size, 2, none⟩ = some (.int .i64 a) := kx.cell 2
      have x3 : w20.cell? ⟨wz.heap.size, 3, none⟩ = some (.int .i64 b) := kx.cell 3
      have HEN := Lib.hid hen
      clear hen c0 c1 c2 c3 c4 x0 x1 x2 x3 kx
      go_wp2_with fail
      go_roundw
      case rel =>
        refine ⟨k + 1, by omega, by go_num, hbe, kc, Lib.hid fun j x hj hx => ?_⟩
        by_cases hjk : j = k
        · rw [hjk, HXK.out] at hx
          injection hx with hx
          rw [← hx, hjk]
          exact plain_of HM.out rfl HEN.out G8.out G9.out G10.out G11.out G12.out G13.out G15.out G16.out G17.out G18.out G20.out
        · exact hall.out j x (by omega) hx
      case measure => simp [intOf]; omega
    · as_aux_lemma =>
      obtain rfl : k = n := by omega
      have hpv : PV := by
        rw [← HPV.out]
        exact ⟨N, HV.out N rfl HF.out hN1 (by rw [HN.out]; exact HNN.out) fun j x hx => hall.out j x (by rw [← HN.out]; exact (List.getElem?_eq_some_iff.1 hx).1) hx⟩
      have HP2 := Lib.hid hpv
      clear hpv HPV HV kc hall HRL
      go_wp2_with fail
      go_ret
      exact ⟨true, rfl, fun _ => HP2.out, hbe⟩
end Go.Proofs.Ytadblgfppnpamaa
