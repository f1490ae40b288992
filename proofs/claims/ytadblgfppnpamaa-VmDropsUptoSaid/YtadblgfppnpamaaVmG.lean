/- Layer 18: which instruction may stand where, by the program. No conditions. -/
import Derived.Test.YtadblgfppnpamaaVmE
import Derived.Test.YtadblgfppnpamaaRegO
import Derived.Deep.DeepCutAuto
namespace Go.Proofs.Ytadblgfppnpamaa
open Go.RowKit
set_option linter.unusedVariables false
set_option linter.unusedSimpArgs false

def rt1 (op dst a b nr ns : Int) (Ai Ak Al : Option Addr) (n1 n2 n3 ci ck cl rm sm kk : Nat) (f g : Int → Bool) (wt : Bool) (w0 : World) : List Spec := [.is (.pointer (some ⟨w0.heap.size, 1, none⟩)),
  .is (.int .i64 dst),
  .is (.bool (decide (0 ≤ dst))),
  .is (.bool (decide (0 ≤ dst))),
  .is (bif (true && ((decide (0 ≤ dst)) == true)) then .pointer (some ⟨w0.heap.size, 1, none⟩) else undef),
  .is (bif (true && ((decide (0 ≤ dst)) == true)) then .int .i64 dst else undef),
  .is (bif (true && ((decide (0 ≤ dst)) == true)) then .pointer (some ⟨kk, 0, none⟩) else undef),
  .is (bif (true && ((decide (0 ≤ dst)) == true)) then .pointer (some ⟨kk, 0, none⟩) else undef),
  .is (bif (true && ((decide (0 ≤ dst)) == true)) then .pointer (some ⟨kk, 0, none⟩) else undef),
  .is (bif (true && ((decide (0 ≤ dst)) == true)) then .pointer (some ⟨kk, 0, none⟩) else undef),
  .is (bif (true && ((decide (0 ≤ dst)) == true)) then .int .i64 nr else undef),
  .is (bif (true && ((decide (0 ≤ dst)) == true)) then .bool (decide (dst < nr)) else undef),
  .is (.bool ((decide (0 ≤ dst)) && (decide (dst < nr)))),
  .is (.bool ((decide (0 ≤ dst)) && (decide (dst < nr))))]
def rt3 (op dst a b nr ns : Int) (Ai Ak Al : Option Addr) (n1 n2 n3 ci ck cl rm sm kk : Nat) (f g : Int → Bool) (wt : Bool) (w0 : World) : List Spec := [.is (.bool wt),
  .is (.bool wt),
  .is (bif (true && (wt == true)) then .pointer (some ⟨w0.heap.size, 3, none⟩) else undef),
  .is (bif (true && (wt == true)) then .int .i64 b else undef),
  .is (bif (true && (wt == true)) then .bool ((b == 0)) else undef),
  .is (.bool (wt && ((b == 0)))),
  .is (.bool (wt && ((b == 0)))),
  .is (bif (true && ((wt && ((b == 0))) == true)) then .pointer (some ⟨w0.heap.size, 2, none⟩) else undef),
  .is (bif (true && ((wt && ((b == 0))) == true)) then .int .i64 a else undef),
  .is (bif (true && ((wt && ((b == 0))) == true)) then .bool (decide (0 ≤ a)) else undef),
  .is (.bool ((wt && ((b == 0))) && (decide (0 ≤ a)))),
  .is (.bool ((wt && ((b == 0))) && (decide (0 ≤ a)))),
  .is (bif (true && (((wt && ((b == 0))) && (decide (0 ≤ a))) == true)) then .pointer (some ⟨w0.heap.size, 2, none⟩) else undef),
  .is (bif (true && (((wt && ((b == 0))) && (decide (0 ≤ a))) == true)) then .int .i64 a else undef),
  .is (bif (true && (((wt && ((b == 0))) && (decide (0 ≤ a))) == true)) then .pointer (some ⟨kk, 0, none⟩) else undef),
  .is (bif (true && (((wt && ((b == 0))) && (decide (0 ≤ a))) == true)) then .pointer (some ⟨kk, 0, none⟩) else undef),
  .is (bif (true && (((wt && ((b == 0))) && (decide (0 ≤ a))) == true)) then .pointer (some ⟨kk, 0, none⟩) else undef),
  .is (bif (true && (((wt && ((b == 0))) && (decide (0 ≤ a))) == true)) then .pointer (some ⟨kk, 2, none⟩) else undef),
  .is (bif (true && (((wt && ((b == 0))) && (decide (0 ≤ a))) == true)) then .slice Ai n1 ci else undef),
  .is (bif (true && (((wt && ((b == 0))) && (decide (0 ≤ a))) == true)) then .int .i64 (n1 : Nat) else undef),
  .is (bif (true && (((wt && ((b == 0))) && (decide (0 ≤ a))) == true)) then .bool (decide (a < (n1 : Nat))) else undef),
  .is (.bool (((wt && ((b == 0))) && (decide (0 ≤ a))) && (decide (a < (n1 : Nat))))),
  .is (.bool (((wt && ((b == 0))) && (decide (0 ≤ a))) && (decide (a < (n1 : Nat)))))]
def rt5 (op dst a b nr ns : Int) (Ai Ak Al : Option Addr) (n1 n2 n3 ci ck cl rm sm kk : Nat) (f g : Int → Bool) (wt : Bool) (w0 : World) : List Spec := [.is (.bool wt),
  .is (.bool wt),
  .is (bif (true && (wt == true)) then .pointer (some ⟨w0.heap.size, 3, none⟩) else undef),
  .is (bif (true && (wt == true)) then .int .i64 b else undef),
  .is (bif (true && (wt == true)) then .bool ((b == 0)) else undef),
  .is (.bool (wt && ((b == 0)))),
  .is (.bool (wt && ((b == 0)))),
  .is (bif (true && ((wt && ((b == 0))) == true)) then .pointer (some ⟨w0.heap.size, 2, none⟩) else undef),
  .is (bif (true && ((wt && ((b == 0))) == true)) then .int .i64 a else undef),
  .is (bif (true && ((wt && ((b == 0))) == true)) then .bool (decide (0 ≤ a)) else undef),
  .is (.bool ((wt && ((b == 0))) && (decide (0 ≤ a)))),
  .is (.bool ((wt && ((b == 0))) && (decide (0 ≤ a)))),
  .is (bif (true && (((wt && ((b == 0))) && (decide (0 ≤ a))) == true)) then .pointer (some ⟨w0.heap.size, 2, none⟩) else undef),
  .is (bif (true && (((wt && ((b == 0))) && (decide (0 ≤ a))) == true)) then .int .i64 a else undef),
  .is (bif (true && (((wt && ((b == 0))) && (decide (0 ≤ a))) == true)) then .pointer (some ⟨kk, 0, none⟩) else undef),
  .is (bif (true && (((wt && ((b == 0))) && (decide (0 ≤ a))) == true)) then .pointer (some ⟨kk, 0, none⟩) else undef),
  .is (bif (true && (((wt && ((b == 0))) && (decide (0 ≤ a))) == true)) then .pointer (some ⟨kk, 0, none⟩) else undef),
  .is (bif (true && (((wt && ((b == 0))) && (decide (0 ≤ a))) == true)) then .pointer (some ⟨kk, 3, none⟩) else undef),
  .is (bif (true && (((wt && ((b == 0))) && (decide (0 ≤ a))) == true)) then .slice Ak n2 ck else undef),
  .is (bif (true && (((wt && ((b == 0))) && (decide (0 ≤ a))) == true)) then .int .i64 (n2 : Nat) else undef),
  .is (bif (true && (((wt && ((b == 0))) && (decide (0 ≤ a))) == true)) then .bool (decide (a < (n2 : Nat))) else undef),
  .is (.bool (((wt && ((b == 0))) && (decide (0 ≤ a))) && (decide (a < (n2 : Nat))))),
  .is (.bool (((wt && ((b == 0))) && (decide (0 ≤ a))) && (decide (a < (n2 : Nat)))))]
def rt7 (op dst a b nr ns : Int) (Ai Ak Al : Option Addr) (n1 n2 n3 ci ck cl rm sm kk : Nat) (f g : Int → Bool) (wt : Bool) (w0 : World) : List Spec := [.is (.pointer (some ⟨w0.heap.size, 1, none⟩)),
  .is (.int .i64 dst),
  .is (.bool ((dst == 0))),
  .is (.bool ((dst == 0))),
  .is (bif (true && (((dst == 0)) == true)) then .pointer (some ⟨w0.heap.size, 2, none⟩) else undef),
  .is (bif (true && (((dst == 0)) == true)) then .int .i64 a else undef),
  .is (bif (true && (((dst == 0)) == true)) then .bool (decide (0 ≤ a)) else undef),
  .is (.bool (((dst == 0)) && (decide (0 ≤ a)))),
  .is (.bool (((dst == 0)) && (decide (0 ≤ a)))),
  .is (bif (true && ((((dst == 0)) && (decide (0 ≤ a))) == true)) then .pointer (some ⟨w0.heap.size, 2, none⟩) else undef),
  .is (bif (true && ((((dst == 0)) && (decide (0 ≤ a))) == true)) then .int .i64 a else undef),
  .is (bif (true && ((((dst == 0)) && (decide (0 ≤ a))) == true)) then .pointer (some ⟨kk, 0, none⟩) else undef),
  .is (bif (true && ((((dst == 0)) && (decide (0 ≤ a))) == true)) then .pointer (some ⟨kk, 0, none⟩) else undef),
  .is (bif (true && ((((dst == 0)) && (decide (0 ≤ a))) == true)) then .pointer (some ⟨kk, 0, none⟩) else undef),
  .is (bif (true && ((((dst == 0)) && (decide (0 ≤ a))) == true)) then .pointer (some ⟨kk, 1, none⟩) else undef),
  .is (bif (true && ((((dst == 0)) && (decide (0 ≤ a))) == true)) then .int .i64 ns else undef),
  .is (bif (true && ((((dst == 0)) && (decide (0 ≤ a))) == true)) then .bool (decide (a < ns)) else undef),
  .is (.bool ((((dst == 0)) && (decide (0 ≤ a))) && (decide (a < ns)))),
  .is (.bool ((((dst == 0)) && (decide (0 ≤ a))) && (decide (a < ns)))),
  .is (bif (true && (((((dst == 0)) && (decide (0 ≤ a))) && (decide (a < ns))) == true)) then .pointer (some ⟨kk, 0, none⟩) else undef),
  .is (bif (true && (((((dst == 0)) && (decide (0 ≤ a))) && (decide (a < ns))) == true)) then .pointer (some ⟨kk, 0, none⟩) else undef),
  .is (bif (true && (((((dst == 0)) && (decide (0 ≤ a))) && (decide (a < ns))) == true)) then .pointer (some ⟨kk, 5, none⟩) else undef),
  .is (bif (true && (((((dst == 0)) && (decide (0 ≤ a))) && (decide (a < ns))) == true)) then .map (some rm) else undef),
  .is (bif (true && (((((dst == 0)) && (decide (0 ≤ a))) && (decide (a < ns))) == true)) then .pointer (some ⟨w0.heap.size, 3, none⟩) else undef),
  .is (bif (true && (((((dst == 0)) && (decide (0 ≤ a))) && (decide (a < ns))) == true)) then .int .i64 b else undef),
  .is (bif (true && (((((dst == 0)) && (decide (0 ≤ a))) && (decide (a < ns))) == true)) then .bool (f b) else undef),
  .is (.bool (((((dst == 0)) && (decide (0 ≤ a))) && (decide (a < ns))) && (f b))),
  .is (.bool (((((dst == 0)) && (decide (0 ≤ a))) && (decide (a < ns))) && (f b)))]
def rt9 (op dst a b nr ns : Int) (Ai Ak Al : Option Addr) (n1 n2 n3 ci ck cl rm sm kk : Nat) (f g : Int → Bool) (wt : Bool) (w0 : World) : List Spec := [.is (.bool wt),
  .is (.bool wt),
  .is (bif (true && (wt == true)) then .pointer (some ⟨w0.heap.size, 3, none⟩) else undef),
  .is (bif (true && (wt == true)) then .int .i64 b else undef),
  .is (bif (true && (wt == true)) then .bool ((b == 0)) else undef),
  .is (.bool (wt && ((b == 0)))),
  .is (.bool (wt && ((b == 0)))),
  .is (bif (true && ((wt && ((b == 0))) == true)) then .pointer (some ⟨kk, 0, none⟩) else undef),
  .is (bif (true && ((wt && ((b == 0))) == true)) then .pointer (some ⟨kk, 0, none⟩) else undef),
  .is (bif (true && ((wt && ((b == 0))) == true)) then .pointer (some ⟨kk, 6, none⟩) else undef),
  .is (bif (true && ((wt && ((b == 0))) == true)) then .map (some sm) else undef),
  .is (bif (true && ((wt && ((b == 0))) == true)) then .pointer (some ⟨w0.heap.size, 2, none⟩) else undef),
  .is (bif (true && ((wt && ((b == 0))) == true)) then .int .i64 a else undef),
  .is (bif (true && ((wt && ((b == 0))) == true)) then .bool (g a) else undef),
  .is (.bool ((wt && ((b == 0))) && (g a))),
  .is (.bool ((wt && ((b == 0))) && (g a)))]
def rt11 (op dst a b nr ns : Int) (Ai Ak Al : Option Addr) (n1 n2 n3 ci ck cl rm sm kk : Nat) (f g : Int → Bool) (wt : Bool) (w0 : World) : List Spec := [.is (.pointer (some ⟨w0.heap.size, 1, none⟩)),
  .is (.int .i64 dst),
  .is (.bool ((dst == 0))),
  .is (.bool ((dst == 0))),
  .is (bif (true && (((dst == 0)) == true)) then .pointer (some ⟨w0.heap.size, 3, none⟩) else undef),
  .is (bif (true && (((dst == 0)) == true)) then .int .i64 b else undef),
  .is (bif (true && (((dst == 0)) == true)) then .bool ((b == 0)) else undef),
  .is (.bool (((dst == 0)) && ((b == 0)))),
  .is (.bool (((dst == 0)) && ((b == 0)))),
  .is (bif (true && ((((dst == 0)) && ((b == 0))) == true)) then .pointer (some ⟨kk, 0, none⟩) else undef),
  .is (bif (true && ((((dst == 0)) && ((b == 0))) == true)) then .pointer (some ⟨kk, 0, none⟩) else undef),
  .is (bif (true && ((((dst == 0)) && ((b == 0))) == true)) then .pointer (some ⟨kk, 5, none⟩) else undef),
  .is (bif (true && ((((dst == 0)) && ((b == 0))) == true)) then .map (some rm) else undef),
  .is (bif (true && ((((dst == 0)) && ((b == 0))) == true)) then .pointer (some ⟨w0.heap.size, 2, none⟩) else undef),
  .is (bif (true && ((((dst == 0)) && ((b == 0))) == true)) then .int .i64 a else undef),
  .is (bif (true && ((((dst == 0)) && ((b == 0))) == true)) then .bool (f a) else undef),
  .is (.bool ((((dst == 0)) && ((b == 0))) && (f a))),
  .is (.bool ((((dst == 0)) && ((b == 0))) && (f a)))]
def rt13 (op dst a b nr ns : Int) (Ai Ak Al : Option Addr) (n1 n2 n3 ci ck cl rm sm kk : Nat) (f g : Int → Bool) (wt : Bool) (w0 : World) : List Spec := [.is (.bool wt),
  .is (.bool wt),
  .is (bif (true && (wt == true)) then .pointer (some ⟨w0.heap.size, 3, none⟩) else undef),
  .is (bif (true && (wt == true)) then .int .i64 b else undef),
  .is (bif (true && (wt == true)) then .bool ((b == 0)) else undef),
  .is (.bool (wt && ((b == 0)))),
  .is (.bool (wt && ((b == 0)))),
  .is (bif (true && ((wt && ((b == 0))) == true)) then .pointer (some ⟨kk, 0, none⟩) else undef),
  .is (bif (true && ((wt && ((b == 0))) == true)) then .pointer (some ⟨kk, 0, none⟩) else undef),
  .is (bif (true && ((wt && ((b == 0))) == true)) then .pointer (some ⟨kk, 5, none⟩) else undef),
  .is (bif (true && ((wt && ((b == 0))) == true)) then .map (some rm) else undef),
  .is (bif (true && ((wt && ((b == 0))) == true)) then .pointer (some ⟨w0.heap.size, 2, none⟩) else undef),
  .is (bif (true && ((wt && ((b == 0))) == true)) then .int .i64 a else undef),
  .is (bif (true && ((wt && ((b == 0))) == true)) then .bool (f a) else undef),
  .is (.bool ((wt && ((b == 0))) && (f a))),
  .is (.bool ((wt && ((b == 0))) && (f a)))]
def rt14 (op dst a b nr ns : Int) (Ai Ak Al : Option Addr) (n1 n2 n3 ci ck cl rm sm kk : Nat) (f g : Int → Bool) (wt : Bool) (w0 : World) : List Spec := [.is (.pointer (some ⟨w0.heap.size, 0, none⟩)),
  .is (.int .i64 op),
  .is (.bool (decide (1 ≤ op))),
  .is (.bool (decide (1 ≤ op))),
  .is (bif (true && ((decide (1 ≤ op)) == true)) then .pointer (some ⟨w0.heap.size, 0, none⟩) else undef),
  .is (bif (true && ((decide (1 ≤ op)) == true)) then .int .i64 op else undef),
  .is (bif (true && ((decide (1 ≤ op)) == true)) then .bool (decide (op ≤ 14)) else undef),
  .is (.bool ((decide (1 ≤ op)) && (decide (op ≤ 14)))),
  .is (.bool ((decide (1 ≤ op)) && (decide (op ≤ 14)))),
  .is (bif (true && (((decide (1 ≤ op)) && (decide (op ≤ 14))) == true)) then .bool wt else undef),
  .is (.bool (((decide (1 ≤ op)) && (decide (op ≤ 14))) && wt)),
  .is (.bool (((decide (1 ≤ op)) && (decide (op ≤ 14))) && wt)),
  .is (bif (true && ((((decide (1 ≤ op)) && (decide (op ≤ 14))) && wt) == true)) then .pointer (some ⟨kk, 0, none⟩) else undef),
  .is (bif (true && ((((decide (1 ≤ op)) && (decide (op ≤ 14))) && wt) == true)) then .pointer (some ⟨kk, 0, none⟩) else undef),
  .is (bif (true && ((((decide (1 ≤ op)) && (decide (op ≤ 14))) && wt) == true)) then .pointer (some ⟨kk, 5, none⟩) else undef),
  .is (bif (true && ((((decide (1 ≤ op)) && (decide (op ≤ 14))) && wt) == true)) then .map (some rm) else undef),
  .is (bif (true && ((((decide (1 ≤ op)) && (decide (op ≤ 14))) && wt) == true)) then .pointer (some ⟨w0.heap.size, 2, none⟩) else undef),
  .is (bif (true && ((((decide (1 ≤ op)) && (decide (op ≤ 14))) && wt) == true)) then .int .i64 a else undef),
  .is (bif (true && ((((decide (1 ≤ op)) && (decide (op ≤ 14))) && wt) == true)) then .bool (f a) else undef),
  .is (.bool ((((decide (1 ≤ op)) && (decide (op ≤ 14))) && wt) && (f a))),
  .is (.bool ((((decide (1 ≤ op)) && (decide (op ≤ 14))) && wt) && (f a))),
  .is (bif (true && (((((decide (1 ≤ op)) && (decide (op ≤ 14))) && wt) && (f a)) == true)) then .pointer (some ⟨kk, 0, none⟩) else undef),
  .is (bif (true && (((((decide (1 ≤ op)) && (decide (op ≤ 14))) && wt) && (f a)) == true)) then .pointer (some ⟨kk, 0, none⟩) else undef),
  .is (bif (true && (((((decide (1 ≤ op)) && (decide (op ≤ 14))) && wt) && (f a)) == true)) then .pointer (some ⟨kk, 5, none⟩) else undef),
  .is (bif (true && (((((decide (1 ≤ op)) && (decide (op ≤ 14))) && wt) && (f a)) == true)) then .map (some rm) else undef),
  .is (bif (true && (((((decide (1 ≤ op)) && (decide (op ≤ 14))) && wt) && (f a)) == true)) then .pointer (some ⟨w0.heap.size, 3, none⟩) else undef),
  .is (bif (true && (((((decide (1 ≤ op)) && (decide (op ≤ 14))) && wt) && (f a)) == true)) then .int .i64 b else undef),
  .is (bif (true && (((((decide (1 ≤ op)) && (decide (op ≤ 14))) && wt) && (f a)) == true)) then .bool (f b) else undef),
  .is (.bool (((((decide (1 ≤ op)) && (decide (op ≤ 14))) && wt) && (f a)) && (f b))),
  .is (.bool (((((decide (1 ≤ op)) && (decide (op ≤ 14))) && wt) && (f a)) && (f b)))]
def rt12 (op dst a b nr ns : Int) (Ai Ak Al : Option Addr) (n1 n2 n3 ci ck cl rm sm kk : Nat) (f g : Int → Bool) (wt : Bool) (w0 : World) : List Spec := [.is (.pointer (some ⟨w0.heap.size, 0, none⟩)),
  .is (.int .i64 op),
  .is (.bool ((op == 6))),
  .is (.bool ((op == 6))),
  .is (bif (true && (((op == 6)) == false)) then .pointer (some ⟨w0.heap.size, 0, none⟩) else undef),
  .is (bif (true && (((op == 6)) == false)) then .int .i64 op else undef),
  .is (bif (true && (((op == 6)) == false)) then .bool (decide (15 ≤ op)) else undef),
  .is (bif (true && (((op == 6)) == false)) then .bool (decide (15 ≤ op)) else undef),
  .is (bif ((true && (((op == 6)) == false)) && ((decide (15 ≤ op)) == true)) then .pointer (some ⟨w0.heap.size, 0, none⟩) else undef),
  .is (bif ((true && (((op == 6)) == false)) && ((decide (15 ≤ op)) == true)) then .int .i64 op else undef),
  .is (bif ((true && (((op == 6)) == false)) && ((decide (15 ≤ op)) == true)) then .bool (decide (op ≤ 17)) else undef),
  .is (bif (true && (((op == 6)) == false)) then .bool ((decide (15 ≤ op)) && (decide (op ≤ 17))) else undef),
  .is (.bool (((op == 6)) || ((decide (15 ≤ op)) && (decide (op ≤ 17))))),
  .is (.bool (((op == 6)) || ((decide (15 ≤ op)) && (decide (op ≤ 17)))))]

def MapB (w : World) (b n : Nat) (f : Int → Bool) : Prop := MapF Try.prog 3 boolE w b n f
theorem zeroMB (w : World) : (zeroValue 4).run Try.prog w = .ok (boolE.val boolE.zero) w := by kernel_rfl
theorem act_evalG {a : Act} {d : Nat} {v : Value} (h : a.tmps[d]? = some v) : a.eval (.tmp d) = v := by simp [Act.eval, h]
/-- A look into a map of bools, at the operation. -/
theorem wp_lookB {w : World} {o : Oper} {a : Act} {K : Act → World → Prop} {Q : Exit → Act → World → Prop} (m x : Operand) (hop : o.op = Op.lookup 60 m x false) {b n : Nat} {f : Int → Bool} (hm : a.eval m = .map (some b)) (h : MapB w b n f) {i : Int} (hi : I64 i) (hx : a.eval x = .int .i64 i)
    (hK : K (a.put o.dst (.bool (f i))) w) : o.wp Try.prog a w K Q := by
  have hrun := MapF.look h Try.underlying3 Try.underlying60 (zeroMB w) i hi.wf
  unfold Oper.wp
  simp [execOp, hop, hm, hx, hrun, Result.andThen]
  exact hK
/-- What the checker knows: the code, what was written. -/
structure ChkV where
  kk : Nat
  rm : Nat
  sm : Nat
structure Chk (w : World) (B : Nat) (m : ChkV) (cd : CodeV) (k : Nat) (f g : Int → Bool) : Prop where
  mb : Bk w m.kk 62 #[.int .i64 cd.nr, .int .i64 cd.ns, .slice cd.Ai cd.li.length cd.ci, .slice cd.Ak cd.lk.length cd.ck, .slice cd.Al cd.ll.length cd.cl, .map (some m.rm), .map (some m.sm)]
  rr : MapB w m.rm k f
  ss : MapB w m.sm k g
  n1 : m.kk ≠ m.rm
  n2 : m.kk ≠ m.sm
  n3 : m.rm ≠ m.sm
  b1 : B ≤ m.kk
  b2 : B ≤ m.rm
  b3 : B ≤ m.sm
  b0 : B ≤ w.heap.size
theorem Chk.old {w w' : World} {B : Nat} {m : ChkV} {cd : CodeV} {k : Nat} {f g : Int → Bool} (h : Chk w B m cd k f g) (hb : Below w.heap.size w w') : Chk w' B m cd k f g :=
  ⟨h.mb.old hb, MapF.old h.rr hb, MapF.old h.ss hb, h.n1, h.n2, h.n3, h.b1, h.b2, h.b3, Nat.le_trans h.b0 hb.size⟩

set_option maxRecDepth 100000 in
set_option maxHeartbeats 4000000 in
theorem right_50 (dst a b : Int) (ha : I64 a) (hb : I64 b) (B : Nat) (m : ChkV) (cd : CodeV) (k : Nat) (f g : Int → Bool) (w : World) (h : Chk w B m cd k f g) :
    Calls Try.prog 28 #[.pointer (some ⟨m.kk, 0, none⟩), .agg #[.int .i64 50, .int .i64 dst, .int .i64 a, .int .i64 b]] w fun e w' => e = .returned (.bool (((((decide (0 ≤ dst) && decide (dst < cd.nr)) && ((b == 0))) && (decide (0 ≤ a))) && (decide (a < (cd.li.length : Nat)))))) ∧ Below w.heap.size w w' := by
  obtain ⟨kk, rm, sm⟩ := m
  obtain ⟨nr, ns, Ai, ci, li, Ak, ck, lk, Al, cl, ll⟩ := cd
  have hb0 : Below w.heap.size w (w.alloc (.cells #[.int .i64 50, .int .i64 dst, .int .i64 a, .int .i64 b] 43)) := (Below.refl _ _).alloc (Nat.le_refl _) _
  have kx := Bk.new w 43 #[.int .i64 50, .int .i64 dst, .int .i64 a, .int .i64 b]
  have hk := h.old hb0
  have x0 := kx.cell 0
  have x1 := kx.cell 1
  have x2 := kx.cell 2
  have x3 := kx.cell 3
  have k0 : (w.alloc (.cells #[.int .i64 50, .int .i64 dst, .int .i64 a, .int .i64 b] 43)).cell? ⟨kk, 0, none⟩ = some (.int .i64 nr) := hk.mb.cell 0
  have k1 : (w.alloc (.cells #[.int .i64 50, .int .i64 dst, .int .i64 a, .int .i64 b] 43)).cell? ⟨kk, 1, none⟩ = some (.int .i64 ns) := hk.mb.cell 1
  have k2 : (w.alloc (.cells #[.int .i64 50, .int .i64 dst, .int .i64 a, .int .i64 b] 43)).cell? ⟨kk, 2, none⟩ = some (.slice Ai li.length ci) := hk.mb.cell 2
  have k3 : (w.alloc (.cells #[.int .i64 50, .int .i64 dst, .int .i64 a, .int .i64 b] 43)).cell? ⟨kk, 3, none⟩ = some (.slice Ak lk.length ck) := hk.mb.cell 3
  have k5 : (w.alloc (.cells #[.int .i64 50, .int .i64 dst, .int .i64 a, .int .i64 b] 43)).cell? ⟨kk, 5, none⟩ = some (.map (some rm)) := hk.mb.cell 5
  have k6 : (w.alloc (.cells #[.int .i64 50, .int .i64 dst, .int .i64 a, .int .i64 b] 43)).cell? ⟨kk, 6, none⟩ = some (.map (some sm)) := hk.mb.cell 6
  have HK := Lib.hid hk
  have KX := Lib.hid kx
  have HR := Lib.hid hk.rr
  have HS := Lib.hid hk.ss
  have HB := Lib.hid hb0
  obtain ⟨wt, hwt⟩ : ∃ wt, (decide (0 ≤ dst) && decide (dst < nr)) = wt := ⟨_, rfl⟩
  show Calls _ _ _ _ fun e w' => e = .returned (.bool (((((decide (0 ≤ dst) && decide (dst < nr)) && ((b == 0))) && (decide (0 ≤ a))) && (decide (a < (li.length : Nat)))))) ∧ _
  rw [hwt]
  have HW := Lib.hid hwt
  clear hk h kx hb0 hwt
  go_enter Try.func28, Try.ntmps28
  go_wp2_with fail
  refine wp_region_b (by kernel_rfl) (fun qk => (rt1 50 dst a b nr ns Ai Ak Al li.length lk.length ll.length ci ck cl rm sm kk f g true w).getD qk .any) (by kernel_rfl) ?_ ?_
  · refine BOk.cons rfl [] [3] rfl rfl (by kernel_rfl) (by kernel_rfl) (fun qK qa wr hB qO qF hK => ?_) ?_
    · have e3 : qa.tmps[3]? = some (.pointer (some ⟨w.heap.size, 0, none⟩)) := qO.1.trans rfl
      clear qO qF
      go_simp
      exact hK _ _ (Below.refl _ _) rfl
    refine BOk.cons rfl [0] [] rfl rfl (by kernel_rfl) (by kernel_rfl) (fun qK qa wr hB qO qF hK => ?_) ?_
    · have e6 : qa.tmps[6]? = some (.pointer (some ⟨w.heap.size, 1, none⟩)) := fis qF.1 rfl rfl
      clear qO qF
      have hx1 := (bcell hB _ _ (World.block_lt_of_cell? _ _ x1)).trans x1
      go_simp
      exact hK _ _ (Below.refl _ _) rfl
    refine BOk.cons rfl [1] [] rfl rfl (by kernel_rfl) (by kernel_rfl) (fun qK qa wr hB qO qF hK => ?_) ?_
    · have e7 : qa.tmps[7]? = some (.int .i64 dst) := fis qF.1 rfl rfl
      clear qO qF
      go_simp
      refine hK _ _ (Below.refl _ _) ?_
      show (_ : Value) = _
      first | rfl | (simp; done) | (simp; omega) | (congr 1; simp; done) | (congr 1; rw [decide_eq_decide]; omega)
    refine BOk.cons rfl [2] [] rfl rfl (by kernel_rfl) (by kernel_rfl) (fun qK qa wr hB qO qF hK => ?_) ?_
    · have e8 : qa.tmps[8]? = some (.bool (decide (0 ≤ dst))) := fis qF.1 rfl rfl
      clear qO qF
      go_simp
      exact hK _ _ (Below.refl _ _) (by first | rfl | (show (_ : Value) = _; simp_all; done))
    refine BOk.optT rfl [] [3] rfl 3 true rfl rfl rfl rfl (by kernel_rfl) (by kernel_rfl) (by kernel_rfl) (fun hp hc hP qK qa wr hB qO qF hK => ?_) ?_
    · have e3 : qa.tmps[3]? = some (.pointer (some ⟨w.heap.size, 0, none⟩)) := qO.1.trans rfl
      clear qO qF
      go_simp
      exact hK _ _ (Below.refl _ _) rfl
    refine BOk.optT rfl [4] [] rfl 3 true rfl rfl rfl rfl (by kernel_rfl) (by kernel_rfl) (by kernel_rfl) (fun hp hc hP qK qa wr hB qO qF hK => ?_) ?_
    · have e10 : qa.tmps[10]? = some (.pointer (some ⟨w.heap.size, 1, none⟩)) := fif qF.1 rfl hP rfl
      clear qO qF
      have hx1 := (bcell hB _ _ (World.block_lt_of_cell? _ _ x1)).trans x1
      go_simp
      exact hK _ _ (Below.refl _ _) rfl
    refine BOk.optT rfl [] [0] rfl 3 true rfl rfl rfl rfl (by kernel_rfl) (by kernel_rfl) (by kernel_rfl) (fun hp hc hP qK qa wr hB qO qF hK => ?_) ?_
    · have e0 : qa.tmps[0]? = some (.pointer (some ⟨kk, 0, none⟩)) := qO.1.trans rfl
      clear qO qF
      go_simp
      exact hK _ _ (Below.refl _ _) rfl
    refine BOk.optT rfl [6] [] rfl 3 true rfl rfl rfl rfl (by kernel_rfl) (by kernel_rfl) (by kernel_rfl) (fun hp hc hP qK qa wr hB qO qF hK => ?_) ?_
    · have e12 : qa.tmps[12]? = some (.pointer (some ⟨kk, 0, none⟩)) := fif qF.1 rfl hP rfl
      clear qO qF
      go_simp
      exact hK _ _ (Below.refl _ _) rfl
    refine BOk.optT rfl [7] [] rfl 3 true rfl rfl rfl rfl (by kernel_rfl) (by kernel_rfl) (by kernel_rfl) (fun hp hc hP qK qa wr hB qO qF hK => ?_) ?_
    · have e13 : qa.tmps[13]? = some (.pointer (some ⟨kk, 0, none⟩)) := fif qF.1 rfl hP rfl
      clear qO qF
      go_simp
      exact hK _ _ (Below.refl _ _) rfl
    refine BOk.optT rfl [8] [] rfl 3 true rfl rfl rfl rfl (by kernel_rfl) (by kernel_rfl) (by kernel_rfl) (fun hp hc hP qK qa wr hB qO qF hK => ?_) ?_
    · have e14 : qa.tmps[14]? = some (.pointer (some ⟨kk, 0, none⟩)) := fif qF.1 rfl hP rfl
      clear qO qF
      go_simp
      exact hK _ _ (Below.refl _ _) rfl
    refine BOk.optT rfl [9] [] rfl 3 true rfl rfl rfl rfl (by kernel_rfl) (by kernel_rfl) (by kernel_rfl) (fun hp hc hP qK qa wr hB qO qF hK => ?_) ?_
    · have e15 : qa.tmps[15]? = some (.pointer (some ⟨kk, 0, none⟩)) := fif qF.1 rfl hP rfl
      clear qO qF
      have hk0 := (bcell hB _ _ (World.block_lt_of_cell? _ _ k0)).trans k0
      go_simp
      exact hK _ _ (Below.refl _ _) rfl
    refine BOk.optT rfl [5, 10] [] rfl 3 true rfl rfl rfl rfl (by kernel_rfl) (by kernel_rfl) (by kernel_rfl) (fun hp hc hP qK qa wr hB qO qF hK => ?_) ?_
    · have e11 : qa.tmps[11]? = some (.int .i64 dst) := fif qF.1 rfl hP rfl
      have e16 : qa.tmps[16]? = some (.int .i64 nr) := fif qF.2.1 rfl hP rfl
      clear qO qF
      go_simp
      refine hK _ _ (Below.refl _ _) ?_
      show (_ : Value) = _
      first | rfl | (simp; done) | (simp; omega) | (congr 1; simp; done) | (congr 1; rw [decide_eq_decide]; omega)
    refine BOk.cons rfl [3, 11] [] rfl rfl (by kernel_rfl) (by kernel_rfl) (fun qK qa wr hB qO qF hK => ?_) ?_
    · have e9 : qa.tmps[9]? = some (.bool (decide (0 ≤ dst))) := fis qF.1 rfl rfl
      obtain ⟨u17, e17, r11⟩ := qF.2.1
      have r11 : u17 = (bif (true && ((decide (0 ≤ dst)) == true)) then .bool (decide (dst < nr)) else undef) := r11
      clear qO qF
      rcases (Bool.eq_false_or_eq_true ((decide (0 ≤ dst)))).symm with hcc | hcc
      · rw [hcc] at e9
        go_simp
        exact hK _ _ (Below.refl _ _) (by show (_ : Value) = _; first | (rw [hcc]; first | rfl | (simp; done)) | (simp_all; done))
      · rw [hcc] at e9
        have e17 : qa.tmps[17]? = some (.bool ((decide (dst < nr)))) := (show u17 = .bool ((decide (dst < nr))) from r11.trans (by (first | rw [hcc] | skip); first | rfl | (rw [hP]; rfl))) ▸ e17
        go_simp
        exact hK _ _ (Below.refl _ _) (by show (_ : Value) = _; first | (rw [hcc]; first | rfl | (simp; done)) | (simp_all; done))
    refine BOk.cons rfl [12] [] rfl rfl (by kernel_rfl) (by kernel_rfl) (fun qK qa wr hB qO qF hK => ?_) ?_
    · have e18 : qa.tmps[18]? = some (.bool ((decide (0 ≤ dst)) && (decide (dst < nr)))) := fis qF.1 rfl rfl
      clear qO qF
      go_simp
      exact hK _ _ (Below.refl _ _) (by first | rfl | (show (_ : Value) = _; simp_all; done))
    exact BOk.nil
  intro vals wr hl hB hR
  match vals, hl with
  | [z1_6, z1_7, z1_8, z1_9, z1_10, z1_11, z1_12, z1_13, z1_14, z1_15, z1_16, z1_17, z1_18, z1_5], _ =>
  have r13 : z1_5 = .bool ((decide (0 ≤ dst)) && (decide (dst < nr))) := hR 13 _ rfl
  subst r13
  clear hR
  simp only [List.cons_append, List.nil_append, putAll, Act.put, List.setIfInBounds_toArray, List.set_cons_zero, List.set_cons_succ]
  rw [HW.out]
  have HK := Lib.hid (HK.out.old hB)
  have KX := Lib.hid (KX.out.old hB)
  have HB := Lib.hid (HB.out.trans (hB.mono HB.out.size))
  have HR := Lib.hid HK.out.rr
  have HS := Lib.hid HK.out.ss
  clear x0 x1 x2 x3 k0 k1 k2 k3 k5 k6 hB
  have x0 : wr.cell? ⟨w.heap.size, 0, none⟩ = some (.int .i64 50) := KX.out.cell 0
  have x1 : wr.cell? ⟨w.heap.size, 1, none⟩ = some (.int .i64 dst) := KX.out.cell 1
  have x2 : wr.cell? ⟨w.heap.size, 2, none⟩ = some (.int .i64 a) := KX.out.cell 2
  have x3 : wr.cell? ⟨w.heap.size, 3, none⟩ = some (.int .i64 b) := KX.out.cell 3
  have k0 : wr.cell? ⟨kk, 0, none⟩ = some (.int .i64 nr) := HK.out.mb.cell 0
  have k1 : wr.cell? ⟨kk, 1, none⟩ = some (.int .i64 ns) := HK.out.mb.cell 1
  have k2 : wr.cell? ⟨kk, 2, none⟩ = some (.slice Ai li.length ci) := HK.out.mb.cell 2
  have k3 : wr.cell? ⟨kk, 3, none⟩ = some (.slice Ak lk.length ck) := HK.out.mb.cell 3
  have k5 : wr.cell? ⟨kk, 5, none⟩ = some (.map (some rm)) := HK.out.mb.cell 5
  have k6 : wr.cell? ⟨kk, 6, none⟩ = some (.map (some sm)) := HK.out.mb.cell 6
  go_wp2_with fail
  refine wp_region_b (by kernel_rfl) (fun qk => (rt3 50 dst a b nr ns Ai Ak Al li.length lk.length ll.length ci ck cl rm sm kk f g wt w).getD qk .any) (by kernel_rfl) ?_ ?_
  · refine BOk.cons rfl [] [5] rfl rfl (by kernel_rfl) (by kernel_rfl) (fun qK qa wr hB qO qF hK => ?_) ?_
    · have e5 : qa.tmps[5]? = some (.bool wt) := qO.1.trans rfl
      clear qO qF
      go_simp
      exact hK _ _ (Below.refl _ _) (by first | rfl | (show (_ : Value) = _; simp_all; done))
    refine BOk.cons rfl [0] [] rfl rfl (by kernel_rfl) (by kernel_rfl) (fun qK qa wr hB qO qF hK => ?_) ?_
    · have e23 : qa.tmps[23]? = some (.bool wt) := fis qF.1 rfl rfl
      clear qO qF
      go_simp
      exact hK _ _ (Below.refl _ _) (by first | rfl | (show (_ : Value) = _; simp_all; done))
    refine BOk.optT rfl [] [3] rfl 1 true rfl rfl rfl rfl (by kernel_rfl) (by kernel_rfl) (by kernel_rfl) (fun hp hc hP qK qa wr hB qO qF hK => ?_) ?_
    · have e3 : qa.tmps[3]? = some (.pointer (some ⟨w.heap.size, 0, none⟩)) := qO.1.trans rfl
      clear qO qF
      go_simp
      exact hK _ _ (Below.refl _ _) rfl
    refine BOk.optT rfl [2] [] rfl 1 true rfl rfl rfl rfl (by kernel_rfl) (by kernel_rfl) (by kernel_rfl) (fun hp hc hP qK qa wr hB qO qF hK => ?_) ?_
    · have e25 : qa.tmps[25]? = some (.pointer (some ⟨w.heap.size, 3, none⟩)) := fif qF.1 rfl hP rfl
      clear qO qF
      have hx3 := (bcell hB _ _ (World.block_lt_of_cell? _ _ x3)).trans x3
      go_simp
      exact hK _ _ (Below.refl _ _) rfl
    refine BOk.optT rfl [3] [] rfl 1 true rfl rfl rfl rfl (by kernel_rfl) (by kernel_rfl) (by kernel_rfl) (fun hp hc hP qK qa wr hB qO qF hK => ?_) ?_
    · have e26 : qa.tmps[26]? = some (.int .i64 b) := fif qF.1 rfl hP rfl
      clear qO qF
      go_simp
      refine hK _ _ (Below.refl _ _) ?_
      show (_ : Value) = _
      first | rfl | (simp; done) | (simp; omega) | (congr 1; simp; done) | (congr 1; rw [decide_eq_decide]; omega)
    refine BOk.cons rfl [1, 4] [] rfl rfl (by kernel_rfl) (by kernel_rfl) (fun qK qa wr hB qO qF hK => ?_) ?_
    · have e24 : qa.tmps[24]? = some (.bool wt) := fis qF.1 rfl rfl
      obtain ⟨u27, e27, r4⟩ := qF.2.1
      have r4 : u27 = (bif (true && (wt == true)) then .bool ((b == 0)) else undef) := r4
      clear qO qF
      rcases (Bool.eq_false_or_eq_true (wt)).symm with hcc | hcc
      · rw [hcc] at e24
        go_simp
        exact hK _ _ (Below.refl _ _) (by show (_ : Value) = _; first | (rw [hcc]; first | rfl | (simp; done)) | (simp_all; done))
      · rw [hcc] at e24
        have e27 : qa.tmps[27]? = some (.bool (((b == 0)))) := (show u27 = .bool (((b == 0))) from r4.trans (by (first | rw [hcc] | skip); first | rfl | (rw [hP]; rfl))) ▸ e27
        go_simp
        exact hK _ _ (Below.refl _ _) (by show (_ : Value) = _; first | (rw [hcc]; first | rfl | (simp; done)) | (simp_all; done))
    refine BOk.cons rfl [5] [] rfl rfl (by kernel_rfl) (by kernel_rfl) (fun qK qa wr hB qO qF hK => ?_) ?_
    · have e28 : qa.tmps[28]? = some (.bool (wt && ((b == 0)))) := fis qF.1 rfl rfl
      clear qO qF
      go_simp
      exact hK _ _ (Below.refl _ _) (by first | rfl | (show (_ : Value) = _; simp_all; done))
    refine BOk.optT rfl [] [3] rfl 6 true rfl rfl rfl rfl (by kernel_rfl) (by kernel_rfl) (by kernel_rfl) (fun hp hc hP qK qa wr hB qO qF hK => ?_) ?_
    · have e3 : qa.tmps[3]? = some (.pointer (some ⟨w.heap.size, 0, none⟩)) := qO.1.trans rfl
      clear qO qF
      go_simp
      exact hK _ _ (Below.refl _ _) rfl
    refine BOk.optT rfl [7] [] rfl 6 true rfl rfl rfl rfl (by kernel_rfl) (by kernel_rfl) (by kernel_rfl) (fun hp hc hP qK qa wr hB qO qF hK => ?_) ?_
    · have e30 : qa.tmps[30]? = some (.pointer (some ⟨w.heap.size, 2, none⟩)) := fif qF.1 rfl hP rfl
      clear qO qF
      have hx2 := (bcell hB _ _ (World.block_lt_of_cell? _ _ x2)).trans x2
      go_simp
      exact hK _ _ (Below.refl _ _) rfl
    refine BOk.optT rfl [8] [] rfl 6 true rfl rfl rfl rfl (by kernel_rfl) (by kernel_rfl) (by kernel_rfl) (fun hp hc hP qK qa wr hB qO qF hK => ?_) ?_
    · have e31 : qa.tmps[31]? = some (.int .i64 a) := fif qF.1 rfl hP rfl
      clear qO qF
      go_simp
      refine hK _ _ (Below.refl _ _) ?_
      show (_ : Value) = _
      first | rfl | (simp; done) | (simp; omega) | (congr 1; simp; done) | (congr 1; rw [decide_eq_decide]; omega)
    refine BOk.cons rfl [6, 9] [] rfl rfl (by kernel_rfl) (by kernel_rfl) (fun qK qa wr hB qO qF hK => ?_) ?_
    · have e29 : qa.tmps[29]? = some (.bool (wt && ((b == 0)))) := fis qF.1 rfl rfl
      obtain ⟨u32, e32, r9⟩ := qF.2.1
      have r9 : u32 = (bif (true && ((wt && ((b == 0))) == true)) then .bool (decide (0 ≤ a)) else undef) := r9
      clear qO qF
      rcases (Bool.eq_false_or_eq_true ((wt && ((b == 0))))).symm with hcc | hcc
      · rw [hcc] at e29
        go_simp
        exact hK _ _ (Below.refl _ _) (by show (_ : Value) = _; first | (rw [hcc]; first | rfl | (simp; done)) | (simp_all; done))
      · rw [hcc] at e29
        have e32 : qa.tmps[32]? = some (.bool ((decide (0 ≤ a)))) := (show u32 = .bool ((decide (0 ≤ a))) from r9.trans (by (first | rw [hcc] | skip); first | rfl | (rw [hP]; rfl))) ▸ e32
        go_simp
        exact hK _ _ (Below.refl _ _) (by show (_ : Value) = _; first | (rw [hcc]; first | rfl | (simp; done)) | (simp_all; done))
    refine BOk.cons rfl [10] [] rfl rfl (by kernel_rfl) (by kernel_rfl) (fun qK qa wr hB qO qF hK => ?_) ?_
    · have e33 : qa.tmps[33]? = some (.bool ((wt && ((b == 0))) && (decide (0 ≤ a)))) := fis qF.1 rfl rfl
      clear qO qF
      go_simp
      exact hK _ _ (Below.refl _ _) (by first | rfl | (show (_ : Value) = _; simp_all; done))
    refine BOk.optT rfl [] [3] rfl 11 true rfl rfl rfl rfl (by kernel_rfl) (by kernel_rfl) (by kernel_rfl) (fun hp hc hP qK qa wr hB qO qF hK => ?_) ?_
    · have e3 : qa.tmps[3]? = some (.pointer (some ⟨w.heap.size, 0, none⟩)) := qO.1.trans rfl
      clear qO qF
      go_simp
      exact hK _ _ (Below.refl _ _) rfl
    refine BOk.optT rfl [12] [] rfl 11 true rfl rfl rfl rfl (by kernel_rfl) (by kernel_rfl) (by kernel_rfl) (fun hp hc hP qK qa wr hB qO qF hK => ?_) ?_
    · have e35 : qa.tmps[35]? = some (.pointer (some ⟨w.heap.size, 2, none⟩)) := fif qF.1 rfl hP rfl
      clear qO qF
      have hx2 := (bcell hB _ _ (World.block_lt_of_cell? _ _ x2)).trans x2
      go_simp
      exact hK _ _ (Below.refl _ _) rfl
    refine BOk.optT rfl [] [0] rfl 11 true rfl rfl rfl rfl (by kernel_rfl) (by kernel_rfl) (by kernel_rfl) (fun hp hc hP qK qa wr hB qO qF hK => ?_) ?_
    · have e0 : qa.tmps[0]? = some (.pointer (some ⟨kk, 0, none⟩)) := qO.1.trans rfl
      clear qO qF
      go_simp
      exact hK _ _ (Below.refl _ _) rfl
    refine BOk.optT rfl [14] [] rfl 11 true rfl rfl rfl rfl (by kernel_rfl) (by kernel_rfl) (by kernel_rfl) (fun hp hc hP qK qa wr hB qO qF hK => ?_) ?_
    · have e37 : qa.tmps[37]? = some (.pointer (some ⟨kk, 0, none⟩)) := fif qF.1 rfl hP rfl
      clear qO qF
      go_simp
      exact hK _ _ (Below.refl _ _) rfl
    refine BOk.optT rfl [15] [] rfl 11 true rfl rfl rfl rfl (by kernel_rfl) (by kernel_rfl) (by kernel_rfl) (fun hp hc hP qK qa wr hB qO qF hK => ?_) ?_
    · have e38 : qa.tmps[38]? = some (.pointer (some ⟨kk, 0, none⟩)) := fif qF.1 rfl hP rfl
      clear qO qF
      go_simp
      exact hK _ _ (Below.refl _ _) rfl
    refine BOk.optT rfl [16] [] rfl 11 true rfl rfl rfl rfl (by kernel_rfl) (by kernel_rfl) (by kernel_rfl) (fun hp hc hP qK qa wr hB qO qF hK => ?_) ?_
    · have e39 : qa.tmps[39]? = some (.pointer (some ⟨kk, 0, none⟩)) := fif qF.1 rfl hP rfl
      clear qO qF
      go_simp
      exact hK _ _ (Below.refl _ _) rfl
    refine BOk.optT rfl [17] [] rfl 11 true rfl rfl rfl rfl (by kernel_rfl) (by kernel_rfl) (by kernel_rfl) (fun hp hc hP qK qa wr hB qO qF hK => ?_) ?_
    · have e40 : qa.tmps[40]? = some (.pointer (some ⟨kk, 2, none⟩)) := fif qF.1 rfl hP rfl
      clear qO qF
      have hk2 := (bcell hB _ _ (World.block_lt_of_cell? _ _ k2)).trans k2
      go_simp
      exact hK _ _ (Below.refl _ _) rfl
    refine BOk.optT rfl [18] [] rfl 11 true rfl rfl rfl rfl (by kernel_rfl) (by kernel_rfl) (by kernel_rfl) (fun hp hc hP qK qa wr hB qO qF hK => ?_) ?_
    · have e41 : qa.tmps[41]? = some (.slice Ai li.length ci) := fif qF.1 rfl hP rfl
      clear qO qF
      go_simp
      exact hK _ _ (Below.refl _ _) rfl
    refine BOk.optT rfl [13, 19] [] rfl 11 true rfl rfl rfl rfl (by kernel_rfl) (by kernel_rfl) (by kernel_rfl) (fun hp hc hP qK qa wr hB qO qF hK => ?_) ?_
    · have e36 : qa.tmps[36]? = some (.int .i64 a) := fif qF.1 rfl hP rfl
      have e42 : qa.tmps[42]? = some (.int .i64 (li.length : Nat)) := fif qF.2.1 rfl hP rfl
      clear qO qF
      go_simp
      refine hK _ _ (Below.refl _ _) ?_
      show (_ : Value) = _
      first | rfl | (simp; done) | (simp; omega) | (congr 1; simp; done) | (congr 1; rw [decide_eq_decide]; omega)
    refine BOk.cons rfl [11, 20] [] rfl rfl (by kernel_rfl) (by kernel_rfl) (fun qK qa wr hB qO qF hK => ?_) ?_
    · have e34 : qa.tmps[34]? = some (.bool ((wt && ((b == 0))) && (decide (0 ≤ a)))) := fis qF.1 rfl rfl
      obtain ⟨u43, e43, r20⟩ := qF.2.1
      have r20 : u43 = (bif (true && (((wt && ((b == 0))) && (decide (0 ≤ a))) == true)) then .bool (decide (a < (li.length : Nat))) else undef) := r20
      clear qO qF
      rcases (Bool.eq_false_or_eq_true (((wt && ((b == 0))) && (decide (0 ≤ a))))).symm with hcc | hcc
      · rw [hcc] at e34
        go_simp
        exact hK _ _ (Below.refl _ _) (by show (_ : Value) = _; first | (rw [hcc]; first | rfl | (simp; done)) | (simp_all; done))
      · rw [hcc] at e34
        have e43 : qa.tmps[43]? = some (.bool ((decide (a < (li.length : Nat))))) := (show u43 = .bool ((decide (a < (li.length : Nat)))) from r20.trans (by (first | rw [hcc] | skip); first | rfl | (rw [hP]; rfl))) ▸ e43
        go_simp
        exact hK _ _ (Below.refl _ _) (by show (_ : Value) = _; first | (rw [hcc]; first | rfl | (simp; done)) | (simp_all; done))
    refine BOk.cons rfl [21] [] rfl rfl (by kernel_rfl) (by kernel_rfl) (fun qK qa wr hB qO qF hK => ?_) ?_
    · have e44 : qa.tmps[44]? = some (.bool (((wt && ((b == 0))) && (decide (0 ≤ a))) && (decide (a < (li.length : Nat))))) := fis qF.1 rfl rfl
      clear qO qF
      go_simp
      exact hK _ _ (Below.refl _ _) (by first | rfl | (show (_ : Value) = _; simp_all; done))
    exact BOk.nil
  intro vals wr hl hB hR
  match vals, hl with
  | [z3_23, z3_24, z3_25, z3_26, z3_27, z3_28, z3_29, z3_30, z3_31, z3_32, z3_33, z3_34, z3_35, z3_36, z3_37, z3_38, z3_39, z3_40, z3_41, z3_42, z3_43, z3_44, z3_4], _ =>
  have r22 : z3_4 = .bool (((wt && ((b == 0))) && (decide (0 ≤ a))) && (decide (a < (li.length : Nat)))) := hR 22 _ rfl
  subst r22
  clear hR
  simp only [List.cons_append, List.nil_append, putAll, Act.put, List.setIfInBounds_toArray, List.set_cons_zero, List.set_cons_succ]
  go_wp2_with fail
  go_ret
  exact ⟨rfl, HB.out.trans (hB.mono HB.out.size)⟩

set_option maxRecDepth 100000 in
set_option maxHeartbeats 4000000 in
theorem right_51 (dst a b : Int) (ha : I64 a) (hb : I64 b) (B : Nat) (m : ChkV) (cd : CodeV) (k : Nat) (f g : Int → Bool) (w : World) (h : Chk w B m cd k f g) :
    Calls Try.prog 28 #[.pointer (some ⟨m.kk, 0, none⟩), .agg #[.int .i64 51, .int .i64 dst, .int .i64 a, .int .i64 b]] w fun e w' => e = .returned (.bool (((((decide (0 ≤ dst) && decide (dst < cd.nr)) && ((b == 0))) && (decide (0 ≤ a))) && (decide (a < (cd.lk.length : Nat)))))) ∧ Below w.heap.size w w' := by
  obtain ⟨kk, rm, sm⟩ := m
  obtain ⟨nr, ns, Ai, ci, li, Ak, ck, lk, Al, cl, ll⟩ := cd
  have hb0 : Below w.heap.size w (w.alloc (.cells #[.int .i64 51, .int .i64 dst, .int .i64 a, .int .i64 b] 43)) := (Below.refl _ _).alloc (Nat.le_refl _) _
  have kx := Bk.new w 43 #[.int .i64 51, .int .i64 dst, .int .i64 a, .int .i64 b]
  have hk := h.old hb0
  have x0 := kx.cell 0
  have x1 := kx.cell 1
  have x2 := kx.cell 2
  have x3 := kx.cell 3
  have k0 : (w.alloc (.cells #[.int .i64 51, .int .i64 dst, .int .i64 a, .int .i64 b] 43)).cell? ⟨kk, 0, none⟩ = some (.int .i64 nr) := hk.mb.cell 0
  have k1 : (w.alloc (.cells #[.int .i64 51, .int .i64 dst, .int .i64 a, .int .i64 b] 43)).cell? ⟨kk, 1, none⟩ = some (.int .i64 ns) := hk.mb.cell 1
  have k2 : (w.alloc (.cells #[.int .i64 51, .int .i64 dst, .int .i64 a, .int .i64 b] 43)).cell? ⟨kk, 2, none⟩ = some (.slice Ai li.length ci) := hk.mb.cell 2
  have k3 : (w.alloc (.cells #[.int .i64 51, .int .i64 dst, .int .i64 a, .int .i64 b] 43)).cell? ⟨kk, 3, none⟩ = some (.slice Ak lk.length ck) := hk.mb.cell 3
  have k5 : (w.alloc (.cells #[.int .i64 51, .int .i64 dst, .int .i64 a, .int .i64 b] 43)).cell? ⟨kk, 5, none⟩ = some (.map (some rm)) := hk.mb.cell 5
  have k6 : (w.alloc (.cells #[.int .i64 51, .int .i64 dst, .int .i64 a, .int .i64 b] 43)).cell? ⟨kk, 6, none⟩ = some (.map (some sm)) := hk.mb.cell 6
  have HK := Lib.hid hk
  have KX := Lib.hid kx
  have HR := Lib.hid hk.rr
  have HS := Lib.hid hk.ss
  have HB := Lib.hid hb0
  obtain ⟨wt, hwt⟩ : ∃ wt, (decide (0 ≤ dst) && decide (dst < nr)) = wt := ⟨_, rfl⟩
  show Calls _ _ _ _ fun e w' => e = .returned (.bool (((((decide (0 ≤ dst) && decide (dst < nr)) && ((b == 0))) && (decide (0 ≤ a))) && (decide (a < (lk.length : Nat)))))) ∧ _
  rw [hwt]
  have HW := Lib.hid hwt
  clear hk h kx hb0 hwt
  go_enter Try.func28, Try.ntmps28
  go_wp2_with fail
  refine wp_region_b (by kernel_rfl) (fun qk => (rt1 51 dst a b nr ns Ai Ak Al li.length lk.length ll.length ci ck cl rm sm kk f g true w).getD qk .any) (by kernel_rfl) ?_ ?_
  · refine BOk.cons rfl [] [3] rfl rfl (by kernel_rfl) (by kernel_rfl) (fun qK qa wr hB qO qF hK => ?_) ?_
    · have e3 : qa.tmps[3]? = some (.pointer (some ⟨w.heap.size, 0, none⟩)) := qO.1.trans rfl
      clear qO qF
      go_simp
      exact hK _ _ (Below.refl _ _) rfl
    refine BOk.cons rfl [0] [] rfl rfl (by kernel_rfl) (by kernel_rfl) (fun qK qa wr hB qO qF hK => ?_) ?_
    · have e6 : qa.tmps[6]? = some (.pointer (some ⟨w.heap.size, 1, none⟩)) := fis qF.1 rfl rfl
      clear qO qF
      have hx1 := (bcell hB _ _ (World.block_lt_of_cell? _ _ x1)).trans x1
      go_simp
      exact hK _ _ (Below.refl _ _) rfl
    refine BOk.cons rfl [1] [] rfl rfl (by kernel_rfl) (by kernel_rfl) (fun qK qa wr hB qO qF hK => ?_) ?_
    · have e7 : qa.tmps[7]? = some (.int .i64 dst) := fis qF.1 rfl rfl
      clear qO qF
      go_simp
      refine hK _ _ (Below.refl _ _) ?_
      show (_ : Value) = _
      first | rfl | (simp; done) | (simp; omega) | (congr 1; simp; done) | (congr 1; rw [decide_eq_decide]; omega)
    refine BOk.cons rfl [2] [] rfl rfl (by kernel_rfl) (by kernel_rfl) (fun qK qa wr hB qO qF hK => ?_) ?_
    · have e8 : qa.tmps[8]? = some (.bool (decide (0 ≤ dst))) := fis qF.1 rfl rfl
      clear qO qF
      go_simp
      exact hK _ _ (Below.refl _ _) (by first | rfl | (show (_ : Value) = _; simp_all; done))
    refine BOk.optT rfl [] [3] rfl 3 true rfl rfl rfl rfl (by kernel_rfl) (by kernel_rfl) (by kernel_rfl) (fun hp hc hP qK qa wr hB qO qF hK => ?_) ?_
    · have e3 : qa.tmps[3]? = some (.pointer (some ⟨w.heap.size, 0, none⟩)) := qO.1.trans rfl
      clear qO qF
      go_simp
      exact hK _ _ (Below.refl _ _) rfl
    refine BOk.optT rfl [4] [] rfl 3 true rfl rfl rfl rfl (by kernel_rfl) (by kernel_rfl) (by kernel_rfl) (fun hp hc hP qK qa wr hB qO qF hK => ?_) ?_
    · have e10 : qa.tmps[10]? = some (.pointer (some ⟨w.heap.size, 1, none⟩)) := fif qF.1 rfl hP rfl
      clear qO qF
      have hx1 := (bcell hB _ _ (World.block_lt_of_cell? _ _ x1)).trans x1
      go_simp
      exact hK _ _ (Below.refl _ _) rfl
    refine BOk.optT rfl [] [0] rfl 3 true rfl rfl rfl rfl (by kernel_rfl) (by kernel_rfl) (by kernel_rfl) (fun hp hc hP qK qa wr hB qO qF hK => ?_) ?_
    · have e0 : qa.tmps[0]? = some (.pointer (some ⟨kk, 0, none⟩)) := qO.1.trans rfl
      clear qO qF
      go_simp
      exact hK _ _ (Below.refl _ _) rfl
    refine BOk.optT rfl [6] [] rfl 3 true rfl rfl rfl rfl (by kernel_rfl) (by kernel_rfl) (by kernel_rfl) (fun hp hc hP qK qa wr hB qO qF hK => ?_) ?_
    · have e12 : qa.tmps[12]? = some (.pointer (some ⟨kk, 0, none⟩)) := fif qF.1 rfl hP rfl
      clear qO qF
      go_simp
      exact hK _ _ (Below.refl _ _) rfl
    refine BOk.optT rfl [7] [] rfl 3 true rfl rfl rfl rfl (by kernel_rfl) (by kernel_rfl) (by kernel_rfl) (fun hp hc hP qK qa wr hB qO qF hK => ?_) ?_
    · have e13 : qa.tmps[13]? = some (.pointer (some ⟨kk, 0, none⟩)) := fif qF.1 rfl hP rfl
      clear qO qF
      go_simp
      exact hK _ _ (Below.refl _ _) rfl
    refine BOk.optT rfl [8] [] rfl 3 true rfl rfl rfl rfl (by kernel_rfl) (by kernel_rfl) (by kernel_rfl) (fun hp hc hP qK qa wr hB qO qF hK => ?_) ?_
    · have e14 : qa.tmps[14]? = some (.pointer (some ⟨kk, 0, none⟩)) := fif qF.1 rfl hP rfl
      clear qO qF
      go_simp
      exact hK _ _ (Below.refl _ _) rfl
    refine BOk.optT rfl [9] [] rfl 3 true rfl rfl rfl rfl (by kernel_rfl) (by kernel_rfl) (by kernel_rfl) (fun hp hc hP qK qa wr hB qO qF hK => ?_) ?_
    · have e15 : qa.tmps[15]? = some (.pointer (some ⟨kk, 0, none⟩)) := fif qF.1 rfl hP rfl
      clear qO qF
      have hk0 := (bcell hB _ _ (World.block_lt_of_cell? _ _ k0)).trans k0
      go_simp
      exact hK _ _ (Below.refl _ _) rfl
    refine BOk.optT rfl [5, 10] [] rfl 3 true rfl rfl rfl rfl (by kernel_rfl) (by kernel_rfl) (by kernel_rfl) (fun hp hc hP qK qa wr hB qO qF hK => ?_) ?_
    · have e11 : qa.tmps[11]? = some (.int .i64 dst) := fif qF.1 rfl hP rfl
      have e16 : qa.tmps[16]? = some (.int .i64 nr) := fif qF.2.1 rfl hP rfl
      clear qO qF
      go_simp
      refine hK _ _ (Below.refl _ _) ?_
      show (_ : Value) = _
      first | rfl | (simp; done) | (simp; omega) | (congr 1; simp; done) | (congr 1; rw [decide_eq_decide]; omega)
    refine BOk.cons rfl [3, 11] [] rfl rfl (by kernel_rfl) (by kernel_rfl) (fun qK qa wr hB qO qF hK => ?_) ?_
    · have e9 : qa.tmps[9]? = some (.bool (decide (0 ≤ dst))) := fis qF.1 rfl rfl
      obtain ⟨u17, e17, r11⟩ := qF.2.1
      have r11 : u17 = (bif (true && ((decide (0 ≤ dst)) == true)) then .bool (decide (dst < nr)) else undef) := r11
      clear qO qF
      rcases (Bool.eq_false_or_eq_true ((decide (0 ≤ dst)))).symm with hcc | hcc
      · rw [hcc] at e9
        go_simp
        exact hK _ _ (Below.refl _ _) (by show (_ : Value) = _; first | (rw [hcc]; first | rfl | (simp; done)) | (simp_all; done))
      · rw [hcc] at e9
        have e17 : qa.tmps[17]? = some (.bool ((decide (dst < nr)))) := (show u17 = .bool ((decide (dst < nr))) from r11.trans (by (first | rw [hcc] | skip); first | rfl | (rw [hP]; rfl))) ▸ e17
        go_simp
        exact hK _ _ (Below.refl _ _) (by show (_ : Value) = _; first | (rw [hcc]; first | rfl | (simp; done)) | (simp_all; done))
    refine BOk.cons rfl [12] [] rfl rfl (by kernel_rfl) (by kernel_rfl) (fun qK qa wr hB qO qF hK => ?_) ?_
    · have e18 : qa.tmps[18]? = some (.bool ((decide (0 ≤ dst)) && (decide (dst < nr)))) := fis qF.1 rfl rfl
      clear qO qF
      go_simp
      exact hK _ _ (Below.refl _ _) (by first | rfl | (show (_ : Value) = _; simp_all; done))
    exact BOk.nil
  intro vals wr hl hB hR
  match vals, hl with
  | [z1_6, z1_7, z1_8, z1_9, z1_10, z1_11, z1_12, z1_13, z1_14, z1_15, z1_16, z1_17, z1_18, z1_5], _ =>
  have r13 : z1_5 = .bool ((decide (0 ≤ dst)) && (decide (dst < nr))) := hR 13 _ rfl
  subst r13
  clear hR
  simp only [List.cons_append, List.nil_append, putAll, Act.put, List.setIfInBounds_toArray, List.set_cons_zero, List.set_cons_succ]
  rw [HW.out]
  have HK := Lib.hid (HK.out.old hB)
  have KX := Lib.hid (KX.out.old hB)
  have HB := Lib.hid (HB.out.trans (hB.mono HB.out.size))
  have HR := Lib.hid HK.out.rr
  have HS := Lib.hid HK.out.ss
  clear x0 x1 x2 x3 k0 k1 k2 k3 k5 k6 hB
  have x0 : wr.cell? ⟨w.heap.size, 0, none⟩ = some (.int .i64 51) := KX.out.cell 0
  have x1 : wr.cell? ⟨w.heap.size, 1, none⟩ = some (.int .i64 dst) := KX.out.cell 1
  have x2 : wr.cell? ⟨w.heap.size, 2, none⟩ = some (.int .i64 a) := KX.out.cell 2
  have x3 : wr.cell? ⟨w.heap.size, 3, none⟩ = some (.int .i64 b) := KX.out.cell 3
  have k0 : wr.cell? ⟨kk, 0, none⟩ = some (.int .i64 nr) := HK.out.mb.cell 0
  have k1 : wr.cell? ⟨kk, 1, none⟩ = some (.int .i64 ns) := HK.out.mb.cell 1
  have k2 : wr.cell? ⟨kk, 2, none⟩ = some (.slice Ai li.length ci) := HK.out.mb.cell 2
  have k3 : wr.cell? ⟨kk, 3, none⟩ = some (.slice Ak lk.length ck) := HK.out.mb.cell 3
  have k5 : wr.cell? ⟨kk, 5, none⟩ = some (.map (some rm)) := HK.out.mb.cell 5
  have k6 : wr.cell? ⟨kk, 6, none⟩ = some (.map (some sm)) := HK.out.mb.cell 6
  go_wp2_with fail
  refine wp_region_b (by kernel_rfl) (fun qk => (rt5 51 dst a b nr ns Ai Ak Al li.length lk.length ll.length ci ck cl rm sm kk f g wt w).getD qk .any) (by kernel_rfl) ?_ ?_
  · refine BOk.cons rfl [] [5] rfl rfl (by kernel_rfl) (by kernel_rfl) (fun qK qa wr hB qO qF hK => ?_) ?_
    · have e5 : qa.tmps[5]? = some (.bool wt) := qO.1.trans rfl
      clear qO qF
      go_simp
      exact hK _ _ (Below.refl _ _) (by first | rfl | (show (_ : Value) = _; simp_all; done))
    refine BOk.cons rfl [0] [] rfl rfl (by kernel_rfl) (by kernel_rfl) (fun qK qa wr hB qO qF hK => ?_) ?_
    · have e49 : qa.tmps[49]? = some (.bool wt) := fis qF.1 rfl rfl
      clear qO qF
      go_simp
      exact hK _ _ (Below.refl _ _) (by first | rfl | (show (_ : Value) = _; simp_all; done))
    refine BOk.optT rfl [] [3] rfl 1 true rfl rfl rfl rfl (by kernel_rfl) (by kernel_rfl) (by kernel_rfl) (fun hp hc hP qK qa wr hB qO qF hK => ?_) ?_
    · have e3 : qa.tmps[3]? = some (.pointer (some ⟨w.heap.size, 0, none⟩)) := qO.1.trans rfl
      clear qO qF
      go_simp
      exact hK _ _ (Below.refl _ _) rfl
    refine BOk.optT rfl [2] [] rfl 1 true rfl rfl rfl rfl (by kernel_rfl) (by kernel_rfl) (by kernel_rfl) (fun hp hc hP qK qa wr hB qO qF hK => ?_) ?_
    · have e51 : qa.tmps[51]? = some (.pointer (some ⟨w.heap.size, 3, none⟩)) := fif qF.1 rfl hP rfl
      clear qO qF
      have hx3 := (bcell hB _ _ (World.block_lt_of_cell? _ _ x3)).trans x3
      go_simp
      exact hK _ _ (Below.refl _ _) rfl
    refine BOk.optT rfl [3] [] rfl 1 true rfl rfl rfl rfl (by kernel_rfl) (by kernel_rfl) (by kernel_rfl) (fun hp hc hP qK qa wr hB qO qF hK => ?_) ?_
    · have e52 : qa.tmps[52]? = some (.int .i64 b) := fif qF.1 rfl hP rfl
      clear qO qF
      go_simp
      refine hK _ _ (Below.refl _ _) ?_
      show (_ : Value) = _
      first | rfl | (simp; done) | (simp; omega) | (congr 1; simp; done) | (congr 1; rw [decide_eq_decide]; omega)
    refine BOk.cons rfl [1, 4] [] rfl rfl (by kernel_rfl) (by kernel_rfl) (fun qK qa wr hB qO qF hK => ?_) ?_
    · have e50 : qa.tmps[50]? = some (.bool wt) := fis qF.1 rfl rfl
      obtain ⟨u53, e53, r4⟩ := qF.2.1
      have r4 : u53 = (bif (true && (wt == true)) then .bool ((b == 0)) else undef) := r4
      clear qO qF
      rcases (Bool.eq_false_or_eq_true (wt)).symm with hcc | hcc
      · rw [hcc] at e50
        go_simp
        exact hK _ _ (Below.refl _ _) (by show (_ : Value) = _; first | (rw [hcc]; first | rfl | (simp; done)) | (simp_all; done))
      · rw [hcc] at e50
        have e53 : qa.tmps[53]? = some (.bool (((b == 0)))) := (show u53 = .bool (((b == 0))) from r4.trans (by (first | rw [hcc] | skip); first | rfl | (rw [hP]; rfl))) ▸ e53
        go_simp
        exact hK _ _ (Below.refl _ _) (by show (_ : Value) = _; first | (rw [hcc]; first | rfl | (simp; done)) | (simp_all; done))
    refine BOk.cons rfl [5] [] rfl rfl (by kernel_rfl) (by kernel_rfl) (fun qK qa wr hB qO qF hK => ?_) ?_
    · have e54 : qa.tmps[54]? = some (.bool (wt && ((b == 0)))) := fis qF.1 rfl rfl
      clear qO qF
      go_simp
      exact hK _ _ (Below.refl _ _) (by first | rfl | (show (_ : Value) = _; simp_all; done))
    refine BOk.optT rfl [] [3] rfl 6 true rfl rfl rfl rfl (by kernel_rfl) (by kernel_rfl) (by kernel_rfl) (fun hp hc hP qK qa wr hB qO qF hK => ?_) ?_
    · have e3 : qa.tmps[3]? = some (.pointer (some ⟨w.heap.size, 0, none⟩)) := qO.1.trans rfl
      clear qO qF
      go_simp
      exact hK _ _ (Below.refl _ _) rfl
    refine BOk.optT rfl [7] [] rfl 6 true rfl rfl rfl rfl (by kernel_rfl) (by kernel_rfl) (by kernel_rfl) (fun hp hc hP qK qa wr hB qO qF hK => ?_) ?_
    · have e56 : qa.tmps[56]? = some (.pointer (some ⟨w.heap.size, 2, none⟩)) := fif qF.1 rfl hP rfl
      clear qO qF
      have hx2 := (bcell hB _ _ (World.block_lt_of_cell? _ _ x2)).trans x2
      go_simp
      exact hK _ _ (Below.refl _ _) rfl
    refine BOk.optT rfl [8] [] rfl 6 true rfl rfl rfl rfl (by kernel_rfl) (by kernel_rfl) (by kernel_rfl) (fun hp hc hP qK qa wr hB qO qF hK => ?_) ?_
    · have e57 : qa.tmps[57]? = some (.int .i64 a) := fif qF.1 rfl hP rfl
      clear qO qF
      go_simp
      refine hK _ _ (Below.refl _ _) ?_
      show (_ : Value) = _
      first | rfl | (simp; done) | (simp; omega) | (congr 1; simp; done) | (congr 1; rw [decide_eq_decide]; omega)
    refine BOk.cons rfl [6, 9] [] rfl rfl (by kernel_rfl) (by kernel_rfl) (fun qK qa wr hB qO qF hK => ?_) ?_
    · have e55 : qa.tmps[55]? = some (.bool (wt && ((b == 0)))) := fis qF.1 rfl rfl
      obtain ⟨u58, e58, r9⟩ := qF.2.1
      have r9 : u58 = (bif (true && ((wt && ((b == 0))) == true)) then .bool (decide (0 ≤ a)) else undef) := r9
      clear qO qF
      rcases (Bool.eq_false_or_eq_true ((wt && ((b == 0))))).symm with hcc | hcc
      · rw [hcc] at e55
        go_simp
        exact hK _ _ (Below.refl _ _) (by show (_ : Value) = _; first | (rw [hcc]; first | rfl | (simp; done)) | (simp_all; done))
      · rw [hcc] at e55
        have e58 : qa.tmps[58]? = some (.bool ((decide (0 ≤ a)))) := (show u58 = .bool ((decide (0 ≤ a))) from r9.trans (by (first | rw [hcc] | skip); first | rfl | (rw [hP]; rfl))) ▸ e58
        go_simp
        exact hK _ _ (Below.refl _ _) (by show (_ : Value) = _; first | (rw [hcc]; first | rfl | (simp; done)) | (simp_all; done))
    refine BOk.cons rfl [10] [] rfl rfl (by kernel_rfl) (by kernel_rfl) (fun qK qa wr hB qO qF hK => ?_) ?_
    · have e59 : qa.tmps[59]? = some (.bool ((wt && ((b == 0))) && (decide (0 ≤ a)))) := fis qF.1 rfl rfl
      clear qO qF
      go_simp
      exact hK _ _ (Below.refl _ _) (by first | rfl | (show (_ : Value) = _; simp_all; done))
    refine BOk.optT rfl [] [3] rfl 11 true rfl rfl rfl rfl (by kernel_rfl) (by kernel_rfl) (by kernel_rfl) (fun hp hc hP qK qa wr hB qO qF hK => ?_) ?_
    · have e3 : qa.tmps[3]? = some (.pointer (some ⟨w.heap.size, 0, none⟩)) := qO.1.trans rfl
      clear qO qF
      go_simp
      exact hK _ _ (Below.refl _ _) rfl
    refine BOk.optT rfl [12] [] rfl 11 true rfl rfl rfl rfl (by kernel_rfl) (by kernel_rfl) (by kernel_rfl) (fun hp hc hP qK qa wr hB qO qF hK => ?_) ?_
    · have e61 : qa.tmps[61]? = some (.pointer (some ⟨w.heap.size, 2, none⟩)) := fif qF.1 rfl hP rfl
      clear qO qF
      have hx2 := (bcell hB _ _ (World.block_lt_of_cell? _ _ x2)).trans x2
      go_simp
      exact hK _ _ (Below.refl _ _) rfl
    refine BOk.optT rfl [] [0] rfl 11 true rfl rfl rfl rfl (by kernel_rfl) (by kernel_rfl) (by kernel_rfl) (fun hp hc hP qK qa wr hB qO qF hK => ?_) ?_
    · have e0 : qa.tmps[0]? = some (.pointer (some ⟨kk, 0, none⟩)) := qO.1.trans rfl
      clear qO qF
      go_simp
      exact hK _ _ (Below.refl _ _) rfl
    refine BOk.optT rfl [14] [] rfl 11 true rfl rfl rfl rfl (by kernel_rfl) (by kernel_rfl) (by kernel_rfl) (fun hp hc hP qK qa wr hB qO qF hK => ?_) ?_
    · have e63 : qa.tmps[63]? = some (.pointer (some ⟨kk, 0, none⟩)) := fif qF.1 rfl hP rfl
      clear qO qF
      go_simp
      exact hK _ _ (Below.refl _ _) rfl
    refine BOk.optT rfl [15] [] rfl 11 true rfl rfl rfl rfl (by kernel_rfl) (by kernel_rfl) (by kernel_rfl) (fun hp hc hP qK qa wr hB qO qF hK => ?_) ?_
    · have e64 : qa.tmps[64]? = some (.pointer (some ⟨kk, 0, none⟩)) := fif qF.1 rfl hP rfl
      clear qO qF
      go_simp
      exact hK _ _ (Below.refl _ _) rfl
    refine BOk.optT rfl [16] [] rfl 11 true rfl rfl rfl rfl (by kernel_rfl) (by kernel_rfl) (by kernel_rfl) (fun hp hc hP qK qa wr hB qO qF hK => ?_) ?_
    · have e65 : qa.tmps[65]? = some (.pointer (some ⟨kk, 0, none⟩)) := fif qF.1 rfl hP rfl
      clear qO qF
      go_simp
      exact hK _ _ (Below.refl _ _) rfl
    refine BOk.optT rfl [17] [] rfl 11 true rfl rfl rfl rfl (by kernel_rfl) (by kernel_rfl) (by kernel_rfl) (fun hp hc hP qK qa wr hB qO qF hK => ?_) ?_
    · have e66 : qa.tmps[66]? = some (.pointer (some ⟨kk, 3, none⟩)) := fif qF.1 rfl hP rfl
      clear qO qF
      have hk3 := (bcell hB _ _ (World.block_lt_of_cell? _ _ k3)).trans k3
      go_simp
      exact hK _ _ (Below.refl _ _) rfl
    refine BOk.optT rfl [18] [] rfl 11 true rfl rfl rfl rfl (by kernel_rfl) (by kernel_rfl) (by kernel_rfl) (fun hp hc hP qK qa wr hB qO qF hK => ?_) ?_
    · have e67 : qa.tmps[67]? = some (.slice Ak lk.length ck) := fif qF.1 rfl hP rfl
      clear qO qF
      go_simp
      exact hK _ _ (Below.refl _ _) rfl
    refine BOk.optT rfl [13, 19] [] rfl 11 true rfl rfl rfl rfl (by kernel_rfl) (by kernel_rfl) (by kernel_rfl) (fun hp hc hP qK qa wr hB qO qF hK => ?_) ?_
    · have e62 : qa.tmps[62]? = some (.int .i64 a) := fif qF.1 rfl hP rfl
      have e68 : qa.tmps[68]? = some (.int .i64 (lk.length : Nat)) := fif qF.2.1 rfl hP rfl
      clear qO qF
      go_simp
      refine hK _ _ (Below.refl _ _) ?_
      show (_ : Value) = _
      first | rfl | (simp; done) | (simp; omega) | (congr 1; simp; done) | (congr 1; rw [decide_eq_decide]; omega)
    refine BOk.cons rfl [11, 20] [] rfl rfl (by kernel_rfl) (by kernel_rfl) (fun qK qa wr hB qO qF hK => ?_) ?_
    · have e60 : qa.tmps[60]? = some (.bool ((wt && ((b == 0))) && (decide (0 ≤ a)))) := fis qF.1 rfl rfl
      obtain ⟨u69, e69, r20⟩ := qF.2.1
      have r20 : u69 = (bif (true && (((wt && ((b == 0))) && (decide (0 ≤ a))) == true)) then .bool (decide (a < (lk.length : Nat))) else undef) := r20
      clear qO qF
      rcases (Bool.eq_false_or_eq_true (((wt && ((b == 0))) && (decide (0 ≤ a))))).symm with hcc | hcc
      · rw [hcc] at e60
        go_simp
        exact hK _ _ (Below.refl _ _) (by show (_ : Value) = _; first | (rw [hcc]; first | rfl | (simp; done)) | (simp_all; done))
      · rw [hcc] at e60
        have e69 : qa.tmps[69]? = some (.bool ((decide (a < (lk.length : Nat))))) := (show u69 = .bool ((decide (a < (lk.length : Nat)))) from r20.trans (by (first | rw [hcc] | skip); first | rfl | (rw [hP]; rfl))) ▸ e69
        go_simp
        exact hK _ _ (Below.refl _ _) (by show (_ : Value) = _; first | (rw [hcc]; first | rfl | (simp; done)) | (simp_all; done))
    refine BOk.cons rfl [21] [] rfl rfl (by kernel_rfl) (by kernel_rfl) (fun qK qa wr hB qO qF hK => ?_) ?_
    · have e70 : qa.tmps[70]? = some (.bool (((wt && ((b == 0))) && (decide (0 ≤ a))) && (decide (a < (lk.length : Nat))))) := fis qF.1 rfl rfl
      clear qO qF
      go_simp
      exact hK _ _ (Below.refl _ _) (by first | rfl | (show (_ : Value) = _; simp_all; done))
    exact BOk.nil
  intro vals wr hl hB hR
  match vals, hl with
  | [z5_49, z5_50, z5_51, z5_52, z5_53, z5_54, z5_55, z5_56, z5_57, z5_58, z5_59, z5_60, z5_61, z5_62, z5_63, z5_64, z5_65, z5_66, z5_67, z5_68, z5_69, z5_70, z5_4], _ =>
  have r22 : z5_4 = .bool (((wt && ((b == 0))) && (decide (0 ≤ a))) && (decide (a < (lk.length : Nat)))) := hR 22 _ rfl
  subst r22
  clear hR
  simp only [List.cons_append, List.nil_append, putAll, Act.put, List.setIfInBounds_toArray, List.set_cons_zero, List.set_cons_succ]
  go_wp2_with fail
  go_ret
  exact ⟨rfl, HB.out.trans (hB.mono HB.out.size)⟩

set_option maxRecDepth 100000 in
set_option maxHeartbeats 4000000 in
theorem right_53 (dst a b : Int) (ha : I64 a) (hb : I64 b) (B : Nat) (m : ChkV) (cd : CodeV) (k : Nat) (f g : Int → Bool) (w : World) (h : Chk w B m cd k f g) :
    Calls Try.prog 28 #[.pointer (some ⟨m.kk, 0, none⟩), .agg #[.int .i64 53, .int .i64 dst, .int .i64 a, .int .i64 b]] w fun e w' => e = .returned (.bool ((((((dst == 0)) && (decide (0 ≤ a))) && (decide (a < cd.ns))) && (f b)))) ∧ Below w.heap.size w w' := by
  obtain ⟨kk, rm, sm⟩ := m
  obtain ⟨nr, ns, Ai, ci, li, Ak, ck, lk, Al, cl, ll⟩ := cd
  have hb0 : Below w.heap.size w (w.alloc (.cells #[.int .i64 53, .int .i64 dst, .int .i64 a, .int .i64 b] 43)) := (Below.refl _ _).alloc (Nat.le_refl _) _
  have kx := Bk.new w 43 #[.int .i64 53, .int .i64 dst, .int .i64 a, .int .i64 b]
  have hk := h.old hb0
  have x0 := kx.cell 0
  have x1 := kx.cell 1
  have x2 := kx.cell 2
  have x3 := kx.cell 3
  have k0 : (w.alloc (.cells #[.int .i64 53, .int .i64 dst, .int .i64 a, .int .i64 b] 43)).cell? ⟨kk, 0, none⟩ = some (.int .i64 nr) := hk.mb.cell 0
  have k1 : (w.alloc (.cells #[.int .i64 53, .int .i64 dst, .int .i64 a, .int .i64 b] 43)).cell? ⟨kk, 1, none⟩ = some (.int .i64 ns) := hk.mb.cell 1
  have k2 : (w.alloc (.cells #[.int .i64 53, .int .i64 dst, .int .i64 a, .int .i64 b] 43)).cell? ⟨kk, 2, none⟩ = some (.slice Ai li.length ci) := hk.mb.cell 2
  have k3 : (w.alloc (.cells #[.int .i64 53, .int .i64 dst, .int .i64 a, .int .i64 b] 43)).cell? ⟨kk, 3, none⟩ = some (.slice Ak lk.length ck) := hk.mb.cell 3
  have k5 : (w.alloc (.cells #[.int .i64 53, .int .i64 dst, .int .i64 a, .int .i64 b] 43)).cell? ⟨kk, 5, none⟩ = some (.map (some rm)) := hk.mb.cell 5
  have k6 : (w.alloc (.cells #[.int .i64 53, .int .i64 dst, .int .i64 a, .int .i64 b] 43)).cell? ⟨kk, 6, none⟩ = some (.map (some sm)) := hk.mb.cell 6
  have HK := Lib.hid hk
  have KX := Lib.hid kx
  have HR := Lib.hid hk.rr
  have HS := Lib.hid hk.ss
  have HB := Lib.hid hb0
  obtain ⟨wt, hwt⟩ : ∃ wt, (decide (0 ≤ dst) && decide (dst < nr)) = wt := ⟨_, rfl⟩
  show Calls _ _ _ _ fun e w' => e = .returned (.bool ((((((dst == 0)) && (decide (0 ≤ a))) && (decide (a < ns))) && (f b)))) ∧ _
  have HW := Lib.hid hwt
  clear hk h kx hb0 hwt
  go_enter Try.func28, Try.ntmps28
  go_wp2_with fail
  refine wp_region_b (by kernel_rfl) (fun qk => (rt1 53 dst a b nr ns Ai Ak Al li.length lk.length ll.length ci ck cl rm sm kk f g true w).getD qk .any) (by kernel_rfl) ?_ ?_
  · refine BOk.cons rfl [] [3] rfl rfl (by kernel_rfl) (by kernel_rfl) (fun qK qa wr hB qO qF hK => ?_) ?_
    · have e3 : qa.tmps[3]? = some (.pointer (some ⟨w.heap.size, 0, none⟩)) := qO.1.trans rfl
      clear qO qF
      go_simp
      exact hK _ _ (Below.refl _ _) rfl
    refine BOk.cons rfl [0] [] rfl rfl (by kernel_rfl) (by kernel_rfl) (fun qK qa wr hB qO qF hK => ?_) ?_
    · have e6 : qa.tmps[6]? = some (.pointer (some ⟨w.heap.size, 1, none⟩)) := fis qF.1 rfl rfl
      clear qO qF
      have hx1 := (bcell hB _ _ (World.block_lt_of_cell? _ _ x1)).trans x1
      go_simp
      exact hK _ _ (Below.refl _ _) rfl
    refine BOk.cons rfl [1] [] rfl rfl (by kernel_rfl) (by kernel_rfl) (fun qK qa wr hB qO qF hK => ?_) ?_
    · have e7 : qa.tmps[7]? = some (.int .i64 dst) := fis qF.1 rfl rfl
      clear qO qF
      go_simp
      refine hK _ _ (Below.refl _ _) ?_
      show (_ : Value) = _
      first | rfl | (simp; done) | (simp; omega) | (congr 1; simp; done) | (congr 1; rw [decide_eq_decide]; omega)
    refine BOk.cons rfl [2] [] rfl rfl (by kernel_rfl) (by kernel_rfl) (fun qK qa wr hB qO qF hK => ?_) ?_
    · have e8 : qa.tmps[8]? = some (.bool (decide (0 ≤ dst))) := fis qF.1 rfl rfl
      clear qO qF
      go_simp
      exact hK _ _ (Below.refl _ _) (by first | rfl | (show (_ : Value) = _; simp_all; done))
    refine BOk.optT rfl [] [3] rfl 3 true rfl rfl rfl rfl (by kernel_rfl) (by kernel_rfl) (by kernel_rfl) (fun hp hc hP qK qa wr hB qO qF hK => ?_) ?_
    · have e3 : qa.tmps[3]? = some (.pointer (some ⟨w.heap.size, 0, none⟩)) := qO.1.trans rfl
      clear qO qF
      go_simp
      exact hK _ _ (Below.refl _ _) rfl
    refine BOk.optT rfl [4] [] rfl 3 true rfl rfl rfl rfl (by kernel_rfl) (by kernel_rfl) (by kernel_rfl) (fun hp hc hP qK qa wr hB qO qF hK => ?_) ?_
    · have e10 : qa.tmps[10]? = some (.pointer (some ⟨w.heap.size, 1, none⟩)) := fif qF.1 rfl hP rfl
      clear qO qF
      have hx1 := (bcell hB _ _ (World.block_lt_of_cell? _ _ x1)).trans x1
      go_simp
      exact hK _ _ (Below.refl _ _) rfl
    refine BOk.optT rfl [] [0] rfl 3 true rfl rfl rfl rfl (by kernel_rfl) (by kernel_rfl) (by kernel_rfl) (fun hp hc hP qK qa wr hB qO qF hK => ?_) ?_
    · have e0 : qa.tmps[0]? = some (.pointer (some ⟨kk, 0, none⟩)) := qO.1.trans rfl
      clear qO qF
      go_simp
      exact hK _ _ (Below.refl _ _) rfl
    refine BOk.optT rfl [6] [] rfl 3 true rfl rfl rfl rfl (by kernel_rfl) (by kernel_rfl) (by kernel_rfl) (fun hp hc hP qK qa wr hB qO qF hK => ?_) ?_
    · have e12 : qa.tmps[12]? = some (.pointer (some ⟨kk, 0, none⟩)) := fif qF.1 rfl hP rfl
      clear qO qF
      go_simp
      exact hK _ _ (Below.refl _ _) rfl
    refine BOk.optT rfl [7] [] rfl 3 true rfl rfl rfl rfl (by kernel_rfl) (by kernel_rfl) (by kernel_rfl) (fun hp hc hP qK qa wr hB qO qF hK => ?_) ?_
    · have e13 : qa.tmps[13]? = some (.pointer (some ⟨kk, 0, none⟩)) := fif qF.1 rfl hP rfl
      clear qO qF
      go_simp
      exact hK _ _ (Below.refl _ _) rfl
    refine BOk.optT rfl [8] [] rfl 3 true rfl rfl rfl rfl (by kernel_rfl) (by kernel_rfl) (by kernel_rfl) (fun hp hc hP qK qa wr hB qO qF hK => ?_) ?_
    · have e14 : qa.tmps[14]? = some (.pointer (some ⟨kk, 0, none⟩)) := fif qF.1 rfl hP rfl
      clear qO qF
      go_simp
      exact hK _ _ (Below.refl _ _) rfl
    refine BOk.optT rfl [9] [] rfl 3 true rfl rfl rfl rfl (by kernel_rfl) (by kernel_rfl) (by kernel_rfl) (fun hp hc hP qK qa wr hB qO qF hK => ?_) ?_
    · have e15 : qa.tmps[15]? = some (.pointer (some ⟨kk, 0, none⟩)) := fif qF.1 rfl hP rfl
      clear qO qF
      have hk0 := (bcell hB _ _ (World.block_lt_of_cell? _ _ k0)).trans k0
      go_simp
      exact hK _ _ (Below.refl _ _) rfl
    refine BOk.optT rfl [5, 10] [] rfl 3 true rfl rfl rfl rfl (by kernel_rfl) (by kernel_rfl) (by kernel_rfl) (fun hp hc hP qK qa wr hB qO qF hK => ?_) ?_
    · have e11 : qa.tmps[11]? = some (.int .i64 dst) := fif qF.1 rfl hP rfl
      have e16 : qa.tmps[16]? = some (.int .i64 nr) := fif qF.2.1 rfl hP rfl
      clear qO qF
      go_simp
      refine hK _ _ (Below.refl _ _) ?_
      show (_ : Value) = _
      first | rfl | (simp; done) | (simp; omega) | (congr 1; simp; done) | (congr 1; rw [decide_eq_decide]; omega)
    refine BOk.cons rfl [3, 11] [] rfl rfl (by kernel_rfl) (by kernel_rfl) (fun qK qa wr hB qO qF hK => ?_) ?_
    · have e9 : qa.tmps[9]? = some (.bool (decide (0 ≤ dst))) := fis qF.1 rfl rfl
      obtain ⟨u17, e17, r11⟩ := qF.2.1
      have r11 : u17 = (bif (true && ((decide (0 ≤ dst)) == true)) then .bool (decide (dst < nr)) else undef) := r11
      clear qO qF
      rcases (Bool.eq_false_or_eq_true ((decide (0 ≤ dst)))).symm with hcc | hcc
      · rw [hcc] at e9
        go_simp
        exact hK _ _ (Below.refl _ _) (by show (_ : Value) = _; first | (rw [hcc]; first | rfl | (simp; done)) | (simp_all; done))
      · rw [hcc] at e9
        have e17 : qa.tmps[17]? = some (.bool ((decide (dst < nr)))) := (show u17 = .bool ((decide (dst < nr))) from r11.trans (by (first | rw [hcc] | skip); first | rfl | (rw [hP]; rfl))) ▸ e17
        go_simp
        exact hK _ _ (Below.refl _ _) (by show (_ : Value) = _; first | (rw [hcc]; first | rfl | (simp; done)) | (simp_all; done))
    refine BOk.cons rfl [12] [] rfl rfl (by kernel_rfl) (by kernel_rfl) (fun qK qa wr hB qO qF hK => ?_) ?_
    · have e18 : qa.tmps[18]? = some (.bool ((decide (0 ≤ dst)) && (decide (dst < nr)))) := fis qF.1 rfl rfl
      clear qO qF
      go_simp
      exact hK _ _ (Below.refl _ _) (by first | rfl | (show (_ : Value) = _; simp_all; done))
    exact BOk.nil
  intro vals wr hl hB hR
  match vals, hl with
  | [z1_6, z1_7, z1_8, z1_9, z1_10, z1_11, z1_12, z1_13, z1_14, z1_15, z1_16, z1_17, z1_18, z1_5], _ =>
  have r13 : z1_5 = .bool ((decide (0 ≤ dst)) && (decide (dst < nr))) := hR 13 _ rfl
  subst r13
  clear hR
  simp only [List.cons_append, List.nil_append, putAll, Act.put, List.setIfInBounds_toArray, List.set_cons_zero, List.set_cons_succ]
  rw [HW.out]
  have HK := Lib.hid (HK.out.old hB)
  have KX := Lib.hid (KX.out.old hB)
  have HB := Lib.hid (HB.out.trans (hB.mono HB.out.size))
  have HR := Lib.hid HK.out.rr
  have HS := Lib.hid HK.out.ss
  clear x0 x1 x2 x3 k0 k1 k2 k3 k5 k6 hB
  have x0 : wr.cell? ⟨w.heap.size, 0, none⟩ = some (.int .i64 53) := KX.out.cell 0
  have x1 : wr.cell? ⟨w.heap.size, 1, none⟩ = some (.int .i64 dst) := KX.out.cell 1
  have x2 : wr.cell? ⟨w.heap.size, 2, none⟩ = some (.int .i64 a) := KX.out.cell 2
  have x3 : wr.cell? ⟨w.heap.size, 3, none⟩ = some (.int .i64 b) := KX.out.cell 3
  have k0 : wr.cell? ⟨kk, 0, none⟩ = some (.int .i64 nr) := HK.out.mb.cell 0
  have k1 : wr.cell? ⟨kk, 1, none⟩ = some (.int .i64 ns) := HK.out.mb.cell 1
  have k2 : wr.cell? ⟨kk, 2, none⟩ = some (.slice Ai li.length ci) := HK.out.mb.cell 2
  have k3 : wr.cell? ⟨kk, 3, none⟩ = some (.slice Ak lk.length ck) := HK.out.mb.cell 3
  have k5 : wr.cell? ⟨kk, 5, none⟩ = some (.map (some rm)) := HK.out.mb.cell 5
  have k6 : wr.cell? ⟨kk, 6, none⟩ = some (.map (some sm)) := HK.out.mb.cell 6
  go_wp2_with fail
  refine wp_region_b (by kernel_rfl) (fun qk => (rt7 53 dst a b nr ns Ai Ak Al li.length lk.length ll.length ci ck cl rm sm kk f g wt w).getD qk .any) (by kernel_rfl) ?_ ?_
  · refine BOk.cons rfl [] [3] rfl rfl (by kernel_rfl) (by kernel_rfl) (fun qK qa wr hB qO qF hK => ?_) ?_
    · have e3 : qa.tmps[3]? = some (.pointer (some ⟨w.heap.size, 0, none⟩)) := qO.1.trans rfl
      clear qO qF
      go_simp
      exact hK _ _ (Below.refl _ _) rfl
    refine BOk.cons rfl [0] [] rfl rfl (by kernel_rfl) (by kernel_rfl) (fun qK qa wr hB qO qF hK => ?_) ?_
    · have e75 : qa.tmps[75]? = some (.pointer (some ⟨w.heap.size, 1, none⟩)) := fis qF.1 rfl rfl
      clear qO qF
      have hx1 := (bcell hB _ _ (World.block_lt_of_cell? _ _ x1)).trans x1
      go_simp
      exact hK _ _ (Below.refl _ _) rfl
    refine BOk.cons rfl [1] [] rfl rfl (by kernel_rfl) (by kernel_rfl) (fun qK qa wr hB qO qF hK => ?_) ?_
    · have e76 : qa.tmps[76]? = some (.int .i64 dst) := fis qF.1 rfl rfl
      clear qO qF
      go_simp
      refine hK _ _ (Below.refl _ _) ?_
      show (_ : Value) = _
      first | rfl | (simp; done) | (simp; omega) | (congr 1; simp; done) | (congr 1; rw [decide_eq_decide]; omega)
    refine BOk.cons rfl [2] [] rfl rfl (by kernel_rfl) (by kernel_rfl) (fun qK qa wr hB qO qF hK => ?_) ?_
    · have e77 : qa.tmps[77]? = some (.bool ((dst == 0))) := fis qF.1 rfl rfl
      clear qO qF
      go_simp
      exact hK _ _ (Below.refl _ _) (by first | rfl | (show (_ : Value) = _; simp_all; done))
    refine BOk.optT rfl [] [3] rfl 3 true rfl rfl rfl rfl (by kernel_rfl) (by kernel_rfl) (by kernel_rfl) (fun hp hc hP qK qa wr hB qO qF hK => ?_) ?_
    · have e3 : qa.tmps[3]? = some (.pointer (some ⟨w.heap.size, 0, none⟩)) := qO.1.trans rfl
      clear qO qF
      go_simp
      exact hK _ _ (Below.refl _ _) rfl
    refine BOk.optT rfl [4] [] rfl 3 true rfl rfl rfl rfl (by kernel_rfl) (by kernel_rfl) (by kernel_rfl) (fun hp hc hP qK qa wr hB qO qF hK => ?_) ?_
    · have e79 : qa.tmps[79]? = some (.pointer (some ⟨w.heap.size, 2, none⟩)) := fif qF.1 rfl hP rfl
      clear qO qF
      have hx2 := (bcell hB _ _ (World.block_lt_of_cell? _ _ x2)).trans x2
      go_simp
      exact hK _ _ (Below.refl _ _) rfl
    refine BOk.optT rfl [5] [] rfl 3 true rfl rfl rfl rfl (by kernel_rfl) (by kernel_rfl) (by kernel_rfl) (fun hp hc hP qK qa wr hB qO qF hK => ?_) ?_
    · have e80 : qa.tmps[80]? = some (.int .i64 a) := fif qF.1 rfl hP rfl
      clear qO qF
      go_simp
      refine hK _ _ (Below.refl _ _) ?_
      show (_ : Value) = _
      first | rfl | (simp; done) | (simp; omega) | (congr 1; simp; done) | (congr 1; rw [decide_eq_decide]; omega)
    refine BOk.cons rfl [3, 6] [] rfl rfl (by kernel_rfl) (by kernel_rfl) (fun qK qa wr hB qO qF hK => ?_) ?_
    · have e78 : qa.tmps[78]? = some (.bool ((dst == 0))) := fis qF.1 rfl rfl
      obtain ⟨u81, e81, r6⟩ := qF.2.1
      have r6 : u81 = (bif (true && (((dst == 0)) == true)) then .bool (decide (0 ≤ a)) else undef) := r6
      clear qO qF
      rcases (Bool.eq_false_or_eq_true (((dst == 0)))).symm with hcc | hcc
      · rw [hcc] at e78
        go_simp
        exact hK _ _ (Below.refl _ _) (by show (_ : Value) = _; first | (rw [hcc]; first | rfl | (simp; done)) | (simp_all; done))
      · rw [hcc] at e78
        have e81 : qa.tmps[81]? = some (.bool ((decide (0 ≤ a)))) := (show u81 = .bool ((decide (0 ≤ a))) from r6.trans (by (first | rw [hcc] | skip); first | rfl | (rw [hP]; rfl))) ▸ e81
        go_simp
        exact hK _ _ (Below.refl _ _) (by show (_ : Value) = _; first | (rw [hcc]; first | rfl | (simp; done)) | (simp_all; done))
    refine BOk.cons rfl [7] [] rfl rfl (by kernel_rfl) (by kernel_rfl) (fun qK qa wr hB qO qF hK => ?_) ?_
    · have e82 : qa.tmps[82]? = some (.bool (((dst == 0)) && (decide (0 ≤ a)))) := fis qF.1 rfl rfl
      clear qO qF
      go_simp
      exact hK _ _ (Below.refl _ _) (by first | rfl | (show (_ : Value) = _; simp_all; done))
    refine BOk.optT rfl [] [3] rfl 8 true rfl rfl rfl rfl (by kernel_rfl) (by kernel_rfl) (by kernel_rfl) (fun hp hc hP qK qa wr hB qO qF hK => ?_) ?_
    · have e3 : qa.tmps[3]? = some (.pointer (some ⟨w.heap.size, 0, none⟩)) := qO.1.trans rfl
      clear qO qF
      go_simp
      exact hK _ _ (Below.refl _ _) rfl
    refine BOk.optT rfl [9] [] rfl 8 true rfl rfl rfl rfl (by kernel_rfl) (by kernel_rfl) (by kernel_rfl) (fun hp hc hP qK qa wr hB qO qF hK => ?_) ?_
    · have e84 : qa.tmps[84]? = some (.pointer (some ⟨w.heap.size, 2, none⟩)) := fif qF.1 rfl hP rfl
      clear qO qF
      have hx2 := (bcell hB _ _ (World.block_lt_of_cell? _ _ x2)).trans x2
      go_simp
      exact hK _ _ (Below.refl _ _) rfl
    refine BOk.optT rfl [] [0] rfl 8 true rfl rfl rfl rfl (by kernel_rfl) (by kernel_rfl) (by kernel_rfl) (fun hp hc hP qK qa wr hB qO qF hK => ?_) ?_
    · have e0 : qa.tmps[0]? = some (.pointer (some ⟨kk, 0, none⟩)) := qO.1.trans rfl
      clear qO qF
      go_simp
      exact hK _ _ (Below.refl _ _) rfl
    refine BOk.optT rfl [11] [] rfl 8 true rfl rfl rfl rfl (by kernel_rfl) (by kernel_rfl) (by kernel_rfl) (fun hp hc hP qK qa wr hB qO qF hK => ?_) ?_
    · have e86 : qa.tmps[86]? = some (.pointer (some ⟨kk, 0, none⟩)) := fif qF.1 rfl hP rfl
      clear qO qF
      go_simp
      exact hK _ _ (Below.refl _ _) rfl
    refine BOk.optT rfl [12] [] rfl 8 true rfl rfl rfl rfl (by kernel_rfl) (by kernel_rfl) (by kernel_rfl) (fun hp hc hP qK qa wr hB qO qF hK => ?_) ?_
    · have e87 : qa.tmps[87]? = some (.pointer (some ⟨kk, 0, none⟩)) := fif qF.1 rfl hP rfl
      clear qO qF
      go_simp
      exact hK _ _ (Below.refl _ _) rfl
    refine BOk.optT rfl [13] [] rfl 8 true rfl rfl rfl rfl (by kernel_rfl) (by kernel_rfl) (by kernel_rfl) (fun hp hc hP qK qa wr hB qO qF hK => ?_) ?_
    · have e88 : qa.tmps[88]? = some (.pointer (some ⟨kk, 0, none⟩)) := fif qF.1 rfl hP rfl
      clear qO qF
      go_simp
      exact hK _ _ (Below.refl _ _) rfl
    refine BOk.optT rfl [14] [] rfl 8 true rfl rfl rfl rfl (by kernel_rfl) (by kernel_rfl) (by kernel_rfl) (fun hp hc hP qK qa wr hB qO qF hK => ?_) ?_
    · have e89 : qa.tmps[89]? = some (.pointer (some ⟨kk, 1, none⟩)) := fif qF.1 rfl hP rfl
      clear qO qF
      have hk1 := (bcell hB _ _ (World.block_lt_of_cell? _ _ k1)).trans k1
      go_simp
      exact hK _ _ (Below.refl _ _) rfl
    refine BOk.optT rfl [10, 15] [] rfl 8 true rfl rfl rfl rfl (by kernel_rfl) (by kernel_rfl) (by kernel_rfl) (fun hp hc hP qK qa wr hB qO qF hK => ?_) ?_
    · have e85 : qa.tmps[85]? = some (.int .i64 a) := fif qF.1 rfl hP rfl
      have e90 : qa.tmps[90]? = some (.int .i64 ns) := fif qF.2.1 rfl hP rfl
      clear qO qF
      go_simp
      refine hK _ _ (Below.refl _ _) ?_
      show (_ : Value) = _
      first | rfl | (simp; done) | (simp; omega) | (congr 1; simp; done) | (congr 1; rw [decide_eq_decide]; omega)
    refine BOk.cons rfl [8, 16] [] rfl rfl (by kernel_rfl) (by kernel_rfl) (fun qK qa wr hB qO qF hK => ?_) ?_
    · have e83 : qa.tmps[83]? = some (.bool (((dst == 0)) && (decide (0 ≤ a)))) := fis qF.1 rfl rfl
      obtain ⟨u91, e91, r16⟩ := qF.2.1
      have r16 : u91 = (bif (true && ((((dst == 0)) && (decide (0 ≤ a))) == true)) then .bool (decide (a < ns)) else undef) := r16
      clear qO qF
      rcases (Bool.eq_false_or_eq_true ((((dst == 0)) && (decide (0 ≤ a))))).symm with hcc | hcc
      · rw [hcc] at e83
        go_simp
        exact hK _ _ (Below.refl _ _) (by show (_ : Value) = _; first | (rw [hcc]; first | rfl | (simp; done)) | (simp_all; done))
      · rw [hcc] at e83
        have e91 : qa.tmps[91]? = some (.bool ((decide (a < ns)))) := (show u91 = .bool ((decide (a < ns))) from r16.trans (by (first | rw [hcc] | skip); first | rfl | (rw [hP]; rfl))) ▸ e91
        go_simp
        exact hK _ _ (Below.refl _ _) (by show (_ : Value) = _; first | (rw [hcc]; first | rfl | (simp; done)) | (simp_all; done))
    refine BOk.cons rfl [17] [] rfl rfl (by kernel_rfl) (by kernel_rfl) (fun qK qa wr hB qO qF hK => ?_) ?_
    · have e92 : qa.tmps[92]? = some (.bool ((((dst == 0)) && (decide (0 ≤ a))) && (decide (a < ns)))) := fis qF.1 rfl rfl
      clear qO qF
      go_simp
      exact hK _ _ (Below.refl _ _) (by first | rfl | (show (_ : Value) = _; simp_all; done))
    refine BOk.optT rfl [] [0] rfl 18 true rfl rfl rfl rfl (by kernel_rfl) (by kernel_rfl) (by kernel_rfl) (fun hp hc hP qK qa wr hB qO qF hK => ?_) ?_
    · have e0 : qa.tmps[0]? = some (.pointer (some ⟨kk, 0, none⟩)) := qO.1.trans rfl
      clear qO qF
      go_simp
      exact hK _ _ (Below.refl _ _) rfl
    refine BOk.optT rfl [19] [] rfl 18 true rfl rfl rfl rfl (by kernel_rfl) (by kernel_rfl) (by kernel_rfl) (fun hp hc hP qK qa wr hB qO qF hK => ?_) ?_
    · have e94 : qa.tmps[94]? = some (.pointer (some ⟨kk, 0, none⟩)) := fif qF.1 rfl hP rfl
      clear qO qF
      go_simp
      exact hK _ _ (Below.refl _ _) rfl
    refine BOk.optT rfl [20] [] rfl 18 true rfl rfl rfl rfl (by kernel_rfl) (by kernel_rfl) (by kernel_rfl) (fun hp hc hP qK qa wr hB qO qF hK => ?_) ?_
    · have e95 : qa.tmps[95]? = some (.pointer (some ⟨kk, 0, none⟩)) := fif qF.1 rfl hP rfl
      clear qO qF
      go_simp
      exact hK _ _ (Below.refl _ _) rfl
    refine BOk.optT rfl [21] [] rfl 18 true rfl rfl rfl rfl (by kernel_rfl) (by kernel_rfl) (by kernel_rfl) (fun hp hc hP qK qa wr hB qO qF hK => ?_) ?_
    · have e96 : qa.tmps[96]? = some (.pointer (some ⟨kk, 5, none⟩)) := fif qF.1 rfl hP rfl
      clear qO qF
      have hk5 := (bcell hB _ _ (World.block_lt_of_cell? _ _ k5)).trans k5
      go_simp
      exact hK _ _ (Below.refl _ _) rfl
    refine BOk.optT rfl [] [3] rfl 18 true rfl rfl rfl rfl (by kernel_rfl) (by kernel_rfl) (by kernel_rfl) (fun hp hc hP qK qa wr hB qO qF hK => ?_) ?_
    · have e3 : qa.tmps[3]? = some (.pointer (some ⟨w.heap.size, 0, none⟩)) := qO.1.trans rfl
      clear qO qF
      go_simp
      exact hK _ _ (Below.refl _ _) rfl
    refine BOk.optT rfl [23] [] rfl 18 true rfl rfl rfl rfl (by kernel_rfl) (by kernel_rfl) (by kernel_rfl) (fun hp hc hP qK qa wr hB qO qF hK => ?_) ?_
    · have e98 : qa.tmps[98]? = some (.pointer (some ⟨w.heap.size, 3, none⟩)) := fif qF.1 rfl hP rfl
      clear qO qF
      have hx3 := (bcell hB _ _ (World.block_lt_of_cell? _ _ x3)).trans x3
      go_simp
      exact hK _ _ (Below.refl _ _) rfl
    refine BOk.optT rfl [22, 24] [] rfl 18 true rfl rfl rfl rfl (by kernel_rfl) (by kernel_rfl) (by kernel_rfl) (fun hp hc hP qK qa wr hB qO qF hK => ?_) ?_
    · have e97 : qa.tmps[97]? = some (.map (some rm)) := fif qF.1 rfl hP rfl
      have e99 : qa.tmps[99]? = some (.int .i64 b) := fif qF.2.1 rfl hP rfl
      clear qO qF
      refine wp_lookB (.tmp 97) (.tmp 99) rfl (act_evalG e97) (HR.out.old hB) hb (act_evalG e99) ?_
      exact hK _ _ (Below.refl _ _) rfl
    refine BOk.cons rfl [18, 25] [] rfl rfl (by kernel_rfl) (by kernel_rfl) (fun qK qa wr hB qO qF hK => ?_) ?_
    · have e93 : qa.tmps[93]? = some (.bool ((((dst == 0)) && (decide (0 ≤ a))) && (decide (a < ns)))) := fis qF.1 rfl rfl
      obtain ⟨u100, e100, r25⟩ := qF.2.1
      have r25 : u100 = (bif (true && (((((dst == 0)) && (decide (0 ≤ a))) && (decide (a < ns))) == true)) then .bool (f b) else undef) := r25
      clear qO qF
      rcases (Bool.eq_false_or_eq_true (((((dst == 0)) && (decide (0 ≤ a))) && (decide (a < ns))))).symm with hcc | hcc
      · rw [hcc] at e93
        go_simp
        exact hK _ _ (Below.refl _ _) (by show (_ : Value) = _; first | (rw [hcc]; first | rfl | (simp; done)) | (simp_all; done))
      · rw [hcc] at e93
        have e100 : qa.tmps[100]? = some (.bool ((f b))) := (show u100 = .bool ((f b)) from r25.trans (by (first | rw [hcc] | skip); first | rfl | (rw [hP]; rfl))) ▸ e100
        go_simp
        exact hK _ _ (Below.refl _ _) (by show (_ : Value) = _; first | (rw [hcc]; first | rfl | (simp; done)) | (simp_all; done))
    refine BOk.cons rfl [26] [] rfl rfl (by kernel_rfl) (by kernel_rfl) (fun qK qa wr hB qO qF hK => ?_) ?_
    · have e101 : qa.tmps[101]? = some (.bool (((((dst == 0)) && (decide (0 ≤ a))) && (decide (a < ns))) && (f b))) := fis qF.1 rfl rfl
      clear qO qF
      go_simp
      exact hK _ _ (Below.refl _ _) (by first | rfl | (show (_ : Value) = _; simp_all; done))
    exact BOk.nil
  intro vals wr hl hB hR
  match vals, hl with
  | [z7_75, z7_76, z7_77, z7_78, z7_79, z7_80, z7_81, z7_82, z7_83, z7_84, z7_85, z7_86, z7_87, z7_88, z7_89, z7_90, z7_91, z7_92, z7_93, z7_94, z7_95, z7_96, z7_97, z7_98, z7_99, z7_100, z7_101, z7_4], _ =>
  have r27 : z7_4 = .bool (((((dst == 0)) && (decide (0 ≤ a))) && (decide (a < ns))) && (f b)) := hR 27 _ rfl
  subst r27
  clear hR
  simp only [List.cons_append, List.nil_append, putAll, Act.put, List.setIfInBounds_toArray, List.set_cons_zero, List.set_cons_succ]
  go_wp2_with fail
  go_ret
  exact ⟨rfl, HB.out.trans (hB.mono HB.out.size)⟩

set_option maxRecDepth 100000 in
set_option maxHeartbeats 4000000 in
theorem right_54 (dst a b : Int) (ha : I64 a) (hb : I64 b) (B : Nat) (m : ChkV) (cd : CodeV) (k : Nat) (f g : Int → Bool) (w : World) (h : Chk w B m cd k f g) :
    Calls Try.prog 28 #[.pointer (some ⟨m.kk, 0, none⟩), .agg #[.int .i64 54, .int .i64 dst, .int .i64 a, .int .i64 b]] w fun e w' => e = .returned (.bool ((((decide (0 ≤ dst) && decide (dst < cd.nr)) && ((b == 0))) && (g a)))) ∧ Below w.heap.size w w' := by
  obtain ⟨kk, rm, sm⟩ := m
  obtain ⟨nr, ns, Ai, ci, li, Ak, ck, lk, Al, cl, ll⟩ := cd
  have hb0 : Below w.heap.size w (w.alloc (.cells #[.int .i64 54, .int .i64 dst, .int .i64 a, .int .i64 b] 43)) := (Below.refl _ _).alloc (Nat.le_refl _) _
  have kx := Bk.new w 43 #[.int .i64 54, .int .i64 dst, .int .i64 a, .int .i64 b]
  have hk := h.old hb0
  have x0 := kx.cell 0
  have x1 := kx.cell 1
  have x2 := kx.cell 2
  have x3 := kx.cell 3
  have k0 : (w.alloc (.cells #[.int .i64 54, .int .i64 dst, .int .i64 a, .int .i64 b] 43)).cell? ⟨kk, 0, none⟩ = some (.int .i64 nr) := hk.mb.cell 0
  have k1 : (w.alloc (.cells #[.int .i64 54, .int .i64 dst, .int .i64 a, .int .i64 b] 43)).cell? ⟨kk, 1, none⟩ = some (.int .i64 ns) := hk.mb.cell 1
  have k2 : (w.alloc (.cells #[.int .i64 54, .int .i64 dst, .int .i64 a, .int .i64 b] 43)).cell? ⟨kk, 2, none⟩ = some (.slice Ai li.length ci) := hk.mb.cell 2
  have k3 : (w.alloc (.cells #[.int .i64 54, .int .i64 dst, .int .i64 a, .int .i64 b] 43)).cell? ⟨kk, 3, none⟩ = some (.slice Ak lk.length ck) := hk.mb.cell 3
  have k5 : (w.alloc (.cells #[.int .i64 54, .int .i64 dst, .int .i64 a, .int .i64 b] 43)).cell? ⟨kk, 5, none⟩ = some (.map (some rm)) := hk.mb.cell 5
  have k6 : (w.alloc (.cells #[.int .i64 54, .int .i64 dst, .int .i64 a, .int .i64 b] 43)).cell? ⟨kk, 6, none⟩ = some (.map (some sm)) := hk.mb.cell 6
  have HK := Lib.hid hk
  have KX := Lib.hid kx
  have HR := Lib.hid hk.rr
  have HS := Lib.hid hk.ss
  have HB := Lib.hid hb0
  obtain ⟨wt, hwt⟩ : ∃ wt, (decide (0 ≤ dst) && decide (dst < nr)) = wt := ⟨_, rfl⟩
  show Calls _ _ _ _ fun e w' => e = .returned (.bool ((((decide (0 ≤ dst) && decide (dst < nr)) && ((b == 0))) && (g a)))) ∧ _
  rw [hwt]
  have HW := Lib.hid hwt
  clear hk h kx hb0 hwt
  go_enter Try.func28, Try.ntmps28
  go_wp2_with fail
  refine wp_region_b (by kernel_rfl) (fun qk => (rt1 54 dst a b nr ns Ai Ak Al li.length lk.length ll.length ci ck cl rm sm kk f g true w).getD qk .any) (by kernel_rfl) ?_ ?_
  · refine BOk.cons rfl [] [3] rfl rfl (by kernel_rfl) (by kernel_rfl) (fun qK qa wr hB qO qF hK => ?_) ?_
    · have e3 : qa.tmps[3]? = some (.pointer (some ⟨w.heap.size, 0, none⟩)) := qO.1.trans rfl
      clear qO qF
      go_simp
      exact hK _ _ (Below.refl _ _) rfl
    refine BOk.cons rfl [0] [] rfl rfl (by kernel_rfl) (by kernel_rfl) (fun qK qa wr hB qO qF hK => ?_) ?_
    · have e6 : qa.tmps[6]? = some (.pointer (some ⟨w.heap.size, 1, none⟩)) := fis qF.1 rfl rfl
      clear qO qF
      have hx1 := (bcell hB _ _ (World.block_lt_of_cell? _ _ x1)).trans x1
      go_simp
      exact hK _ _ (Below.refl _ _) rfl
    refine BOk.cons rfl [1] [] rfl rfl (by kernel_rfl) (by kernel_rfl) (fun qK qa wr hB qO qF hK => ?_) ?_
    · have e7 : qa.tmps[7]? = some (.int .i64 dst) := fis qF.1 rfl rfl
      clear qO qF
      go_simp
      refine hK _ _ (Below.refl _ _) ?_
      show (_ : Value) = _
      first | rfl | (simp; done) | (simp; omega) | (congr 1; simp; done) | (congr 1; rw [decide_eq_decide]; omega)
    refine BOk.cons rfl [2] [] rfl rfl (by kernel_rfl) (by kernel_rfl) (fun qK qa wr hB qO qF hK => ?_) ?_
    · have e8 : qa.tmps[8]? = some (.bool (decide (0 ≤ dst))) := fis qF.1 rfl rfl
      clear qO qF
      go_simp
      exact hK _ _ (Below.refl _ _) (by first | rfl | (show (_ : Value) = _; simp_all; done))
    refine BOk.optT rfl [] [3] rfl 3 true rfl rfl rfl rfl (by kernel_rfl) (by kernel_rfl) (by kernel_rfl) (fun hp hc hP qK qa wr hB qO qF hK => ?_) ?_
    · have e3 : qa.tmps[3]? = some (.pointer (some ⟨w.heap.size, 0, none⟩)) := qO.1.trans rfl
      clear qO qF
      go_simp
      exact hK _ _ (Below.refl _ _) rfl
    refine BOk.optT rfl [4] [] rfl 3 true rfl rfl rfl rfl (by kernel_rfl) (by kernel_rfl) (by kernel_rfl) (fun hp hc hP qK qa wr hB qO qF hK => ?_) ?_
    · have e10 : qa.tmps[10]? = some (.pointer (some ⟨w.heap.size, 1, none⟩)) := fif qF.1 rfl hP rfl
      clear qO qF
      have hx1 := (bcell hB _ _ (World.block_lt_of_cell? _ _ x1)).trans x1
      go_simp
      exact hK _ _ (Below.refl _ _) rfl
    refine BOk.optT rfl [] [0] rfl 3 true rfl rfl rfl rfl (by kernel_rfl) (by kernel_rfl) (by kernel_rfl) (fun hp hc hP qK qa wr hB qO qF hK => ?_) ?_
    · have e0 : qa.tmps[0]? = some (.pointer (some ⟨kk, 0, none⟩)) := qO.1.trans rfl
      clear qO qF
      go_simp
      exact hK _ _ (Below.refl _ _) rfl
    refine BOk.optT rfl [6] [] rfl 3 true rfl rfl rfl rfl (by kernel_rfl) (by kernel_rfl) (by kernel_rfl) (fun hp hc hP qK qa wr hB qO qF hK => ?_) ?_
    · have e12 : qa.tmps[12]? = some (.pointer (some ⟨kk, 0, none⟩)) := fif qF.1 rfl hP rfl
      clear qO qF
      go_simp
      exact hK _ _ (Below.refl _ _) rfl
    refine BOk.optT rfl [7] [] rfl 3 true rfl rfl rfl rfl (by kernel_rfl) (by kernel_rfl) (by kernel_rfl) (fun hp hc hP qK qa wr hB qO qF hK => ?_) ?_
    · have e13 : qa.tmps[13]? = some (.pointer (some ⟨kk, 0, none⟩)) := fif qF.1 rfl hP rfl
      clear qO qF
      go_simp
      exact hK _ _ (Below.refl _ _) rfl
    refine BOk.optT rfl [8] [] rfl 3 true rfl rfl rfl rfl (by kernel_rfl) (by kernel_rfl) (by kernel_rfl) (fun hp hc hP qK qa wr hB qO qF hK => ?_) ?_
    · have e14 : qa.tmps[14]? = some (.pointer (some ⟨kk, 0, none⟩)) := fif qF.1 rfl hP rfl
      clear qO qF
      go_simp
      exact hK _ _ (Below.refl _ _) rfl
    refine BOk.optT rfl [9] [] rfl 3 true rfl rfl rfl rfl (by kernel_rfl) (by kernel_rfl) (by kernel_rfl) (fun hp hc hP qK qa wr hB qO qF hK => ?_) ?_
    · have e15 : qa.tmps[15]? = some (.pointer (some ⟨kk, 0, none⟩)) := fif qF.1 rfl hP rfl
      clear qO qF
      have hk0 := (bcell hB _ _ (World.block_lt_of_cell? _ _ k0)).trans k0
      go_simp
      exact hK _ _ (Below.refl _ _) rfl
    refine BOk.optT rfl [5, 10] [] rfl 3 true rfl rfl rfl rfl (by kernel_rfl) (by kernel_rfl) (by kernel_rfl) (fun hp hc hP qK qa wr hB qO qF hK => ?_) ?_
    · have e11 : qa.tmps[11]? = some (.int .i64 dst) := fif qF.1 rfl hP rfl
      have e16 : qa.tmps[16]? = some (.int .i64 nr) := fif qF.2.1 rfl hP rfl
      clear qO qF
      go_simp
      refine hK _ _ (Below.refl _ _) ?_
      show (_ : Value) = _
      first | rfl | (simp; done) | (simp; omega) | (congr 1; simp; done) | (congr 1; rw [decide_eq_decide]; omega)
    refine BOk.cons rfl [3, 11] [] rfl rfl (by kernel_rfl) (by kernel_rfl) (fun qK qa wr hB qO qF hK => ?_) ?_
    · have e9 : qa.tmps[9]? = some (.bool (decide (0 ≤ dst))) := fis qF.1 rfl rfl
      obtain ⟨u17, e17, r11⟩ := qF.2.1
      have r11 : u17 = (bif (true && ((decide (0 ≤ dst)) == true)) then .bool (decide (dst < nr)) else undef) := r11
      clear qO qF
      rcases (Bool.eq_false_or_eq_true ((decide (0 ≤ dst)))).symm with hcc | hcc
      · rw [hcc] at e9
        go_simp
        exact hK _ _ (Below.refl _ _) (by show (_ : Value) = _; first | (rw [hcc]; first | rfl | (simp; done)) | (simp_all; done))
      · rw [hcc] at e9
        have e17 : qa.tmps[17]? = some (.bool ((decide (dst < nr)))) := (show u17 = .bool ((decide (dst < nr))) from r11.trans (by (first | rw [hcc] | skip); first | rfl | (rw [hP]; rfl))) ▸ e17
        go_simp
        exact hK _ _ (Below.refl _ _) (by show (_ : Value) = _; first | (rw [hcc]; first | rfl | (simp; done)) | (simp_all; done))
    refine BOk.cons rfl [12] [] rfl rfl (by kernel_rfl) (by kernel_rfl) (fun qK qa wr hB qO qF hK => ?_) ?_
    · have e18 : qa.tmps[18]? = some (.bool ((decide (0 ≤ dst)) && (decide (dst < nr)))) := fis qF.1 rfl rfl
      clear qO qF
      go_simp
      exact hK _ _ (Below.refl _ _) (by first | rfl | (show (_ : Value) = _; simp_all; done))
    exact BOk.nil
  intro vals wr hl hB hR
  match vals, hl with
  | [z1_6, z1_7, z1_8, z1_9, z1_10, z1_11, z1_12, z1_13, z1_14, z1_15, z1_16, z1_17, z1_18, z1_5], _ =>
  have r13 : z1_5 = .bool ((decide (0 ≤ dst)) && (decide (dst < nr))) := hR 13 _ rfl
  subst r13
  clear hR
  simp only [List.cons_append, List.nil_append, putAll, Act.put, List.setIfInBounds_toArray, List.set_cons_zero, List.set_cons_succ]
  rw [HW.out]
  have HK := Lib.hid (HK.out.old hB)
  have KX := Lib.hid (KX.out.old hB)
  have HB := Lib.hid (HB.out.trans (hB.mono HB.out.size))
  have HR := Lib.hid HK.out.rr
  have HS := Lib.hid HK.out.ss
  clear x0 x1 x2 x3 k0 k1 k2 k3 k5 k6 hB
  have x0 : wr.cell? ⟨w.heap.size, 0, none⟩ = some (.int .i64 54) := KX.out.cell 0
  have x1 : wr.cell? ⟨w.heap.size, 1, none⟩ = some (.int .i64 dst) := KX.out.cell 1
  have x2 : wr.cell? ⟨w.heap.size, 2, none⟩ = some (.int .i64 a) := KX.out.cell 2
  have x3 : wr.cell? ⟨w.heap.size, 3, none⟩ = some (.int .i64 b) := KX.out.cell 3
  have k0 : wr.cell? ⟨kk, 0, none⟩ = some (.int .i64 nr) := HK.out.mb.cell 0
  have k1 : wr.cell? ⟨kk, 1, none⟩ = some (.int .i64 ns) := HK.out.mb.cell 1
  have k2 : wr.cell? ⟨kk, 2, none⟩ = some (.slice Ai li.length ci) := HK.out.mb.cell 2
  have k3 : wr.cell? ⟨kk, 3, none⟩ = some (.slice Ak lk.length ck) := HK.out.mb.cell 3
  have k5 : wr.cell? ⟨kk, 5, none⟩ = some (.map (some rm)) := HK.out.mb.cell 5
  have k6 : wr.cell? ⟨kk, 6, none⟩ = some (.map (some sm)) := HK.out.mb.cell 6
  go_wp2_with fail
  refine wp_region_b (by kernel_rfl) (fun qk => (rt9 54 dst a b nr ns Ai Ak Al li.length lk.length ll.length ci ck cl rm sm kk f g wt w).getD qk .any) (by kernel_rfl) ?_ ?_
  · refine BOk.cons rfl [] [5] rfl rfl (by kernel_rfl) (by kernel_rfl) (fun qK qa wr hB qO qF hK => ?_) ?_
    · have e5 : qa.tmps[5]? = some (.bool wt) := qO.1.trans rfl
      clear qO qF
      go_simp
      exact hK _ _ (Below.refl _ _) (by first | rfl | (show (_ : Value) = _; simp_all; done))
    refine BOk.cons rfl [0] [] rfl rfl (by kernel_rfl) (by kernel_rfl) (fun qK qa wr hB qO qF hK => ?_) ?_
    · have e106 : qa.tmps[106]? = some (.bool wt) := fis qF.1 rfl rfl
      clear qO qF
      go_simp
      exact hK _ _ (Below.refl _ _) (by first | rfl | (show (_ : Value) = _; simp_all; done))
    refine BOk.optT rfl [] [3] rfl 1 true rfl rfl rfl rfl (by kernel_rfl) (by kernel_rfl) (by kernel_rfl) (fun hp hc hP qK qa wr hB qO qF hK => ?_) ?_
    · have e3 : qa.tmps[3]? = some (.pointer (some ⟨w.heap.size, 0, none⟩)) := qO.1.trans rfl
      clear qO qF
      go_simp
      exact hK _ _ (Below.refl _ _) rfl
    refine BOk.optT rfl [2] [] rfl 1 true rfl rfl rfl rfl (by kernel_rfl) (by kernel_rfl) (by kernel_rfl) (fun hp hc hP qK qa wr hB qO qF hK => ?_) ?_
    · have e108 : qa.tmps[108]? = some (.pointer (some ⟨w.heap.size, 3, none⟩)) := fif qF.1 rfl hP rfl
      clear qO qF
      have hx3 := (bcell hB _ _ (World.block_lt_of_cell? _ _ x3)).trans x3
      go_simp
      exact hK _ _ (Below.refl _ _) rfl
    refine BOk.optT rfl [3] [] rfl 1 true rfl rfl rfl rfl (by kernel_rfl) (by kernel_rfl) (by kernel_rfl) (fun hp hc hP qK qa wr hB qO qF hK => ?_) ?_
    · have e109 : qa.tmps[109]? = some (.int .i64 b) := fif qF.1 rfl hP rfl
      clear qO qF
      go_simp
      refine hK _ _ (Below.refl _ _) ?_
      show (_ : Value) = _
      first | rfl | (simp; done) | (simp; omega) | (congr 1; simp; done) | (congr 1; rw [decide_eq_decide]; omega)
    refine BOk.cons rfl [1, 4] [] rfl rfl (by kernel_rfl) (by kernel_rfl) (fun qK qa wr hB qO qF hK => ?_) ?_
    · have e107 : qa.tmps[107]? = some (.bool wt) := fis qF.1 rfl rfl
      obtain ⟨u110, e110, r4⟩ := qF.2.1
      have r4 : u110 = (bif (true && (wt == true)) then .bool ((b == 0)) else undef) := r4
      clear qO qF
      rcases (Bool.eq_false_or_eq_true (wt)).symm with hcc | hcc
      · rw [hcc] at e107
        go_simp
        exact hK _ _ (Below.refl _ _) (by show (_ : Value) = _; first | (rw [hcc]; first | rfl | (simp; done)) | (simp_all; done))
      · rw [hcc] at e107
        have e110 : qa.tmps[110]? = some (.bool (((b == 0)))) := (show u110 = .bool (((b == 0))) from r4.trans (by (first | rw [hcc] | skip); first | rfl | (rw [hP]; rfl))) ▸ e110
        go_simp
        exact hK _ _ (Below.refl _ _) (by show (_ : Value) = _; first | (rw [hcc]; first | rfl | (simp; done)) | (simp_all; done))
    refine BOk.cons rfl [5] [] rfl rfl (by kernel_rfl) (by kernel_rfl) (fun qK qa wr hB qO qF hK => ?_) ?_
    · have e111 : qa.tmps[111]? = some (.bool (wt && ((b == 0)))) := fis qF.1 rfl rfl
      clear qO qF
      go_simp
      exact hK _ _ (Below.refl _ _) (by first | rfl | (show (_ : Value) = _; simp_all; done))
    refine BOk.optT rfl [] [0] rfl 6 true rfl rfl rfl rfl (by kernel_rfl) (by kernel_rfl) (by kernel_rfl) (fun hp hc hP qK qa wr hB qO qF hK => ?_) ?_
    · have e0 : qa.tmps[0]? = some (.pointer (some ⟨kk, 0, none⟩)) := qO.1.trans rfl
      clear qO qF
      go_simp
      exact hK _ _ (Below.refl _ _) rfl
    refine BOk.optT rfl [7] [] rfl 6 true rfl rfl rfl rfl (by kernel_rfl) (by kernel_rfl) (by kernel_rfl) (fun hp hc hP qK qa wr hB qO qF hK => ?_) ?_
    · have e113 : qa.tmps[113]? = some (.pointer (some ⟨kk, 0, none⟩)) := fif qF.1 rfl hP rfl
      clear qO qF
      go_simp
      exact hK _ _ (Below.refl _ _) rfl
    refine BOk.optT rfl [8] [] rfl 6 true rfl rfl rfl rfl (by kernel_rfl) (by kernel_rfl) (by kernel_rfl) (fun hp hc hP qK qa wr hB qO qF hK => ?_) ?_
    · have e114 : qa.tmps[114]? = some (.pointer (some ⟨kk, 0, none⟩)) := fif qF.1 rfl hP rfl
      clear qO qF
      go_simp
      exact hK _ _ (Below.refl _ _) rfl
    refine BOk.optT rfl [9] [] rfl 6 true rfl rfl rfl rfl (by kernel_rfl) (by kernel_rfl) (by kernel_rfl) (fun hp hc hP qK qa wr hB qO qF hK => ?_) ?_
    · have e115 : qa.tmps[115]? = some (.pointer (some ⟨kk, 6, none⟩)) := fif qF.1 rfl hP rfl
      clear qO qF
      have hk6 := (bcell hB _ _ (World.block_lt_of_cell? _ _ k6)).trans k6
      go_simp
      exact hK _ _ (Below.refl _ _) rfl
    refine BOk.optT rfl [] [3] rfl 6 true rfl rfl rfl rfl (by kernel_rfl) (by kernel_rfl) (by kernel_rfl) (fun hp hc hP qK qa wr hB qO qF hK => ?_) ?_
    · have e3 : qa.tmps[3]? = some (.pointer (some ⟨w.heap.size, 0, none⟩)) := qO.1.trans rfl
      clear qO qF
      go_simp
      exact hK _ _ (Below.refl _ _) rfl
    refine BOk.optT rfl [11] [] rfl 6 true rfl rfl rfl rfl (by kernel_rfl) (by kernel_rfl) (by kernel_rfl) (fun hp hc hP qK qa wr hB qO qF hK => ?_) ?_
    · have e117 : qa.tmps[117]? = some (.pointer (some ⟨w.heap.size, 2, none⟩)) := fif qF.1 rfl hP rfl
      clear qO qF
      have hx2 := (bcell hB _ _ (World.block_lt_of_cell? _ _ x2)).trans x2
      go_simp
      exact hK _ _ (Below.refl _ _) rfl
    refine BOk.optT rfl [10, 12] [] rfl 6 true rfl rfl rfl rfl (by kernel_rfl) (by kernel_rfl) (by kernel_rfl) (fun hp hc hP qK qa wr hB qO qF hK => ?_) ?_
    · have e116 : qa.tmps[116]? = some (.map (some sm)) := fif qF.1 rfl hP rfl
      have e118 : qa.tmps[118]? = some (.int .i64 a) := fif qF.2.1 rfl hP rfl
      clear qO qF
      refine wp_lookB (.tmp 116) (.tmp 118) rfl (act_evalG e116) (HS.out.old hB) ha (act_evalG e118) ?_
      exact hK _ _ (Below.refl _ _) rfl
    refine BOk.cons rfl [6, 13] [] rfl rfl (by kernel_rfl) (by kernel_rfl) (fun qK qa wr hB qO qF hK => ?_) ?_
    · have e112 : qa.tmps[112]? = some (.bool (wt && ((b == 0)))) := fis qF.1 rfl rfl
      obtain ⟨u119, e119, r13⟩ := qF.2.1
      have r13 : u119 = (bif (true && ((wt && ((b == 0))) == true)) then .bool (g a) else undef) := r13
      clear qO qF
      rcases (Bool.eq_false_or_eq_true ((wt && ((b == 0))))).symm with hcc | hcc
      · rw [hcc] at e112
        go_simp
        exact hK _ _ (Below.refl _ _) (by show (_ : Value) = _; first | (rw [hcc]; first | rfl | (simp; done)) | (simp_all; done))
      · rw [hcc] at e112
        have e119 : qa.tmps[119]? = some (.bool ((g a))) := (show u119 = .bool ((g a)) from r13.trans (by (first | rw [hcc] | skip); first | rfl | (rw [hP]; rfl))) ▸ e119
        go_simp
        exact hK _ _ (Below.refl _ _) (by show (_ : Value) = _; first | (rw [hcc]; first | rfl | (simp; done)) | (simp_all; done))
    refine BOk.cons rfl [14] [] rfl rfl (by kernel_rfl) (by kernel_rfl) (fun qK qa wr hB qO qF hK => ?_) ?_
    · have e120 : qa.tmps[120]? = some (.bool ((wt && ((b == 0))) && (g a))) := fis qF.1 rfl rfl
      clear qO qF
      go_simp
      exact hK _ _ (Below.refl _ _) (by first | rfl | (show (_ : Value) = _; simp_all; done))
    exact BOk.nil
  intro vals wr hl hB hR
  match vals, hl with
  | [z9_106, z9_107, z9_108, z9_109, z9_110, z9_111, z9_112, z9_113, z9_114, z9_115, z9_116, z9_117, z9_118, z9_119, z9_120, z9_4], _ =>
  have r15 : z9_4 = .bool ((wt && ((b == 0))) && (g a)) := hR 15 _ rfl
  subst r15
  clear hR
  simp only [List.cons_append, List.nil_append, putAll, Act.put, List.setIfInBounds_toArray, List.set_cons_zero, List.set_cons_succ]
  go_wp2_with fail
  go_ret
  exact ⟨rfl, HB.out.trans (hB.mono HB.out.size)⟩

end Go.Proofs.Ytadblgfppnpamaa
