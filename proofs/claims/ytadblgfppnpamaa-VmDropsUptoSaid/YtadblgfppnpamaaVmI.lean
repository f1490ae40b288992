/- Layer 18: which code may be, by the program. No conditions. -/
import Derived.Test.YtadblgfppnpamaaVmH
namespace Go.Proofs.Ytadblgfppnpamaa
open Go.RowKit
set_option linter.unusedVariables false
set_option linter.unusedSimpArgs false

def gdR1 (nr ns : Int) (Al : Option Addr) (cl : Nat) (ll : List InsV) (w : World) : List Spec := [.is (.pointer (some ⟨w.heap.size, 0, none⟩)),
  .is (.int .i64 nr),
  .is (.bool (decide (nr < 1))),
  .is (.bool (decide (nr < 1))),
  .is (bif (true && ((decide (nr < 1)) == false)) then .pointer (some ⟨w.heap.size, 0, none⟩) else undef),
  .is (bif (true && ((decide (nr < 1)) == false)) then .int .i64 nr else undef),
  .is (bif (true && ((decide (nr < 1)) == false)) then .bool (decide (1024 < nr)) else undef),
  .is (.bool ((decide (nr < 1)) || (decide (1024 < nr)))),
  .is (.bool ((decide (nr < 1)) || (decide (1024 < nr)))),
  .is (bif (true && (((decide (nr < 1)) || (decide (1024 < nr))) == false)) then .pointer (some ⟨w.heap.size, 1, none⟩) else undef),
  .is (bif (true && (((decide (nr < 1)) || (decide (1024 < nr))) == false)) then .int .i64 ns else undef),
  .is (bif (true && (((decide (nr < 1)) || (decide (1024 < nr))) == false)) then .bool (decide (ns < 0)) else undef),
  .is (.bool (((decide (nr < 1)) || (decide (1024 < nr))) || (decide (ns < 0)))),
  .is (.bool (((decide (nr < 1)) || (decide (1024 < nr))) || (decide (ns < 0)))),
  .is (bif (true && ((((decide (nr < 1)) || (decide (1024 < nr))) || (decide (ns < 0))) == false)) then .pointer (some ⟨w.heap.size, 1, none⟩) else undef),
  .is (bif (true && ((((decide (nr < 1)) || (decide (1024 < nr))) || (decide (ns < 0))) == false)) then .int .i64 ns else undef),
  .is (bif (true && ((((decide (nr < 1)) || (decide (1024 < nr))) || (decide (ns < 0))) == false)) then .bool (decide (256 < ns)) else undef),
  .is (.bool ((((decide (nr < 1)) || (decide (1024 < nr))) || (decide (ns < 0))) || (decide (256 < ns)))),
  .is (.bool ((((decide (nr < 1)) || (decide (1024 < nr))) || (decide (ns < 0))) || (decide (256 < ns)))),
  .is (bif (true && (((((decide (nr < 1)) || (decide (1024 < nr))) || (decide (ns < 0))) || (decide (256 < ns))) == false)) then .pointer (some ⟨w.heap.size, 4, none⟩) else undef),
  .is (bif (true && (((((decide (nr < 1)) || (decide (1024 < nr))) || (decide (ns < 0))) || (decide (256 < ns))) == false)) then .slice Al ll.length cl else undef),
  .is (bif (true && (((((decide (nr < 1)) || (decide (1024 < nr))) || (decide (ns < 0))) || (decide (256 < ns))) == false)) then .int .i64 (ll.length : Nat) else undef),
  .is (bif (true && (((((decide (nr < 1)) || (decide (1024 < nr))) || (decide (ns < 0))) || (decide (256 < ns))) == false)) then .bool (decide ((ll.length : Nat) < 1)) else undef),
  .is (.bool (((((decide (nr < 1)) || (decide (1024 < nr))) || (decide (ns < 0))) || (decide (256 < ns))) || (decide ((ll.length : Nat) < 1)))),
  .is (.bool (((((decide (nr < 1)) || (decide (1024 < nr))) || (decide (ns < 0))) || (decide (256 < ns))) || (decide ((ll.length : Nat) < 1)))),
  .is (bif (true && ((((((decide (nr < 1)) || (decide (1024 < nr))) || (decide (ns < 0))) || (decide (256 < ns))) || (decide ((ll.length : Nat) < 1))) == false)) then .pointer (some ⟨w.heap.size, 4, none⟩) else undef),
  .is (bif (true && ((((((decide (nr < 1)) || (decide (1024 < nr))) || (decide (ns < 0))) || (decide (256 < ns))) || (decide ((ll.length : Nat) < 1))) == false)) then .slice Al ll.length cl else undef),
  .is (bif (true && ((((((decide (nr < 1)) || (decide (1024 < nr))) || (decide (ns < 0))) || (decide (256 < ns))) || (decide ((ll.length : Nat) < 1))) == false)) then .int .i64 (ll.length : Nat) else undef),
  .is (bif (true && ((((((decide (nr < 1)) || (decide (1024 < nr))) || (decide (ns < 0))) || (decide (256 < ns))) || (decide ((ll.length : Nat) < 1))) == false)) then .bool (decide (1024 < (ll.length : Nat))) else undef),
  .is (.bool ((((((decide (nr < 1)) || (decide (1024 < nr))) || (decide (ns < 0))) || (decide (256 < ns))) || (decide ((ll.length : Nat) < 1))) || (decide (1024 < (ll.length : Nat)))))]
def gdR12 (xk : Int) (xb : Nat) (Y : V) (nb : Bool) (wl : World) : List Spec := [.is (.agg #[.int .i64 xk, .int .u64 xb]),
  .is (.agg #[.int .i64 Y.k, .int .u64 Y.b]),
  .is (.agg #[.int .i64 xk, .int .u64 xb]),
  .is (.bool nb)]
def gdR19 (op dst a b : Int) (X : Bool) (k bb oo cl : Nat) (ll : List InsV) (w wz wl : World) : List Spec := [.is (.pointer (some ⟨wz.heap.size + 1 + 1, 0, none⟩)),
  .is (.agg #[.int .i64 op, .int .i64 dst, .int .i64 a, .int .i64 b]),
  .is (.bool X),
  .is (.bool (!X)),
  .is (.bool (!X)),
  .is (bif (true && ((!X) == false)) then .pointer (some ⟨wl.heap.size, 0, none⟩) else undef),
  .is (bif (true && ((!X) == false)) then .int .i64 op else undef),
  .is (bif (true && ((!X) == false)) then .bool ((op == 52)) else undef),
  .is (bif (true && ((!X) == false)) then .int .i64 (k : Int) else undef),
  .is (bif (true && ((!X) == false)) then .pointer (some ⟨w.heap.size, 4, none⟩) else undef),
  .is (bif (true && ((!X) == false)) then .slice (some ⟨bb, oo, none⟩) ll.length cl else undef),
  .is (bif (true && ((!X) == false)) then .int .i64 (ll.length : Nat) else undef),
  .is (bif (true && ((!X) == false)) then .int .i64 ((ll.length : Int) - 1) else undef),
  .is (bif (true && ((!X) == false)) then .bool (((k : Int) == ((ll.length : Int) - 1))) else undef),
  .is (bif (true && ((!X) == false)) then .bool (((op == 52)) != (((k : Int) == ((ll.length : Int) - 1)))) else undef),
  .is (.bool ((!X) || (((op == 52)) != (((k : Int) == ((ll.length : Int) - 1))))))]
def gdR22 (a : Int) (wz wl : World) : List Spec := [.is (.pointer (some ⟨wz.heap.size + 1 + 1, 0, none⟩)),
  .is (.pointer (some ⟨wz.heap.size + 1 + 1, 0, none⟩)),
  .is (.pointer (some ⟨wz.heap.size + 1 + 1, 6, none⟩)),
  .is (.map (some (wz.heap.size + 1))),
  .is (.pointer (some ⟨wl.heap.size, 2, none⟩)),
  .is (.int .i64 a)]
def gdR24 (dst : Int) (wz wl : World) : List Spec := [.is (.pointer (some ⟨wz.heap.size + 1 + 1, 0, none⟩)),
  .is (.pointer (some ⟨wz.heap.size + 1 + 1, 0, none⟩)),
  .is (.pointer (some ⟨wz.heap.size + 1 + 1, 5, none⟩)),
  .is (.map (some (wz.heap.size))),
  .is (.pointer (some ⟨wl.heap.size, 1, none⟩)),
  .is (.int .i64 dst)]

def badC (nr ns : Int) (ll : List InsV) : Bool := ((((((decide (nr < 1)) || (decide (1024 < nr))) || (decide (ns < 0))) || (decide (256 < ns))) || (decide ((ll.length : Nat) < 1))) || (decide (1024 < (ll.length : Nat))))
def cleanB (x : V) : Bool := ((clean x).k == x.k) && ((clean x).b == x.b)
def rightB (nr ns : Int) (n1 n2 : Nat) (x : InsV) (f g : Int → Bool) : Bool :=
  if x.op = 50 then ((((decide (0 ≤ x.dst) && decide (x.dst < nr)) && (x.b == 0)) && (decide (0 ≤ x.a))) && (decide (x.a < (n1 : Nat))))
  else if x.op = 51 then ((((decide (0 ≤ x.dst) && decide (x.dst < nr)) && (x.b == 0)) && (decide (0 ≤ x.a))) && (decide (x.a < (n2 : Nat))))
  else if x.op = 53 then ((((x.dst == 0) && (decide (0 ≤ x.a))) && (decide (x.a < ns))) && (f x.b))
  else if x.op = 54 then (((decide (0 ≤ x.dst) && decide (x.dst < nr)) && (x.b == 0)) && (g x.a))
  else if x.op = 52 then (((x.dst == 0) && (x.b == 0)) && (f x.a))
  else if oneB x.op then (((decide (0 ≤ x.dst) && decide (x.dst < nr)) && (x.b == 0)) && (f x.a))
  else (((((decide (1 ≤ x.op)) && (decide (x.op ≤ 14))) && (decide (0 ≤ x.dst) && decide (x.dst < nr))) && (f x.a)) && (f x.b))
def updB (f : Int → Bool) (i : Int) : Int → Bool := fun j => if j = i then true else f j
def goodL (nr ns : Int) (n1 n2 : Nat) : List InsV → (Int → Bool) → (Int → Bool) → Bool
  | [], _, _ => true
  | x :: l, f, g => rightB nr ns n1 n2 x f g && ((x.op == 52) == l.isEmpty) && goodL nr ns n1 n2 l (if x.op = 53 ∨ x.op = 52 then f else updB f x.dst) (if x.op = 53 then updB g x.a else g)
/-- May it be run? -/
def goodV (c : CodeV) : Bool := !(badC c.nr c.ns c.ll) && (c.li.all inB && (c.lk.all cleanB && goodL c.nr c.ns c.li.length c.lk.length c.ll (fun _ => false) (fun _ => false)))

theorem right_any (x : InsV) (ha : I64 x.a) (hb : I64 x.b) (B : Nat) (m : ChkV) (cd : CodeV) (k : Nat) (f g : Int → Bool) (w : World) (h : Chk w B m cd k f g) :
    Calls Try.prog 28 #[.pointer (some ⟨m.kk, 0, none⟩), .agg #[.int .i64 x.op, .int .i64 x.dst, .int .i64 x.a, .int .i64 x.b]] w fun e w' => e = .returned (.bool (rightB cd.nr cd.ns cd.li.length cd.lk.length x f g)) ∧ Below w.heap.size w w' := by
  obtain ⟨op, dst, a, b⟩ := x
  unfold rightB
  by_cases h50 : op = 50
  · subst h50; exact right_50 dst a b ha hb B m cd k f g w h
  by_cases h51 : op = 51
  · subst h51; exact right_51 dst a b ha hb B m cd k f g w h
  by_cases h53 : op = 53
  · subst h53; exact right_53 dst a b ha hb B m cd k f g w h
  by_cases h54 : op = 54
  · subst h54; exact right_54 dst a b ha hb B m cd k f g w h
  by_cases h52 : op = 52
  · subst h52; exact right_52 dst a b ha hb B m cd k f g w h
  simp only [h50, h51, h52, h53, h54, if_false]
  by_cases h1 : oneB op
  · rw [if_pos h1]; exact right_one op h1 dst a b ha hb B m cd k f g w h
  · rw [if_neg h1]; exact right_two op h50 h51 h52 h53 h54 h1 dst a b ha hb B m cd k f g w h
theorem Chk.mono {w : World} {B : Nat} {m : ChkV} {cd : CodeV} {k : Nat} {f g : Int → Bool} (h : Chk w B m cd k f g) : Chk w B m cd (k + 1) f g :=
  ⟨h.mb, MapF.mono h.rr (Nat.le_succ _), MapF.mono h.ss (Nat.le_succ _), h.n1, h.n2, h.n3, h.b1, h.b2, h.b3, h.b0⟩
theorem Chk.putR {w w' : World} {B : Nat} {m : ChkV} {cd : CodeV} {k : Nat} {f g : Int → Bool} {i : Int} (h : Chk w B m cd k f g) (hm : MapB w' m.rm (k + 1) (updB f i)) (hg : w.grownBy w' (some m.rm)) : Chk w' B m cd (k + 1) (updB f i) g :=
  ⟨h.mb.grown hg (by simpa using h.n1), hm, (MapF.grown h.ss hg (by simpa using Ne.symm h.n3)).mono (Nat.le_succ _), h.n1, h.n2, h.n3, h.b1, h.b2, h.b3, Nat.le_trans h.b0 hg.size⟩
theorem Chk.putS {w w' : World} {B : Nat} {m : ChkV} {cd : CodeV} {k : Nat} {f g : Int → Bool} {i : Int} (h : Chk w B m cd k f g) (hm : MapB w' m.sm (k + 1) (updB g i)) (hg : w.grownBy w' (some m.sm)) : Chk w' B m cd (k + 1) f (updB g i) :=
  ⟨h.mb.grown hg (by simpa using h.n2), (MapF.grown h.rr hg (by simpa using h.n3)).mono (Nat.le_succ _), hm, h.n1, h.n2, h.n3, h.b1, h.b2, h.b3, Nat.le_trans h.b0 hg.size⟩
theorem neq_II (a b c d : Int) (w : World) : (binOp .neq 31 (.agg #[.int .i64 a, .int .u64 b]) (.agg #[.int .i64 c, .int .u64 d])).run Try.prog w = .ok (.bool (!((a == c) && (b == d)))) w := by
  have h1 : Try.prog.stoodInHeld 31 = false := by kernel_rfl
  by_cases h : a = c <;> by_cases h2 : b = d <;> simp [go_sem, h, h2, h1]
theorem neq_VV (a c : Int) (b d : Nat) (w : World) : (binOp .neq 31 (.agg #[.int .i64 a, .int .u64 b]) (.agg #[.int .i64 c, .int .u64 d])).run Try.prog w = .ok (.bool (!((a == c) && (b == d)))) w := by
  have e : ((b : Int) == (d : Int)) = (b == d) := by
    rw [Bool.eq_iff_iff]
    simp only [beq_iff_eq]
    omega
  rw [neq_II, e]

set_option maxRecDepth 100000 in
set_option maxHeartbeats 4000000 in
theorem good_any (cd : CodeV) (w : World) (h : cd.ok w w.heap.size) (hll : cd.ll.length ≤ 3000) :
    Calls Try.prog 12 #[cd.val] w fun e w' => e = .returned (.bool (goodV cd)) ∧ Below w.heap.size w w' := by
  obtain ⟨nr, ns, Ai, ci, li, Ak, ck, lk, Al, cl, ll⟩ := cd
  obtain ⟨ri, rk, rl, ni, nk, nl, fi, fk, fl, fr, fs⟩ := h
  simp only at ri rk rl ni nk nl fi fk fl fr fs hll
  generalize hR : goodV ⟨nr, ns, Ai, ci, li, Ak, ck, lk, Al, cl, ll⟩ = R
  unfold goodV at hR
  simp only at hR
  unfold CodeV.val
  have kc := Bk.new w 26 #[.int .i64 nr, .int .i64 ns, .slice Ai li.length ci, .slice Ak lk.length ck, .slice Al ll.length cl]
  have hbe : Below w.heap.size w (w.alloc (.cells #[.int .i64 nr, .int .i64 ns, .slice Ai li.length ci, .slice Ak lk.length ck, .slice Al ll.length cl] 26)) := (Below.refl _ _).alloc (Nat.le_refl _) _
  have c0 := kc.cell 0
  have c1 := kc.cell 1
  have c4 := kc.cell 4
  have HC := Lib.hid kc
  have HB := Lib.hid hbe
  have HR := Lib.hid hR
  have hmm := @run_makeMap Try.prog
  clear fr fs hR kc hbe
  go_enter Try.func12, Try.ntmps12
  go_upto_region 1 with fail
  refine wp_region_s (fun qk => (gdR1 nr ns Al cl ll w).getD qk .any) (by kernel_rfl) ?_ ?_
  · refine BOk.cons rfl [] [1] rfl rfl (by kernel_rfl) (by kernel_rfl) (fun qK qa wr hB qO qF hK => ?_) ?_
    · have e1 : qa.tmps[1]? = some (.pointer (some ⟨w.heap.size, 0, none⟩)) := qO.1.trans rfl
      clear qO qF
      go_simp
      exact hK _ _ (Below.refl _ _) rfl
    refine BOk.cons rfl [0] [] rfl rfl (by kernel_rfl) (by kernel_rfl) (fun qK qa wr hB qO qF hK => ?_) ?_
    · have e10 : qa.tmps[10]? = some (.pointer (some ⟨w.heap.size, 0, none⟩)) := fis qF.1 rfl rfl
      clear qO qF
      have hc0 := (bcell hB _ _ (World.block_lt_of_cell? _ _ c0)).trans c0
      go_simp
      exact hK _ _ (Below.refl _ _) rfl
    refine BOk.cons rfl [1] [] rfl rfl (by kernel_rfl) (by kernel_rfl) (fun qK qa wr hB qO qF hK => ?_) ?_
    · have e11 : qa.tmps[11]? = some (.int .i64 nr) := fis qF.1 rfl rfl
      clear qO qF
      go_simp
      refine hK _ _ (Below.refl _ _) ?_
      show (_ : Value) = _
      first | rfl | (simp; done) | (simp; omega) | (congr 1; simp; done) | (congr 1; rw [decide_eq_decide]; omega)
    refine BOk.cons rfl [2] [] rfl rfl (by kernel_rfl) (by kernel_rfl) (fun qK qa wr hB qO qF hK => ?_) ?_
    · have e12 : qa.tmps[12]? = some (.bool (decide (nr < 1))) := fis qF.1 rfl rfl
      clear qO qF
      go_simp
      exact hK _ _ (Below.refl _ _) (by first | rfl | (show (_ : Value) = _; simp_all; done))
    refine BOk.optT rfl [] [1] rfl 3 false rfl rfl rfl rfl (by kernel_rfl) (by kernel_rfl) (by kernel_rfl) (fun hp hc hP qK qa wr hB qO qF hK => ?_) ?_
    · have e1 : qa.tmps[1]? = some (.pointer (some ⟨w.heap.size, 0, none⟩)) := qO.1.trans rfl
      clear qO qF
      go_simp
      exact hK _ _ (Below.refl _ _) rfl
    refine BOk.optT rfl [4] [] rfl 3 false rfl rfl rfl rfl (by kernel_rfl) (by kernel_rfl) (by kernel_rfl) (fun hp hc hP qK qa wr hB qO qF hK => ?_) ?_
    · have e14 : qa.tmps[14]? = some (.pointer (some ⟨w.heap.size, 0, none⟩)) := fif qF.1 rfl hP rfl
      clear qO qF
      have hc0 := (bcell hB _ _ (World.block_lt_of_cell? _ _ c0)).trans c0
      go_simp
      exact hK _ _ (Below.refl _ _) rfl
    refine BOk.optT rfl [5] [] rfl 3 false rfl rfl rfl rfl (by kernel_rfl) (by kernel_rfl) (by kernel_rfl) (fun hp hc hP qK qa wr hB qO qF hK => ?_) ?_
    · have e15 : qa.tmps[15]? = some (.int .i64 nr) := fif qF.1 rfl hP rfl
      clear qO qF
      go_simp
      refine hK _ _ (Below.refl _ _) ?_
      show (_ : Value) = _
      first | rfl | (simp; done) | (simp; omega) | (congr 1; simp; done) | (congr 1; rw [decide_eq_decide]; omega)
    refine BOk.cons rfl [3, 6] [] rfl rfl (by kernel_rfl) (by kernel_rfl) (fun qK qa wr hB qO qF hK => ?_) ?_
    · have e13 : qa.tmps[13]? = some (.bool (decide (nr < 1))) := fis qF.1 rfl rfl
      obtain ⟨u16, e16, r6⟩ := qF.2.1
      have r6 : u16 = (bif (true && ((decide (nr < 1)) == false)) then .bool (decide (1024 < nr)) else undef) := r6
      clear qO qF
      rcases (Bool.eq_false_or_eq_true ((decide (nr < 1)))).symm with hcc | hcc
      · rw [hcc] at e13
        have e16 : qa.tmps[16]? = some (.bool ((decide (1024 < nr)))) := (show u16 = .bool ((decide (1024 < nr))) from r6.trans (by (first | rw [hcc] | skip); first | rfl | (rw [hP]; rfl))) ▸ e16
        go_simp
        exact hK _ _ (Below.refl _ _) (by show (_ : Value) = _; first | (rw [hcc]; first | rfl | (simp; done)) | (simp_all; done))
      · rw [hcc] at e13
        go_simp
        exact hK _ _ (Below.refl _ _) (by show (_ : Value) = _; first | (rw [hcc]; first | rfl | (simp; done)) | (simp_all; done))
    refine BOk.cons rfl [7] [] rfl rfl (by kernel_rfl) (by kernel_rfl) (fun qK qa wr hB qO qF hK => ?_) ?_
    · have e17 : qa.tmps[17]? = some (.bool ((decide (nr < 1)) || (decide (1024 < nr)))) := fis qF.1 rfl rfl
      clear qO qF
      go_simp
      exact hK _ _ (Below.refl _ _) (by first | rfl | (show (_ : Value) = _; simp_all; done))
    refine BOk.optT rfl [] [1] rfl 8 false rfl rfl rfl rfl (by kernel_rfl) (by kernel_rfl) (by kernel_rfl) (fun hp hc hP qK qa wr hB qO qF hK => ?_) ?_
    · have e1 : qa.tmps[1]? = some (.pointer (some ⟨w.heap.size, 0, none⟩)) := qO.1.trans rfl
      clear qO qF
      go_simp
      exact hK _ _ (Below.refl _ _) rfl
    refine BOk.optT rfl [9] [] rfl 8 false rfl rfl rfl rfl (by kernel_rfl) (by kernel_rfl) (by kernel_rfl) (fun hp hc hP qK qa wr hB qO qF hK => ?_) ?_
    · have e19 : qa.tmps[19]? = some (.pointer (some ⟨w.heap.size, 1, none⟩)) := fif qF.1 rfl hP rfl
      clear qO qF
      have hc1 := (bcell hB _ _ (World.block_lt_of_cell? _ _ c1)).trans c1
      go_simp
      exact hK _ _ (Below.refl _ _) rfl
    refine BOk.optT rfl [10] [] rfl 8 false rfl rfl rfl rfl (by kernel_rfl) (by kernel_rfl) (by kernel_rfl) (fun hp hc hP qK qa wr hB qO qF hK => ?_) ?_
    · have e20 : qa.tmps[20]? = some (.int .i64 ns) := fif qF.1 rfl hP rfl
      clear qO qF
      go_simp
      refine hK _ _ (Below.refl _ _) ?_
      show (_ : Value) = _
      first | rfl | (simp; done) | (simp; omega) | (congr 1; simp; done) | (congr 1; rw [decide_eq_decide]; omega)
    refine BOk.cons rfl [8, 11] [] rfl rfl (by kernel_rfl) (by kernel_rfl) (fun qK qa wr hB qO qF hK => ?_) ?_
    · have e18 : qa.tmps[18]? = some (.bool ((decide (nr < 1)) || (decide (1024 < nr)))) := fis qF.1 rfl rfl
      obtain ⟨u21, e21, r11⟩ := qF.2.1
      have r11 : u21 = (bif (true && (((decide (nr < 1)) || (decide (1024 < nr))) == false)) then .bool (decide (ns < 0)) else undef) := r11
      clear qO qF
      rcases (Bool.eq_false_or_eq_true (((decide (nr < 1)) || (decide (1024 < nr))))).symm with hcc | hcc
      · rw [hcc] at e18
        have e21 : qa.tmps[21]? = some (.bool ((decide (ns < 0)))) := (show u21 = .bool ((decide (ns < 0))) from r11.trans (by (first | rw [hcc] | skip); first | rfl | (rw [hP]; rfl))) ▸ e21
        go_simp
        exact hK _ _ (Below.refl _ _) (by show (_ : Value) = _; first | (rw [hcc]; first | rfl | (simp; done)) | (simp_all; done))
      · rw [hcc] at e18
        go_simp
        exact hK _ _ (Below.refl _ _) (by show (_ : Value) = _; first | (rw [hcc]; first | rfl | (simp; done)) | (simp_all; done))
    refine BOk.cons rfl [12] [] rfl rfl (by kernel_rfl) (by kernel_rfl) (fun qK qa wr hB qO qF hK => ?_) ?_
    · have e22 : qa.tmps[22]? = some (.bool (((decide (nr < 1)) || (decide (1024 < nr))) || (decide (ns < 0)))) := fis qF.1 rfl rfl
      clear qO qF
      go_simp
      exact hK _ _ (Below.refl _ _) (by first | rfl | (show (_ : Value) = _; simp_all; done))
    refine BOk.optT rfl [] [1] rfl 13 false rfl rfl rfl rfl (by kernel_rfl) (by kernel_rfl) (by kernel_rfl) (fun hp hc hP qK qa wr hB qO qF hK => ?_) ?_
    · have e1 : qa.tmps[1]? = some (.pointer (some ⟨w.heap.size, 0, none⟩)) := qO.1.trans rfl
      clear qO qF
      go_simp
      exact hK _ _ (Below.refl _ _) rfl
    refine BOk.optT rfl [14] [] rfl 13 false rfl rfl rfl rfl (by kernel_rfl) (by kernel_rfl) (by kernel_rfl) (fun hp hc hP qK qa wr hB qO qF hK => ?_) ?_
    · have e24 : qa.tmps[24]? = some (.pointer (some ⟨w.heap.size, 1, none⟩)) := fif qF.1 rfl hP rfl
      clear qO qF
      have hc1 := (bcell hB _ _ (World.block_lt_of_cell? _ _ c1)).trans c1
      go_simp
      exact hK _ _ (Below.refl _ _) rfl
    refine BOk.optT rfl [15] [] rfl 13 false rfl rfl rfl rfl (by kernel_rfl) (by kernel_rfl) (by kernel_rfl) (fun hp hc hP qK qa wr hB qO qF hK => ?_) ?_
    · have e25 : qa.tmps[25]? = some (.int .i64 ns) := fif qF.1 rfl hP rfl
      clear qO qF
      go_simp
      refine hK _ _ (Below.refl _ _) ?_
      show (_ : Value) = _
      first | rfl | (simp; done) | (simp; omega) | (congr 1; simp; done) | (congr 1; rw [decide_eq_decide]; omega)
    refine BOk.cons rfl [13, 16] [] rfl rfl (by kernel_rfl) (by kernel_rfl) (fun qK qa wr hB qO qF hK => ?_) ?_
    · have e23 : qa.tmps[23]? = some (.bool (((decide (nr < 1)) || (decide (1024 < nr))) || (decide (ns < 0)))) := fis qF.1 rfl rfl
      obtain ⟨u26, e26, r16⟩ := qF.2.1
      have r16 : u26 = (bif (true && ((((decide (nr < 1)) || (decide (1024 < nr))) || (decide (ns < 0))) == false)) then .bool (decide (256 < ns)) else undef) := r16
      clear qO qF
      rcases (Bool.eq_false_or_eq_true ((((decide (nr < 1)) || (decide (1024 < nr))) || (decide (ns < 0))))).symm with hcc | hcc
      · rw [hcc] at e23
        have e26 : qa.tmps[26]? = some (.bool ((decide (256 < ns)))) := (show u26 = .bool ((decide (256 < ns))) from r16.trans (by (first | rw [hcc] | skip); first | rfl | (rw [hP]; rfl))) ▸ e26
        go_simp
        exact hK _ _ (Below.refl _ _) (by show (_ : Value) = _; first | (rw [hcc]; first | rfl | (simp; done)) | (simp_all; done))
      · rw [hcc] at e23
        go_simp
        exact hK _ _ (Below.refl _ _) (by show (_ : Value) = _; first | (rw [hcc]; first | rfl | (simp; done)) | (simp_all; done))
    refine BOk.cons rfl [17] [] rfl rfl (by kernel_rfl) (by kernel_rfl) (fun qK qa wr hB qO qF hK => ?_) ?_
    · have e27 : qa.tmps[27]? = some (.bool ((((decide (nr < 1)) || (decide (1024 < nr))) || (decide (ns < 0))) || (decide (256 < ns)))) := fis qF.1 rfl rfl
      clear qO qF
      go_simp
      exact hK _ _ (Below.refl _ _) (by first | rfl | (show (_ : Value) = _; simp_all; done))
    refine BOk.optT rfl [] [1] rfl 18 false rfl rfl rfl rfl (by kernel_rfl) (by kernel_rfl) (by kernel_rfl) (fun hp hc hP qK qa wr hB qO qF hK => ?_) ?_
    · have e1 : qa.tmps[1]? = some (.pointer (some ⟨w.heap.size, 0, none⟩)) := qO.1.trans rfl
      clear qO qF
      go_simp
      exact hK _ _ (Below.refl _ _) rfl
    refine BOk.optT rfl [19] [] rfl 18 false rfl rfl rfl rfl (by kernel_rfl) (by kernel_rfl) (by kernel_rfl) (fun hp hc hP qK qa wr hB qO qF hK => ?_) ?_
    · have e29 : qa.tmps[29]? = some (.pointer (some ⟨w.heap.size, 4, none⟩)) := fif qF.1 rfl hP rfl
      clear qO qF
      have hc4 := (bcell hB _ _ (World.block_lt_of_cell? _ _ c4)).trans c4
      go_simp
      exact hK _ _ (Below.refl _ _) rfl
    refine BOk.optT rfl [20] [] rfl 18 false rfl rfl rfl rfl (by kernel_rfl) (by kernel_rfl) (by kernel_rfl) (fun hp hc hP qK qa wr hB qO qF hK => ?_) ?_
    · have e30 : qa.tmps[30]? = some (.slice Al ll.length cl) := fif qF.1 rfl hP rfl
      clear qO qF
      go_simp
      exact hK _ _ (Below.refl _ _) rfl
    refine BOk.optT rfl [21] [] rfl 18 false rfl rfl rfl rfl (by kernel_rfl) (by kernel_rfl) (by kernel_rfl) (fun hp hc hP qK qa wr hB qO qF hK => ?_) ?_
    · have e31 : qa.tmps[31]? = some (.int .i64 (ll.length : Nat)) := fif qF.1 rfl hP rfl
      clear qO qF
      go_simp
      refine hK _ _ (Below.refl _ _) ?_
      show (_ : Value) = _
      first | rfl | (simp; done) | (simp; omega) | (congr 1; simp; done) | (congr 1; rw [decide_eq_decide]; omega)
    refine BOk.cons rfl [18, 22] [] rfl rfl (by kernel_rfl) (by kernel_rfl) (fun qK qa wr hB qO qF hK => ?_) ?_
    · have e28 : qa.tmps[28]? = some (.bool ((((decide (nr < 1)) || (decide (1024 < nr))) || (decide (ns < 0))) || (decide (256 < ns)))) := fis qF.1 rfl rfl
      obtain ⟨u32, e32, r22⟩ := qF.2.1
      have r22 : u32 = (bif (true && (((((decide (nr < 1)) || (decide (1024 < nr))) || (decide (ns < 0))) || (decide (256 < ns))) == false)) then .bool (decide ((ll.length : Nat) < 1)) else undef) := r22
      clear qO qF
      rcases (Bool.eq_false_or_eq_true (((((decide (nr < 1)) || (decide (1024 < nr))) || (decide (ns < 0))) || (decide (256 < ns))))).symm with hcc | hcc
      · rw [hcc] at e28
        have e32 : qa.tmps[32]? = some (.bool ((decide ((ll.length : Nat) < 1)))) := (show u32 = .bool ((decide ((ll.length : Nat) < 1))) from r22.trans (by (first | rw [hcc] | skip); first | rfl | (rw [hP]; rfl))) ▸ e32
        go_simp
        exact hK _ _ (Below.refl _ _) (by show (_ : Value) = _; first | (rw [hcc]; first | rfl | (simp; done)) | (simp_all; done))
      · rw [hcc] at e28
        go_simp
        exact hK _ _ (Below.refl _ _) (by show (_ : Value) = _; first | (rw [hcc]; first | rfl | (simp; done)) | (simp_all; done))
    refine BOk.cons rfl [23] [] rfl rfl (by kernel_rfl) (by kernel_rfl) (fun qK qa wr hB qO qF hK => ?_) ?_
    · have e33 : qa.tmps[33]? = some (.bool (((((decide (nr < 1)) || (decide (1024 < nr))) || (decide (ns < 0))) || (decide (256 < ns))) || (decide ((ll.length : Nat) < 1)))) := fis qF.1 rfl rfl
      clear qO qF
      go_simp
      exact hK _ _ (Below.refl _ _) (by first | rfl | (show (_ : Value) = _; simp_all; done))
    refine BOk.optT rfl [] [1] rfl 24 false rfl rfl rfl rfl (by kernel_rfl) (by kernel_rfl) (by kernel_rfl) (fun hp hc hP qK qa wr hB qO qF hK => ?_) ?_
    · have e1 : qa.tmps[1]? = some (.pointer (some ⟨w.heap.size, 0, none⟩)) := qO.1.trans rfl
      clear qO qF
      go_simp
      exact hK _ _ (Below.refl _ _) rfl
    refine BOk.optT rfl [25] [] rfl 24 false rfl rfl rfl rfl (by kernel_rfl) (by kernel_rfl) (by kernel_rfl) (fun hp hc hP qK qa wr hB qO qF hK => ?_) ?_
    · have e35 : qa.tmps[35]? = some (.pointer (some ⟨w.heap.size, 4, none⟩)) := fif qF.1 rfl hP rfl
      clear qO qF
      have hc4 := (bcell hB _ _ (World.block_lt_of_cell? _ _ c4)).trans c4
      go_simp
      exact hK _ _ (Below.refl _ _) rfl
    refine BOk.optT rfl [26] [] rfl 24 false rfl rfl rfl rfl (by kernel_rfl) (by kernel_rfl) (by kernel_rfl) (fun hp hc hP qK qa wr hB qO qF hK => ?_) ?_
    · have e36 : qa.tmps[36]? = some (.slice Al ll.length cl) := fif qF.1 rfl hP rfl
      clear qO qF
      go_simp
      exact hK _ _ (Below.refl _ _) rfl
    refine BOk.optT rfl [27] [] rfl 24 false rfl rfl rfl rfl (by kernel_rfl) (by kernel_rfl) (by kernel_rfl) (fun hp hc hP qK qa wr hB qO qF hK => ?_) ?_
    · have e37 : qa.tmps[37]? = some (.int .i64 (ll.length : Nat)) := fif qF.1 rfl hP rfl
      clear qO qF
      go_simp
      refine hK _ _ (Below.refl _ _) ?_
      show (_ : Value) = _
      first | rfl | (simp; done) | (simp; omega) | (congr 1; simp; done) | (congr 1; rw [decide_eq_decide]; omega)
    refine BOk.cons rfl [24, 28] [] rfl rfl (by kernel_rfl) (by kernel_rfl) (fun qK qa wr hB qO qF hK => ?_) ?_
    · have e34 : qa.tmps[34]? = some (.bool (((((decide (nr < 1)) || (decide (1024 < nr))) || (decide (ns < 0))) || (decide (256 < ns))) || (decide ((ll.length : Nat) < 1)))) := fis qF.1 rfl rfl
      obtain ⟨u38, e38, r28⟩ := qF.2.1
      have r28 : u38 = (bif (true && ((((((decide (nr < 1)) || (decide (1024 < nr))) || (decide (ns < 0))) || (decide (256 < ns))) || (decide ((ll.length : Nat) < 1))) == false)) then .bool (decide (1024 < (ll.length : Nat))) else undef) := r28
      clear qO qF
      rcases (Bool.eq_false_or_eq_true ((((((decide (nr < 1)) || (decide (1024 < nr))) || (decide (ns < 0))) || (decide (256 < ns))) || (decide ((ll.length : Nat) < 1))))).symm with hcc | hcc
      · rw [hcc] at e34
        have e38 : qa.tmps[38]? = some (.bool ((decide (1024 < (ll.length : Nat))))) := (show u38 = .bool ((decide (1024 < (ll.length : Nat)))) from r28.trans (by (first | rw [hcc] | skip); first | rfl | (rw [hP]; rfl))) ▸ e38
        go_simp
        exact hK _ _ (Below.refl _ _) (by show (_ : Value) = _; first | (rw [hcc]; first | rfl | (simp; done)) | (simp_all; done))
      · rw [hcc] at e34
        go_simp
        exact hK _ _ (Below.refl _ _) (by show (_ : Value) = _; first | (rw [hcc]; first | rfl | (simp; done)) | (simp_all; done))
    exact BOk.nil
  intro vals wr hl hB hR
  match vals, hl with
  | [z10, z11, z12, z13, z14, z15, z16, z17, z18, z19, z20, z21, z22, z23, z24, z25, z26, z27, z28, z29, z30, z31, z32, z33, z34, z35, z36, z37, z38, z39], _ =>
  have r29 : z39 = .bool ((((((decide (nr < 1)) || (decide (1024 < nr))) || (decide (ns < 0))) || (decide (256 < ns))) || (decide ((ll.length : Nat) < 1))) || (decide (1024 < (ll.length : Nat)))) := hR 29 _ rfl
  subst r29
  clear hR
  simp only [List.cons_append, List.nil_append, putAll, Act.put, List.setIfInBounds_toArray, List.set_cons_zero, List.set_cons_succ]
  have HC := Lib.hid (HC.out.old hB)
  have HB := Lib.hid (HB.out.trans (hB.mono HB.out.size))
  clear c0 c1 c4 hB
  cases hbad : badC nr ns ll
  case true =>
    unfold badC at hbad
    rw [hbad]
    have hR := HR.out
    unfold badC at hR
    rw [hbad] at hR
    go_wp2_with fail
    go_ret
    exact ⟨by rw [← hR]; rfl, HB.out⟩
  have hbad2 := hbad
  unfold badC at hbad2
  rw [hbad2]
  have hR := HR.out
  rw [hbad] at hR
  have hR : (li.all inB && (lk.all cleanB && goodL nr ns li.length lk.length ll (fun _ => false) (fun _ => false))) = R := hR
  have HR := Lib.hid hR
  clear hbad hbad2 hR
  have c2 := HC.out.cell 2
  go_wp2_with fail
  clear c2
  go_loopw [43] (fun i wr => ∃ k : Nat, k ≤ li.length ∧ i = .int .i64 k ∧ Below w.heap.size w wr ∧ Bk wr w.heap.size 26 #[.int .i64 nr, .int .i64 ns, .slice Ai li.length ci, .slice Ak lk.length ck, .slice Al ll.length cl] ∧ Hid (((li.drop k).all inB && (lk.all cleanB && goodL nr ns li.length lk.length ll (fun _ => false) (fun _ => false))) = R)) (fun i _ => li.length - (intOf i).toNat)
  case atStart => exact ⟨0, Nat.zero_le _, rfl, HB.out, HC.out, HR⟩
  case round =>
    clear HB HC HR
    obtain ⟨k, hk, rfl, hbe, kc, hR⟩ := hrel
    by_cases hlt : k < li.length
    · as_aux_lemma =>
      obtain ⟨bb, oo, rfl, hb, hc⟩ := (ri.below hbe).elem (f := InputV.cells) (n := 4) (fun _ => rfl) (by omega) hlt
      have hR := hR.out
      rw [List.drop_eq_getElem_cons hlt, List.all_cons] at hR
      generalize li[k] = x at *
      have hc0 : wr.cell? ⟨bb, oo + k * 4, none⟩ = some (.int .i64 x.op) := hc 0 _ rfl
      have hc1 : wr.cell? ⟨bb, oo + k * 4 + 1, none⟩ = some (.int .i64 x.kind) := hc 1 _ rfl
      have hc2 : wr.cell? ⟨bb, oo + k * 4 + 2, none⟩ = some (.int .i64 x.pos) := hc 2 _ rfl
      have hc3 : wr.cell? ⟨bb, oo + k * 4 + 3, none⟩ = some (.int .i64 x.attr) := hc 3 _ rfl
      have hsz := hbe.size
      have HC := Lib.hid (kc.alloc (.cells #[.int .i64 x.op, .int .i64 x.kind, .int .i64 x.pos, .int .i64 x.attr] 39))
      have HB := Lib.hid (hbe.alloc hbe.size (.cells #[.int .i64 x.op, .int .i64 x.kind, .int .i64 x.pos, .int .i64 x.attr] 39))
      have HR := Lib.hid hR
      clear hc kc hbe hR
      go_wp2_with fail
      refine (pin_any x _).mono ?_
      rintro e w3 ⟨rfl, hb3⟩
      have HC := Lib.hid (HC.out.old hb3)
      have HB := Lib.hid (HB.out.trans (hb3.mono HB.out.size))
      clear hb3
      cases hin : inB x
      · have hR := HR.out
        rw [hin] at hR
        go_wp2_with fail
        go_ret
        exact ⟨by rw [← hR]; rfl, HB.out⟩
      · have hR := HR.out
        rw [hin] at hR
        have HR := Lib.hid hR
        clear hR
        go_wp2_with fail
        go_roundw
        case rel => exact ⟨k + 1, by omega, by go_num, HB.out, HC.out, HR⟩
        case measure => simp [intOf]; omega
    · obtain rfl : k = li.length := by omega
      have hR := hR.out
      rw [List.drop_length] at hR
      have hR : (lk.all cleanB && goodL nr ns li.length lk.length ll (fun _ => false) (fun _ => false)) = R := hR
      have HR := Lib.hid hR
      have HC := Lib.hid kc
      have HB := Lib.hid hbe
      have c3 := kc.cell 3
      clear hR kc hbe
      go_wp2_with fail
      clear c3
      go_loopw [54] (fun i wr => ∃ k : Nat, k ≤ lk.length ∧ i = .int .i64 k ∧ Below w.heap.size w wr ∧ Bk wr w.heap.size 26 #[.int .i64 nr, .int .i64 ns, .slice Ai li.length ci, .slice Ak lk.length ck, .slice Al ll.length cl] ∧ Hid (((lk.drop k).all cleanB && goodL nr ns li.length lk.length ll (fun _ => false) (fun _ => false)) = R)) (fun i _ => lk.length - (intOf i).toNat)
      case atStart => exact ⟨0, Nat.zero_le _, rfl, HB.out, HC.out, HR⟩
      case round =>
        clear HB HC HR
        obtain ⟨k, hk, rfl, hbe, kc, hR⟩ := hrel
        rename World => wl
        by_cases hlt : k < lk.length
        · as_aux_lemma =>
          obtain ⟨bb, oo, rfl, hb, hc⟩ := (rk.below hbe).elem (f := V.cells) (n := 2) (fun _ => rfl) (by omega) hlt
          have hfx := fk lk[k] (by simp)
          have hR := hR.out
          rw [List.drop_eq_getElem_cons hlt, List.all_cons] at hR
          generalize lk[k] = x at *
          obtain ⟨xk, xb⟩ := x
          have hc0 : wl.cell? ⟨bb, oo + k * 2, none⟩ = some (.int .i64 xk) := hc 0 _ rfl
          have hc1 : wl.cell? ⟨bb, oo + k * 2 + 1, none⟩ = some (.int .u64 xb) := hc 1 _ rfl
          have hsz := hbe.size
          have kx := Bk.new wl 31 #[.int .i64 xk, .int .u64 xb]
          have HC := Lib.hid (kc.alloc (.cells #[.int .i64 xk, .int .u64 xb] 31))
          have HB := Lib.hid (hbe.alloc hbe.size (.cells #[.int .i64 xk, .int .u64 xb] 31))
          obtain ⟨Y, hY⟩ : ∃ Y, clean ⟨xk, xb⟩ = Y := ⟨_, rfl⟩
          have hy : ∀ w' : World, Calls Try.prog 27 #[.agg #[.int .i64 xk, .int .u64 xb]] w' fun e w2 => e = .returned (.agg #[.int .i64 Y.k, .int .u64 Y.b]) ∧ Below w'.heap.size w' w2 := fun w' => by
            have := pclean_any ⟨xk, xb⟩ hfx w'
            rw [hY] at this
            exact this
          obtain ⟨nb, hnb⟩ : ∃ nb, (!((Y.k == xk) && (Y.b == xb))) = nb := ⟨_, rfl⟩
          have hneq : ∀ w : World, (binOp .neq 31 (.agg #[.int .i64 Y.k, .int .u64 Y.b]) (.agg #[.int .i64 xk, .int .u64 xb])).run Try.prog w = .ok (.bool nb) w := fun w => by rw [neq_VV, hnb]
          have hcl : cleanB ⟨xk, xb⟩ = !nb := by unfold cleanB; rw [hY, ← hnb]; simp
          rw [hcl] at hR
          have HR := Lib.hid hR
          have HY := Lib.hid hy
          have y0 := kx.cell 0
          have y1 := kx.cell 1
          clear hc kc hbe hR hy hY hnb hcl kx
          go_wp2_with fail
          refine wp_region_b (by kernel_rfl) (fun qk => (gdR12 xk xb Y nb wl).getD qk .any) (by kernel_rfl) ?_ ?_
          · refine BOk.cons rfl [] [6] rfl rfl (by kernel_rfl) (by kernel_rfl) (fun qK qa wr hB qO qF hK => ?_) ?_
            · have e6 : qa.tmps[6]? = some (.pointer (some ⟨wl.heap.size, 0, none⟩)) := qO.1.trans rfl
              clear qO qF
              have hy0 := (bcell hB _ _ (World.block_lt_of_cell? _ _ y0)).trans y0
              have hy1 := (bcell hB _ _ (World.block_lt_of_cell? _ _ y1)).trans y1
              go_simp
              exact hK _ _ (Below.refl _ _) rfl
            refine BOk.cons rfl [0] [] rfl rfl (by kernel_rfl) (by kernel_rfl) (fun qK qa wr hB qO qF hK => ?_) ?_
            · have e58 : qa.tmps[58]? = some (.agg #[.int .i64 xk, .int .u64 xb]) := fis qF.1 rfl rfl
              clear qO qF
              go_simp
              go_at_call 27
              refine (HY.out _).mono ?_
              rintro e w2 ⟨rfl, hb2⟩
              exact hK _ _ hb2 rfl
            refine BOk.cons rfl [] [6] rfl rfl (by kernel_rfl) (by kernel_rfl) (fun qK qa wr hB qO qF hK => ?_) ?_
            · have e6 : qa.tmps[6]? = some (.pointer (some ⟨wl.heap.size, 0, none⟩)) := qO.1.trans rfl
              clear qO qF
              have hy0 := (bcell hB _ _ (World.block_lt_of_cell? _ _ y0)).trans y0
              have hy1 := (bcell hB _ _ (World.block_lt_of_cell? _ _ y1)).trans y1
              go_simp
              exact hK _ _ (Below.refl _ _) rfl
            refine BOk.cons rfl [1, 2] [] rfl rfl (by kernel_rfl) (by kernel_rfl) (fun qK qa wr hB qO qF hK => ?_) ?_
            · have e59 : qa.tmps[59]? = some (.agg #[.int .i64 Y.k, .int .u64 Y.b]) := fis qF.1 rfl rfl
              have e60 : qa.tmps[60]? = some (.agg #[.int .i64 xk, .int .u64 xb]) := fis qF.2.1 rfl rfl
              clear qO qF
              go_simp
              refine hK _ _ (Below.refl _ _) ?_
              show (_ : Value) = _
              first | rfl | (simp; done) | (simp; omega)
            exact BOk.nil
          intro vals wr hl hB hR
          match vals, hl with
          | [z58, z59, z60, z61], _ =>
          have r3 : z61 = .bool nb := hR 3 _ rfl
          subst r3
          clear hR
          simp only [List.cons_append, List.nil_append, putAll, Act.put, List.setIfInBounds_toArray, List.set_cons_zero, List.set_cons_succ]
          have HC := Lib.hid (HC.out.old hB)
          have HB := Lib.hid (HB.out.trans (hB.mono HB.out.size))
          clear hB y0 y1 hneq
          cases nb
          · have hR := HR.out
            have HR := Lib.hid (show ((lk.drop (k + 1)).all cleanB && goodL nr ns li.length lk.length ll (fun _ => false) (fun _ => false)) = R from hR)
            clear hR
            go_wp2_with fail
            go_roundw
            case rel => exact ⟨k + 1, by omega, by go_num, HB.out, HC.out, HR⟩
            case measure => simp [intOf]; omega
          · have hR := HR.out
            go_wp2_with fail
            go_ret
            exact ⟨by rw [← hR]; rfl, HB.out⟩
        · obtain rfl : k = lk.length := by omega
          have hR := hR.out
          rw [List.drop_length] at hR
          have hR : goodL nr ns li.length lk.length ll (fun _ => false) (fun _ => false) = R := hR
          have HR := Lib.hid hR
          have HC := Lib.hid (((kc.alloc (.map #[] 0)).alloc (.map #[] 0)).alloc (.cells #[.int .i64 nr, .int .i64 ns, .slice Ai li.length ci, .slice Ak lk.length ck, .slice Al ll.length cl, .map (some wl.heap.size), .map (some (wl.heap.size + 1))] 62))
          have hbe3 : Below w.heap.size w (((wl.alloc (.map #[] 0)).alloc (.map #[] 0)).alloc (.cells #[.int .i64 nr, .int .i64 ns, .slice Ai li.length ci, .slice Ak lk.length ck, .slice Al ll.length cl, .map (some wl.heap.size), .map (some (wl.heap.size + 1))] 62)) := ((hbe.alloc hbe.size _).alloc (by have := hbe.size; simp; omega) _).alloc (by have := hbe.size; simp; omega) _
          have hck : Chk (((wl.alloc (.map #[] 0)).alloc (.map #[] 0)).alloc (.cells #[.int .i64 nr, .int .i64 ns, .slice Ai li.length ci, .slice Ak lk.length ck, .slice Al ll.length cl, .map (some wl.heap.size), .map (some (wl.heap.size + 1))] 62)) w.heap.size ⟨wl.heap.size + 1 + 1, wl.heap.size, wl.heap.size + 1⟩ ⟨nr, ns, Ai, ci, li, Ak, ck, lk, Al, cl, ll⟩ 0 (fun _ => false) (fun _ => false) := by
            have := hbe.size
            exact ⟨Bk.newAt (by simp) _ _, ((MapF.madeAt (E := boolE) rfl).alloc _).alloc _, (MapF.madeAt (E := boolE) (by simp)).alloc _, by show wl.heap.size + 1 + 1 ≠ wl.heap.size; omega, by show wl.heap.size + 1 + 1 ≠ wl.heap.size + 1; omega, by show wl.heap.size ≠ wl.heap.size + 1; omega, by show w.heap.size ≤ wl.heap.size + 1 + 1; omega, by show w.heap.size ≤ wl.heap.size; omega, by show w.heap.size ≤ wl.heap.size + 1; omega, by simp; omega⟩
          have HK := Lib.hid hck
          have HB := Lib.hid hbe3
          have k0 := kc.cell 0
          have k1 := kc.cell 1
          have k2 := kc.cell 2
          have k3 := kc.cell 3
          have k4 := kc.cell 4
          have c4 := HC.out.cell 4
          have hz := hbe.size
          have hlz := kc.lt
          clear hR hbe hbe3 hck kc
          have hz2 := HC.out.lt
          obtain ⟨wz, hwz⟩ : ∃ wz, wz = wl := ⟨_, rfl⟩
          subst hwz
          go_wp2_with fail
          clear k0 k1 k2 k3 k4 c4 hz2
          go_loopw [71] (fun i wr => ∃ (k : Nat) (f g : Int → Bool), k ≤ ll.length ∧ i = .int .i64 k ∧ Below w.heap.size w wr ∧ Bk wr w.heap.size 26 #[.int .i64 nr, .int .i64 ns, .slice Ai li.length ci, .slice Ak lk.length ck, .slice Al ll.length cl] ∧ Chk wr w.heap.size ⟨wz.heap.size + 1 + 1, wz.heap.size, wz.heap.size + 1⟩ ⟨nr, ns, Ai, ci, li, Ak, ck, lk, Al, cl, ll⟩ k f g ∧ Hid (goodL nr ns li.length lk.length (ll.drop k) f g = R)) (fun i _ => ll.length - (intOf i).toNat)
          case atStart => exact ⟨0, _, _, Nat.zero_le _, rfl, HB.out, HC.out, HK.out, HR⟩
          case round =>
            clear HB HC HR HK
            obtain ⟨k, f, g, hk, rfl, hbe, kc, hK, hR⟩ := hrel
            rename World => wl
            by_cases hlt : k < ll.length
            · obtain ⟨bb, oo, rfl, hb, hc⟩ := (rl.below hbe).elem (f := InsV.cells) (n := 4) (fun _ => rfl) (by omega) hlt
              have hR := hR.out
              rw [List.drop_eq_getElem_cons hlt, goodL] at hR
              have hemp : (ll.drop (k + 1)).isEmpty = ((k : Int) == ((ll.length : Int) - 1)) := by
                rw [Bool.eq_iff_iff, List.isEmpty_iff]
                simp only [List.drop_eq_nil_iff, beq_iff_eq]
                omega
              rw [hemp] at hR
              obtain ⟨ho, hd, ha, hbI⟩ := fl ll[k] (by simp)
              generalize ll[k] = x at *
              obtain ⟨op, dst, a, b⟩ := x
              have ha : I64 a := ha
              have hbI : I64 b := hbI
              have hd : I64 dst := hd
              have hc0 : wl.cell? ⟨bb, oo + k * 4, none⟩ = some (.int .i64 op) := hc 0 _ rfl
              have hc1 : wl.cell? ⟨bb, oo + k * 4 + 1, none⟩ = some (.int .i64 dst) := hc 1 _ rfl
              have hc2 : wl.cell? ⟨bb, oo + k * 4 + 2, none⟩ = some (.int .i64 a) := hc 2 _ rfl
              have hc3 : wl.cell? ⟨bb, oo + k * 4 + 3, none⟩ = some (.int .i64 b) := hc 3 _ rfl
              have hsz := hbe.size
              have kx := Bk.new wl 43 #[.int .i64 op, .int .i64 dst, .int .i64 a, .int .i64 b]
              have ba : Below wl.heap.size wl (wl.alloc (.cells #[.int .i64 op, .int .i64 dst, .int .i64 a, .int .i64 b] 43)) := (Below.refl _ _).alloc (Nat.le_refl _) _
              have hK := hK.old ba
              have kc := kc.old ba
              have hbe := hbe.trans (ba.mono hbe.size)
              obtain ⟨X, hX⟩ : ∃ X, rightB nr ns li.length lk.length ⟨op, dst, a, b⟩ f g = X := ⟨_, rfl⟩
              have hrt : ∀ w' : World, Below (wl.alloc (.cells #[.int .i64 op, .int .i64 dst, .int .i64 a, .int .i64 b] 43)).heap.size (wl.alloc (.cells #[.int .i64 op, .int .i64 dst, .int .i64 a, .int .i64 b] 43)) w' → Calls Try.prog 28 #[.pointer (some ⟨wz.heap.size + 1 + 1, 0, none⟩), .agg #[.int .i64 op, .int .i64 dst, .int .i64 a, .int .i64 b]] w' fun e w2 => e = .returned (.bool X) ∧ Below w'.heap.size w' w2 := by
                intro w' hw
                have := right_any ⟨op, dst, a, b⟩ ha hbI _ _ _ _ _ _ _ (hK.old hw)
                rw [show rightB nr ns li.length lk.length ⟨op, dst, a, b⟩ f g = X from hX] at this
                exact this
              rw [hX] at hR
              have hwr : IntKind.i64.wrap ((ll.length : Int) - 1) = (ll.length : Int) - 1 := by rw [IntKind.wrap_i64]; omega
              have HRT := Lib.hid hrt
              have HC := Lib.hid kc
              have HB := Lib.hid hbe
              have HK := Lib.hid hK
              have HX := Lib.hid kx
              have HR := Lib.hid hR
              have x0 := kx.cell 0
              have x1 := kx.cell 1
              have x2 := kx.cell 2
              have x3 := kx.cell 3
              have c4 := kc.cell 4
              clear hc ho hK kc hbe hrt hR hX hemp ba kx
              go_upto_region 19 with fail
              refine wp_region_s (fun qk => (gdR19 op dst a b X k bb oo cl ll w wz wl).getD qk .any) (by kernel_rfl) ?_ ?_
              · refine BOk.cons rfl [] [7] rfl rfl (by kernel_rfl) (by kernel_rfl) (fun qK qa wr hB qO qF hK => ?_) ?_
                · have e7 : qa.tmps[7]? = some (.pointer (some ⟨wz.heap.size + 1 + 1, 0, none⟩)) := qO.1.trans rfl
                  clear qO qF
                  go_simp
                  exact hK _ _ (Below.refl _ _) rfl
                refine BOk.cons rfl [] [9] rfl rfl (by kernel_rfl) (by kernel_rfl) (fun qK qa wr hB qO qF hK => ?_) ?_
                · have e9 : qa.tmps[9]? = some (.pointer (some ⟨wl.heap.size, 0, none⟩)) := qO.1.trans rfl
                  clear qO qF
                  have hx0 := (bcell hB _ _ (World.block_lt_of_cell? _ _ x0)).trans x0
                  have hx1 := (bcell hB _ _ (World.block_lt_of_cell? _ _ x1)).trans x1
                  have hx2 := (bcell hB _ _ (World.block_lt_of_cell? _ _ x2)).trans x2
                  have hx3 := (bcell hB _ _ (World.block_lt_of_cell? _ _ x3)).trans x3
                  go_simp
                  exact hK _ _ (Below.refl _ _) rfl
                refine BOk.cons rfl [0, 1] [] rfl rfl (by kernel_rfl) (by kernel_rfl) (fun qK qa wr hB qO qF hK => ?_) ?_
                · have e76 : qa.tmps[76]? = some (.pointer (some ⟨wz.heap.size + 1 + 1, 0, none⟩)) := fis qF.1 rfl rfl
                  have e77 : qa.tmps[77]? = some (.agg #[.int .i64 op, .int .i64 dst, .int .i64 a, .int .i64 b]) := fis qF.2.1 rfl rfl
                  clear qO qF
                  go_simp
                  go_at_call 28
                  refine (HRT.out _ hB).mono ?_
                  rintro e w2 ⟨rfl, hb2⟩
                  exact hK _ _ hb2 rfl
                refine BOk.cons rfl [2] [] rfl rfl (by kernel_rfl) (by kernel_rfl) (fun qK qa wr hB qO qF hK => ?_) ?_
                · have e78 : qa.tmps[78]? = some (.bool X) := fis qF.1 rfl rfl
                  clear qO qF
                  go_simp
                  exact hK _ _ (Below.refl _ _) rfl
                refine BOk.cons rfl [3] [] rfl rfl (by kernel_rfl) (by kernel_rfl) (fun qK qa wr hB qO qF hK => ?_) ?_
                · have e79 : qa.tmps[79]? = some (.bool (!X)) := fis qF.1 rfl rfl
                  clear qO qF
                  go_simp
                  exact hK _ _ (Below.refl _ _) (by first | rfl | (show (_ : Value) = _; simp_all; done))
                refine BOk.optT rfl [] [9] rfl 4 false rfl rfl rfl rfl (by kernel_rfl) (by kernel_rfl) (by kernel_rfl) (fun hp hc hP qK qa wr hB qO qF hK => ?_) ?_
                · have e9 : qa.tmps[9]? = some (.pointer (some ⟨wl.heap.size, 0, none⟩)) := qO.1.trans rfl
                  clear qO qF
                  go_simp
                  exact hK _ _ (Below.refl _ _) rfl
                refine BOk.optT rfl [5] [] rfl 4 false rfl rfl rfl rfl (by kernel_rfl) (by kernel_rfl) (by kernel_rfl) (fun hp hc hP qK qa wr hB qO qF hK => ?_) ?_
                · have e81 : qa.tmps[81]? = some (.pointer (some ⟨wl.heap.size, 0, none⟩)) := fif qF.1 rfl hP rfl
                  clear qO qF
                  have hx0 := (bcell hB _ _ (World.block_lt_of_cell? _ _ x0)).trans x0
                  go_simp
                  exact hK _ _ (Below.refl _ _) rfl
                refine BOk.optT rfl [6] [] rfl 4 false rfl rfl rfl rfl (by kernel_rfl) (by kernel_rfl) (by kernel_rfl) (fun hp hc hP qK qa wr hB qO qF hK => ?_) ?_
                · have e82 : qa.tmps[82]? = some (.int .i64 op) := fif qF.1 rfl hP rfl
                  clear qO qF
                  go_simp
                  refine hK _ _ (Below.refl _ _) ?_
                  show (_ : Value) = _
                  first | rfl | (simp; done) | (simp; omega) | (congr 1; simp; done) | (congr 1; rw [decide_eq_decide]; omega)
                refine BOk.optT rfl [] [8] rfl 4 false rfl rfl rfl rfl (by kernel_rfl) (by kernel_rfl) (by kernel_rfl) (fun hp hc hP qK qa wr hB qO qF hK => ?_) ?_
                · have e8 : qa.tmps[8]? = some (.int .i64 (k : Int)) := qO.1.trans rfl
                  clear qO qF
                  go_simp
                  exact hK _ _ (Below.refl _ _) rfl
                refine BOk.optT rfl [] [1] rfl 4 false rfl rfl rfl rfl (by kernel_rfl) (by kernel_rfl) (by kernel_rfl) (fun hp hc hP qK qa wr hB qO qF hK => ?_) ?_
                · have e1 : qa.tmps[1]? = some (.pointer (some ⟨w.heap.size, 0, none⟩)) := qO.1.trans rfl
                  clear qO qF
                  go_simp
                  exact hK _ _ (Below.refl _ _) rfl
                refine BOk.optT rfl [9] [] rfl 4 false rfl rfl rfl rfl (by kernel_rfl) (by kernel_rfl) (by kernel_rfl) (fun hp hc hP qK qa wr hB qO qF hK => ?_) ?_
                · have e85 : qa.tmps[85]? = some (.pointer (some ⟨w.heap.size, 4, none⟩)) := fif qF.1 rfl hP rfl
                  clear qO qF
                  have hc4 := (bcell hB _ _ (World.block_lt_of_cell? _ _ c4)).trans c4
                  go_simp
                  exact hK _ _ (Below.refl _ _) rfl
                refine BOk.optT rfl [10] [] rfl 4 false rfl rfl rfl rfl (by kernel_rfl) (by kernel_rfl) (by kernel_rfl) (fun hp hc hP qK qa wr hB qO qF hK => ?_) ?_
                · have e86 : qa.tmps[86]? = some (.slice (some ⟨bb, oo, none⟩) ll.length cl) := fif qF.1 rfl hP rfl
                  clear qO qF
                  go_simp
                  exact hK _ _ (Below.refl _ _) rfl
                refine BOk.optT rfl [11] [] rfl 4 false rfl rfl rfl rfl (by kernel_rfl) (by kernel_rfl) (by kernel_rfl) (fun hp hc hP qK qa wr hB qO qF hK => ?_) ?_
                · have e87 : qa.tmps[87]? = some (.int .i64 (ll.length : Nat)) := fif qF.1 rfl hP rfl
                  clear qO qF
                  go_simp
                  refine hK _ _ (Below.refl _ _) ?_
                  show (_ : Value) = _
                  first | rfl | (simp; done) | (simp; omega)
                refine BOk.optT rfl [8, 12] [] rfl 4 false rfl rfl rfl rfl (by kernel_rfl) (by kernel_rfl) (by kernel_rfl) (fun hp hc hP qK qa wr hB qO qF hK => ?_) ?_
                · have e84 : qa.tmps[84]? = some (.int .i64 (k : Int)) := fif qF.1 rfl hP rfl
                  have e88 : qa.tmps[88]? = some (.int .i64 ((ll.length : Int) - 1)) := fif qF.2.1 rfl hP rfl
                  clear qO qF
                  go_simp
                  refine hK _ _ (Below.refl _ _) ?_
                  show (_ : Value) = _
                  first | rfl | (simp; done) | (simp; omega) | (congr 1; simp; done) | (congr 1; rw [decide_eq_decide]; omega)
                refine BOk.optT rfl [7, 13] [] rfl 4 false rfl rfl rfl rfl (by kernel_rfl) (by kernel_rfl) (by kernel_rfl) (fun hp hc hP qK qa wr hB qO qF hK => ?_) ?_
                · have e83 : qa.tmps[83]? = some (.bool ((op == 52))) := fif qF.1 rfl hP rfl
                  have e89 : qa.tmps[89]? = some (.bool (((k : Int) == ((ll.length : Int) - 1)))) := fif qF.2.1 rfl hP rfl
                  clear qO qF
                  go_simp
                  refine hK _ _ (Below.refl _ _) ?_
                  show (_ : Value) = _
                  first | rfl | (simp; done) | (simp; omega) | (congr 1; simp; done)
                refine BOk.cons rfl [4, 14] [] rfl rfl (by kernel_rfl) (by kernel_rfl) (fun qK qa wr hB qO qF hK => ?_) ?_
                · have e80 : qa.tmps[80]? = some (.bool (!X)) := fis qF.1 rfl rfl
                  obtain ⟨u90, e90, r14⟩ := qF.2.1
                  have r14 : u90 = (bif (true && ((!X) == false)) then .bool (((op == 52)) != (((k : Int) == ((ll.length : Int) - 1)))) else undef) := r14
                  clear qO qF
                  rcases (Bool.eq_false_or_eq_true ((!X))).symm with hcc | hcc
                  · rw [hcc] at e80
                    have e90 : qa.tmps[90]? = some (.bool ((((op == 52)) != (((k : Int) == ((ll.length : Int) - 1)))))) := (show u90 = .bool ((((op == 52)) != (((k : Int) == ((ll.length : Int) - 1))))) from r14.trans (by (first | rw [hcc] | skip); first | rfl | (rw [hP]; rfl))) ▸ e90
                    go_simp
                    exact hK _ _ (Below.refl _ _) (by show (_ : Value) = _; first | (rw [hcc]; first | rfl | (simp; done)) | (simp_all; done))
                  · rw [hcc] at e80
                    go_simp
                    exact hK _ _ (Below.refl _ _) (by show (_ : Value) = _; first | (rw [hcc]; first | rfl | (simp; done)) | (simp_all; done))
                exact BOk.nil
              intro vals wr hl hB hR
              match vals, hl with
              | [z76, z77, z78, z79, z80, z81, z82, z83, z84, z85, z86, z87, z88, z89, z90, z91], _ =>
              have r15 : z91 = .bool ((!X) || (((op == 52)) != (((k : Int) == ((ll.length : Int) - 1))))) := hR 15 _ rfl
              subst r15
              clear hR
              simp only [List.cons_append, List.nil_append, putAll, Act.put, List.setIfInBounds_toArray, List.set_cons_zero, List.set_cons_succ]
              replace HC := Lib.hid (HC.out.old hB)
              replace HK := Lib.hid (HK.out.old hB)
              replace HX := Lib.hid (HX.out.old hB)
              replace HB := Lib.hid (HB.out.trans (hB.mono HB.out.size))
              clear hB x0 x1 x2 x3 c4 hwr HRT
              cases hD : ((!X) || (((op == 52)) != (((k : Int) == ((ll.length : Int) - 1)))))
              case true =>
                as_aux_lemma =>
                have hR : R = false := by
                  rw [← HR.out]
                  have hD := hD
                  generalize ((op == 52)) = p at hD ⊢
                  generalize ((k : Int) == ((ll.length : Int) - 1)) = q at hD ⊢
                  cases X <;> cases p <;> cases q <;> first | rfl | (simp at hD; done)
                go_wp2_with fail
                go_ret
                exact ⟨by first | rfl | exact ret_bool hR.symm, HB.out⟩
              have hR : goodL nr ns li.length lk.length (ll.drop (k + 1)) (if op = 53 ∨ op = 52 then f else updB f dst) (if op = 53 then updB g a else g) = R := by
                rw [← HR.out]
                have hD := hD
                generalize ((op == 52)) = p at hD ⊢
                generalize ((k : Int) == ((ll.length : Int) - 1)) = q at hD ⊢
                cases X <;> cases p <;> cases q <;> first | rfl | (simp at hD; done)
              clear hD HR
              have x0 := HX.out.cell 0
              by_cases h53 : op = 53
              · as_aux_lemma =>
                subst h53
                have HR := Lib.hid (show goodL nr ns li.length lk.length (ll.drop (k + 1)) f (updB g a) = R from hR)
                clear hR
                have m0 : wr.cell? ⟨wz.heap.size + 1 + 1, 6, none⟩ = some (.map (some (wz.heap.size + 1))) := HK.out.mb.cell 6
                have x2 := HX.out.cell 2
                go_wp2_with fail
                refine wp_region_t 6 (fun k => false) (by kernel_rfl) (fun qk => (gdR22 a wz wl).getD qk .any) (by kernel_rfl) ?_ ?_
                · refine BOk.cons rfl [] [7] rfl rfl (by kernel_rfl) (by kernel_rfl) (fun qK qa wr hB qO qF hK => ?_) ?_
                  · have e7 : qa.tmps[7]? = some (.pointer (some ⟨wz.heap.size + 1 + 1, 0, none⟩)) := qO.1.trans rfl
                    clear qO qF
                    go_simp
                    exact hK _ _ (Below.refl _ _) rfl
                  refine BOk.cons rfl [0] [] rfl rfl (by kernel_rfl) (by kernel_rfl) (fun qK qa wr hB qO qF hK => ?_) ?_
                  · have e95 : qa.tmps[95]? = some (.pointer (some ⟨wz.heap.size + 1 + 1, 0, none⟩)) := fis qF.1 rfl rfl
                    clear qO qF
                    go_simp
                    exact hK _ _ (Below.refl _ _) rfl
                  refine BOk.cons rfl [1] [] rfl rfl (by kernel_rfl) (by kernel_rfl) (fun qK qa wr hB qO qF hK => ?_) ?_
                  · have e96 : qa.tmps[96]? = some (.pointer (some ⟨wz.heap.size + 1 + 1, 0, none⟩)) := fis qF.1 rfl rfl
                    clear qO qF
                    go_simp
                    exact hK _ _ (Below.refl _ _) rfl
                  refine BOk.cons rfl [2] [] rfl rfl (by kernel_rfl) (by kernel_rfl) (fun qK qa wr hB qO qF hK => ?_) ?_
                  · have e97 : qa.tmps[97]? = some (.pointer (some ⟨wz.heap.size + 1 + 1, 6, none⟩)) := fis qF.1 rfl rfl
                    clear qO qF
                    have hm0 := (bcell hB _ _ (World.block_lt_of_cell? _ _ m0)).trans m0
                    go_simp
                    exact hK _ _ (Below.refl _ _) rfl
                  refine BOk.cons rfl [] [9] rfl rfl (by kernel_rfl) (by kernel_rfl) (fun qK qa wr hB qO qF hK => ?_) ?_
                  · have e9 : qa.tmps[9]? = some (.pointer (some ⟨wl.heap.size, 0, none⟩)) := qO.1.trans rfl
                    clear qO qF
                    go_simp
                    exact hK _ _ (Below.refl _ _) rfl
                  refine BOk.cons rfl [4] [] rfl rfl (by kernel_rfl) (by kernel_rfl) (fun qK qa wr hB qO qF hK => ?_) ?_
                  · have e99 : qa.tmps[99]? = some (.pointer (some ⟨wl.heap.size, 2, none⟩)) := fis qF.1 rfl rfl
                    clear qO qF
                    have hx2 := (bcell hB _ _ (World.block_lt_of_cell? _ _ x2)).trans x2
                    go_simp
                    exact hK _ _ (Below.refl _ _) rfl
                  exact BOk.nil
                intro vals wr hl hB hR hS
                match vals, hl with
                | [z95, z96, z97, z98, z99, z100], _ =>
                have r3 : z98 = .map (some (wz.heap.size + 1)) := hR 3 _ rfl
                subst r3
                have r5 : z100 = .int .i64 a := hR 5 _ rfl
                subst r5
                clear hS
                clear hR
                simp only [List.take_succ_cons, List.take_zero, List.drop_succ_cons, List.drop_zero, List.toList_toArray, List.cons_append, List.nil_append, putAll, Act.put, List.setIfInBounds_toArray, List.set_cons_zero, List.set_cons_succ]
                replace HC := Lib.hid (HC.out.old hB)
                replace HK := Lib.hid (HK.out.old hB)
                replace HB := Lib.hid (HB.out.trans (hB.mono HB.out.size))
                clear hB x0 x2 m0
                go_wp2_with (at_mapUpdate; refine wpList_putF boolE rfl _ _ _ 60 rfl 3 4 Try.underlying3 Try.underlying60 _ _ _ rfl HK.out.ss (by unfold maxLen; omega) _ rfl ha.wf true rfl ?_; intro w3 hm3 hg3)
                have hk3 := HK.out.putS hm3 hg3
                have hb3 := below_gb HB.out hg3 HB.out.size HK.out.b3
                have hc3 := HC.out.grown hg3 (by intro e; injection e with e; have := HK.out.b3; have : w.heap.size ≤ wz.heap.size + 1 := this; omega)
                go_wp2_with fail
                go_roundw
                case rel => exact ⟨k + 1, _, _, by omega, by go_num, hb3, hc3, hk3, HR⟩
                case measure => simp [intOf]; omega
              have g53 : (op == 53) = false := by rw [beq_eq_false_iff_ne]; exact h53
              by_cases h52 : op = 52
              · as_aux_lemma =>
                subst h52
                have HR := Lib.hid (show goodL nr ns li.length lk.length (ll.drop (k + 1)) f g = R from hR)
                clear hR
                go_wp2_with fail
                go_roundw
                case rel => exact ⟨k + 1, _, _, by omega, by go_num, HB.out, HC.out, HK.out.mono, HR⟩
                case measure => simp [intOf]; omega
              · as_aux_lemma =>
                have g52 : (op != 52) = true := by rw [bne_iff_ne]; exact h52
                rw [if_neg (show ¬ (op = 53 ∨ op = 52) by omega), if_neg h53] at hR
                have HR := Lib.hid hR
                clear hR
                have m0 : wr.cell? ⟨wz.heap.size + 1 + 1, 5, none⟩ = some (.map (some wz.heap.size)) := HK.out.mb.cell 5
                have x1 := HX.out.cell 1
                go_wp2_with fail
                refine wp_region_t 6 (fun k => false) (by kernel_rfl) (fun qk => (gdR24 dst wz wl).getD qk .any) (by kernel_rfl) ?_ ?_
                · refine BOk.cons rfl [] [7] rfl rfl (by kernel_rfl) (by kernel_rfl) (fun qK qa wr hB qO qF hK => ?_) ?_
                  · have e7 : qa.tmps[7]? = some (.pointer (some ⟨wz.heap.size + 1 + 1, 0, none⟩)) := qO.1.trans rfl
                    clear qO qF
                    go_simp
                    exact hK _ _ (Below.refl _ _) rfl
                  refine BOk.cons rfl [0] [] rfl rfl (by kernel_rfl) (by kernel_rfl) (fun qK qa wr hB qO qF hK => ?_) ?_
                  · have e104 : qa.tmps[104]? = some (.pointer (some ⟨wz.heap.size + 1 + 1, 0, none⟩)) := fis qF.1 rfl rfl
                    clear qO qF
                    go_simp
                    exact hK _ _ (Below.refl _ _) rfl
                  refine BOk.cons rfl [1] [] rfl rfl (by kernel_rfl) (by kernel_rfl) (fun qK qa wr hB qO qF hK => ?_) ?_
                  · have e105 : qa.tmps[105]? = some (.pointer (some ⟨wz.heap.size + 1 + 1, 0, none⟩)) := fis qF.1 rfl rfl
                    clear qO qF
                    go_simp
                    exact hK _ _ (Below.refl _ _) rfl
                  refine BOk.cons rfl [2] [] rfl rfl (by kernel_rfl) (by kernel_rfl) (fun qK qa wr hB qO qF hK => ?_) ?_
                  · have e106 : qa.tmps[106]? = some (.pointer (some ⟨wz.heap.size + 1 + 1, 5, none⟩)) := fis qF.1 rfl rfl
                    clear qO qF
                    have hm0 := (bcell hB _ _ (World.block_lt_of_cell? _ _ m0)).trans m0
                    go_simp
                    exact hK _ _ (Below.refl _ _) rfl
                  refine BOk.cons rfl [] [9] rfl rfl (by kernel_rfl) (by kernel_rfl) (fun qK qa wr hB qO qF hK => ?_) ?_
                  · have e9 : qa.tmps[9]? = some (.pointer (some ⟨wl.heap.size, 0, none⟩)) := qO.1.trans rfl
                    clear qO qF
                    go_simp
                    exact hK _ _ (Below.refl _ _) rfl
                  refine BOk.cons rfl [4] [] rfl rfl (by kernel_rfl) (by kernel_rfl) (fun qK qa wr hB qO qF hK => ?_) ?_
                  · have e108 : qa.tmps[108]? = some (.pointer (some ⟨wl.heap.size, 1, none⟩)) := fis qF.1 rfl rfl
                    clear qO qF
                    have hx1 := (bcell hB _ _ (World.block_lt_of_cell? _ _ x1)).trans x1
                    go_simp
                    exact hK _ _ (Below.refl _ _) rfl
                  exact BOk.nil
                intro vals wr hl hB hR hS
                match vals, hl with
                | [z104, z105, z106, z107, z108, z109], _ =>
                have r3 : z107 = .map (some (wz.heap.size)) := hR 3 _ rfl
                subst r3
                have r5 : z109 = .int .i64 dst := hR 5 _ rfl
                subst r5
                clear hS
                clear hR
                simp only [List.take_succ_cons, List.take_zero, List.drop_succ_cons, List.drop_zero, List.toList_toArray, List.cons_append, List.nil_append, putAll, Act.put, List.setIfInBounds_toArray, List.set_cons_zero, List.set_cons_succ]
                replace HC := Lib.hid (HC.out.old hB)
                replace HK := Lib.hid (HK.out.old hB)
                replace HB := Lib.hid (HB.out.trans (hB.mono HB.out.size))
                clear hB x0 x1 m0
                go_wp2_with (at_mapUpdate; refine wpList_putF boolE rfl _ _ _ 60 rfl 3 4 Try.underlying3 Try.underlying60 _ _ _ rfl HK.out.rr (by unfold maxLen; omega) _ rfl hd.wf true rfl ?_; intro w3 hm3 hg3)
                have hk3 := HK.out.putR hm3 hg3
                have hb3 := below_gb HB.out hg3 HB.out.size HK.out.b2
                have hc3 := HC.out.grown hg3 (by intro e; injection e with e; have := HK.out.b2; have : w.heap.size ≤ wz.heap.size := this; omega)
                go_wp2_with fail
                go_roundw
                case rel => exact ⟨k + 1, _, _, by omega, by go_num, hb3, hc3, hk3, HR⟩
                case measure => simp [intOf]; omega
            · obtain rfl : k = ll.length := by omega
              have hR := hR.out
              rw [List.drop_length] at hR
              go_wp2_with fail
              go_ret
              exact ⟨by rw [← hR]; rfl, hbe⟩
end Go.Proofs.Ytadblgfppnpamaa
