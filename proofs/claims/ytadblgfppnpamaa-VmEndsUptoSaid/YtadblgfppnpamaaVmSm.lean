/- Layer 18: two codes that are alike. No conditions. -/
import Derived.Test.YtadblgfppnpamaaVmP
namespace Go.Proofs.Ytadblgfppnpamaa
open Go.RowKit
set_option linter.unusedVariables false
set_option linter.unusedSimpArgs false

theorem neq_in (a b c d : Int) (w : World) : (binOp .neq 39 (.agg #[.int .i64 a, .int .i64 b, .int .i64 c, .int .i64 d]) (.agg #[.int .i64 a, .int .i64 b, .int .i64 c, .int .i64 d])).run Try.prog w = .ok (.bool false) w := by
  have h1 : Try.prog.stoodInHeld 39 = false := by kernel_rfl
  simp [go_sem, h1]
theorem neq_is (a b c d : Int) (w : World) : (binOp .neq 43 (.agg #[.int .i64 a, .int .i64 b, .int .i64 c, .int .i64 d]) (.agg #[.int .i64 a, .int .i64 b, .int .i64 c, .int .i64 d])).run Try.prog w = .ok (.bool false) w := by
  have h1 : Try.prog.stoodInHeld 43 = false := by kernel_rfl
  simp [go_sem, h1]
theorem neq_va (a b : Int) (w : World) : (binOp .neq 31 (.agg #[.int .i64 a, .int .u64 b]) (.agg #[.int .i64 a, .int .u64 b])).run Try.prog w = .ok (.bool false) w := by
  have h1 : Try.prog.stoodInHeld 31 = false := by kernel_rfl
  simp [go_sem, h1]
set_option maxRecDepth 100000 in
set_option maxHeartbeats 4000000 in
theorem same_any (x y : CodeV) (w : World) (hx : x.ok w w.heap.size) (hy : y.ok w w.heap.size) (e1 : x.nr = y.nr) (e2 : x.ns = y.ns) (e3 : x.li = y.li) (e4 : x.lk = y.lk) (e5 : x.ll = y.ll) :
    Calls Try.prog 11 #[x.val, y.val] w fun e w' => e = .returned (.bool true) ∧ Below w.heap.size w w' := by
  obtain ⟨nr, ns, Ai, ci, li, Ak, ck, lk, Al, cl, ll⟩ := x
  obtain ⟨nr2, ns2, Bi, di, li2, Bk_, dk, lk2, Bl, dl, ll2⟩ := y
  simp only at e1 e2 e3 e4 e5
  subst e1; subst e2; subst e3; subst e4; subst e5
  obtain ⟨ri, rk, rl, ni, nk, nl, fi, fk, fl, fr, fs⟩ := hx
  obtain ⟨si, sk, sl, _, _, _, _, _, _, _, _⟩ := hy
  simp only at ri rk rl ni nk nl si sk sl
  unfold CodeV.val
  have kc := (Bk.new w 26 #[.int .i64 nr, .int .i64 ns, .slice Ai li.length ci, .slice Ak lk.length ck, .slice Al ll.length cl]).alloc (.cells #[.int .i64 nr, .int .i64 ns, .slice Bi li.length di, .slice Bk_ lk.length dk, .slice Bl ll.length dl] 26)
  have kd := Bk.newAt (w := w.alloc (.cells #[.int .i64 nr, .int .i64 ns, .slice Ai li.length ci, .slice Ak lk.length ck, .slice Al ll.length cl] 26)) (g := w.heap.size + 1) (by simp) 26 #[.int .i64 nr, .int .i64 ns, .slice Bi li.length di, .slice Bk_ lk.length dk, .slice Bl ll.length dl]
  have hbe : Below w.heap.size w ((w.alloc (.cells #[.int .i64 nr, .int .i64 ns, .slice Ai li.length ci, .slice Ak lk.length ck, .slice Al ll.length cl] 26)).alloc (.cells #[.int .i64 nr, .int .i64 ns, .slice Bi li.length di, .slice Bk_ lk.length dk, .slice Bl ll.length dl] 26)) := ((Below.refl _ _).alloc (Nat.le_refl _) _).alloc (by simp) _
  have HC := Lib.hid kc
  have HD := Lib.hid kd
  have HB := Lib.hid hbe
  clear kc kd hbe fi fk fl fr fs
  have c1 := HC.out.cell 2
  go_enter Try.func11, Try.ntmps11
  go_wp2_with fail
  clear c1
  go_loopw [50] (fun i wr => ∃ k : Nat, k ≤ li.length ∧ i = .int .i64 k ∧ Below w.heap.size w wr ∧ Bk wr w.heap.size 26 #[.int .i64 nr, .int .i64 ns, .slice Ai li.length ci, .slice Ak lk.length ck, .slice Al ll.length cl] ∧ Bk wr (w.heap.size + 1) 26 #[.int .i64 nr, .int .i64 ns, .slice Bi li.length di, .slice Bk_ lk.length dk, .slice Bl ll.length dl]) (fun i _ => li.length - (intOf i).toNat)
  case atStart => exact ⟨0, Nat.zero_le _, rfl, HB.out, HC.out, HD.out⟩
  case round =>
    clear HB HC HD
    obtain ⟨k, hk, rfl, hbe, kc, kd⟩ := hrel
    by_cases hlt : k < li.length
    · as_aux_lemma =>
      obtain ⟨b1, o1, rfl, hb1, hc1⟩ := (ri.below hbe).elem (f := InputV.cells) (n := 4) (fun _ => rfl) (by omega) hlt
      obtain ⟨b2, o2, rfl, hb2, hc2⟩ := (si.below hbe).elem (f := InputV.cells) (n := 4) (fun _ => rfl) (by omega) hlt
      generalize li[k] = x at *
      have p0 : wr.cell? ⟨b1, o1 + k * 4, none⟩ = some (.int .i64 x.op) := hc1 0 _ rfl
      have q0 : wr.cell? ⟨b2, o2 + k * 4, none⟩ = some (.int .i64 x.op) := hc2 0 _ rfl
      have p1 : wr.cell? ⟨b1, o1 + k * 4 + 1, none⟩ = some (.int .i64 x.kind) := hc1 1 _ rfl
      have q1 : wr.cell? ⟨b2, o2 + k * 4 + 1, none⟩ = some (.int .i64 x.kind) := hc2 1 _ rfl
      have p2 : wr.cell? ⟨b1, o1 + k * 4 + 2, none⟩ = some (.int .i64 x.pos) := hc1 2 _ rfl
      have q2 : wr.cell? ⟨b2, o2 + k * 4 + 2, none⟩ = some (.int .i64 x.pos) := hc2 2 _ rfl
      have p3 : wr.cell? ⟨b1, o1 + k * 4 + 3, none⟩ = some (.int .i64 x.attr) := hc1 3 _ rfl
      have q3 : wr.cell? ⟨b2, o2 + k * 4 + 3, none⟩ = some (.int .i64 x.attr) := hc2 3 _ rfl
      have hneq := neq_in x.op x.kind x.pos x.attr
      have c1 := kc.cell 2
      have c2 := kd.cell 2
      have HC := Lib.hid kc
      have HD := Lib.hid kd
      have HB := Lib.hid hbe
      clear hc1 hc2 kc kd hbe
      go_wp2_with fail
      go_region
      go_wp2_with fail
      go_roundw
      case rel => exact ⟨k + 1, by omega, by go_num, Below.drew HB.out, HC.out, HD.out⟩
      case measure => simp [intOf]; omega
    · obtain rfl : k = li.length := by omega
      have HC := Lib.hid kc
      have HD := Lib.hid kd
      have HB := Lib.hid hbe
      clear kc kd hbe
      have c1 := HC.out.cell 3
      go_wp2_with fail
      clear c1
      go_loopw [68] (fun i wr => ∃ k : Nat, k ≤ lk.length ∧ i = .int .i64 k ∧ Below w.heap.size w wr ∧ Bk wr w.heap.size 26 #[.int .i64 nr, .int .i64 ns, .slice Ai li.length ci, .slice Ak lk.length ck, .slice Al ll.length cl] ∧ Bk wr (w.heap.size + 1) 26 #[.int .i64 nr, .int .i64 ns, .slice Bi li.length di, .slice Bk_ lk.length dk, .slice Bl ll.length dl]) (fun i _ => lk.length - (intOf i).toNat)
      case atStart => exact ⟨0, Nat.zero_le _, rfl, HB.out, HC.out, HD.out⟩
      case round =>
        clear HB HC HD
        obtain ⟨k, hk, rfl, hbe, kc, kd⟩ := hrel
        by_cases hlt : k < lk.length
        · as_aux_lemma =>
          obtain ⟨b1, o1, rfl, hb1, hc1⟩ := (rk.below hbe).elem (f := V.cells) (n := 2) (fun _ => rfl) (by omega) hlt
          obtain ⟨b2, o2, rfl, hb2, hc2⟩ := (sk.below hbe).elem (f := V.cells) (n := 2) (fun _ => rfl) (by omega) hlt
          generalize lk[k] = x at *
          have p0 : wr.cell? ⟨b1, o1 + k * 2, none⟩ = some (.int .i64 x.k) := hc1 0 _ rfl
          have q0 : wr.cell? ⟨b2, o2 + k * 2, none⟩ = some (.int .i64 x.k) := hc2 0 _ rfl
          have p1 : wr.cell? ⟨b1, o1 + k * 2 + 1, none⟩ = some (.int .u64 x.b) := hc1 1 _ rfl
          have q1 : wr.cell? ⟨b2, o2 + k * 2 + 1, none⟩ = some (.int .u64 x.b) := hc2 1 _ rfl
          have hneq := neq_va x.k x.b
          have c1 := kc.cell 3
          have c2 := kd.cell 3
          have HC := Lib.hid kc
          have HD := Lib.hid kd
          have HB := Lib.hid hbe
          clear hc1 hc2 kc kd hbe
          go_wp2_with fail
          go_region
          go_wp2_with fail
          go_roundw
          case rel => exact ⟨k + 1, by omega, by go_num, Below.drew HB.out, HC.out, HD.out⟩
          case measure => simp [intOf]; omega
        · obtain rfl : k = lk.length := by omega
          have HC := Lib.hid kc
          have HD := Lib.hid kd
          have HB := Lib.hid hbe
          clear kc kd hbe
          have c1 := HC.out.cell 4
          go_wp2_with fail
          clear c1
          go_loopw [86] (fun i wr => ∃ k : Nat, k ≤ ll.length ∧ i = .int .i64 k ∧ Below w.heap.size w wr ∧ Bk wr w.heap.size 26 #[.int .i64 nr, .int .i64 ns, .slice Ai li.length ci, .slice Ak lk.length ck, .slice Al ll.length cl] ∧ Bk wr (w.heap.size + 1) 26 #[.int .i64 nr, .int .i64 ns, .slice Bi li.length di, .slice Bk_ lk.length dk, .slice Bl ll.length dl]) (fun i _ => ll.length - (intOf i).toNat)
          case atStart => exact ⟨0, Nat.zero_le _, rfl, HB.out, HC.out, HD.out⟩
          case round =>
            clear HB HC HD
            obtain ⟨k, hk, rfl, hbe, kc, kd⟩ := hrel
            by_cases hlt : k < ll.length
            · as_aux_lemma =>
              obtain ⟨b1, o1, rfl, hb1, hc1⟩ := (rl.below hbe).elem (f := InsV.cells) (n := 4) (fun _ => rfl) (by omega) hlt
              obtain ⟨b2, o2, rfl, hb2, hc2⟩ := (sl.below hbe).elem (f := InsV.cells) (n := 4) (fun _ => rfl) (by omega) hlt
              generalize ll[k] = x at *
              have p0 : wr.cell? ⟨b1, o1 + k * 4, none⟩ = some (.int .i64 x.op) := hc1 0 _ rfl
              have q0 : wr.cell? ⟨b2, o2 + k * 4, none⟩ = some (.int .i64 x.op) := hc2 0 _ rfl
              have p1 : wr.cell? ⟨b1, o1 + k * 4 + 1, none⟩ = some (.int .i64 x.dst) := hc1 1 _ rfl
              have q1 : wr.cell? ⟨b2, o2 + k * 4 + 1, none⟩ = some (.int .i64 x.dst) := hc2 1 _ rfl
              have p2 : wr.cell? ⟨b1, o1 + k * 4 + 2, none⟩ = some (.int .i64 x.a) := hc1 2 _ rfl
              have q2 : wr.cell? ⟨b2, o2 + k * 4 + 2, none⟩ = some (.int .i64 x.a) := hc2 2 _ rfl
              have p3 : wr.cell? ⟨b1, o1 + k * 4 + 3, none⟩ = some (.int .i64 x.b) := hc1 3 _ rfl
              have q3 : wr.cell? ⟨b2, o2 + k * 4 + 3, none⟩ = some (.int .i64 x.b) := hc2 3 _ rfl
              have hneq := neq_is x.op x.dst x.a x.b
              have c1 := kc.cell 4
              have c2 := kd.cell 4
              have HC := Lib.hid kc
              have HD := Lib.hid kd
              have HB := Lib.hid hbe
              clear hc1 hc2 kc kd hbe
              go_wp2_with fail
              go_region
              go_wp2_with fail
              go_roundw
              case rel => exact ⟨k + 1, by omega, by go_num, Below.drew HB.out, HC.out, HD.out⟩
              case measure => simp [intOf]; omega
            · obtain rfl : k = ll.length := by omega
              have HC := Lib.hid kc
              have HD := Lib.hid kd
              have HB := Lib.hid hbe
              clear kc kd hbe
              go_wp2_with fail
              go_ret
              exact ⟨rfl, HB.out⟩
end Go.Proofs.Ytadblgfppnpamaa
