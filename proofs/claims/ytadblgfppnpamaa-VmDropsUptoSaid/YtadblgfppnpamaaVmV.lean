/- Layer 18: the document's Drop. No conditions. -/
import Derived.Test.YtadblgfppnpamaaVmU
import Derived.Test.YtadblgfppnpamaaVmK
namespace Go.Proofs.Ytadblgfppnpamaa
open Go.RowKit
set_option linter.unusedVariables false
set_option linter.unusedSimpArgs false

theorem wpList_insF {α : Type} {P : Program} {w : World} {ops : Array Oper} {rest : List Oper} {o : Oper} {a : Act} {Q : Exit → Act → World → Prop} (E : Elem α) (hg : o.guard = none) (m x v : Operand) (t : TypeId) (hop : o.op = Op.insert t m x v) (k e : TypeId) (hk : P.underlying k = some (.int .i64)) (ht : P.underlying t = some (.map k e))
    (b n : Nat) (f : Int → α) (hm : a.eval m = .map (some b)) (h : MapF P k E w b n f) (hn : n < maxLen) (i : Int) (hx : a.eval x = .int .i64 i) (hi : (Lit.int .i64 i).wf = true) (y : α) (hv : a.eval v = E.val y)
    (hK : ∀ w', MapF P k E w' b (n + 1) (fun j => if j = i then y else f j) → w.grownBy w' (some b) → wpList P ops Q rest (a.put o.dst undef) w') : wpList P ops Q (o :: rest) a w := by
  refine wpList_plain hg fun K' hK' => ?_
  obtain ⟨w', hrun, r1, r2⟩ := h.put hk ht hn i hi y
  unfold Oper.wp
  simp [execOp, hop, hm, hx, hv, hrun, Result.andThen]
  exact hK' _ _ (hK w' r1 r2)
theorem zeroMI (w : World) : (zeroValue 3).run Try.prog w = .ok (intE.val intE.zero) w := by kernel_rfl
def MapI (w : World) (b n : Nat) (f : Int → Int) : Prop := MapF Try.prog 3 intE w b n f
theorem cell_grown {w w' : World} {row : Option Nat} (h : w.grownBy w' row) {p : Addr} {v : Value} (hc : w.cell? p = some v) (hne : some p.block ≠ row) : w'.cell? p = some v := by
  rw [← hc]
  unfold World.cell?
  rw [h.block p.block (World.block_lt_of_cell? _ _ hc) hne]
theorem MapF.noCell {α : Type} {P : Program} {k : TypeId} {E : Elem α} {w : World} {b n : Nat} {f : Int → α} (h : MapF P k E w b n f) (i : Nat) : w.cell? ⟨b, i, none⟩ = none := by
  obtain ⟨D, ⟨es, clock, hb, _⟩, _⟩ := h
  simp [World.cell?, hb]
theorem wf_small {n : Int} (h0 : -1048577 ≤ n) (h1 : n ≤ 1048577) : (Lit.int .i64 n).wf = true := by
  simp [Lit.wf]
  have e1 : IntKind.i64.min = -9223372036854775808 := by rfl
  have e2 : IntKind.i64.max = 9223372036854775807 := by rfl
  omega
theorem OutOk.far {w w' : World} {g base q : Nat} {o : CodeV} (h : OutOk w g base o) (hg : w.grownBy w' (some q)) (h1 : g ≠ q) (h2 : q < base) : OutOk w' g base o :=
  ⟨h.bk.grown hg (by intro e; injection e with e; exact h1 e), h.oi.kept hg (.inr fun e => by have := (h.oi.lt _ e).1; omega), h.ok.kept hg (.inr fun e => by have := (h.ok.lt _ e).1; omega), h.ol.kept hg (.inr fun e => by have := (h.ol.lt _ e).1; omega)⟩
theorem infoCd2 : (Try.prog.info? 26).map (fun i => (i.zero, i.size)) = some (some (.agg #[.int .i64 0, .int .i64 0, .slice none 0 0, .slice none 0 0, .slice none 0 0]), 5) := by kernel_rfl
theorem isAgg_code (w : World) : (isAgg 26).run Try.prog w = .ok true w := by simp [isAgg, go_sem]
theorem size_code (w : World) : (sizeOf 26).run Try.prog w = .ok 5 w := by
  have h := infoCd2
  cases hi : Try.prog.info? 26 with
  | none => rw [hi] at h; cases h
  | some i =>
    rw [hi] at h
    simp only [Option.map_some, Option.some.injEq, Prod.mk.injEq] at h
    simp [sizeOf, typeInfo, hi, h.2]
theorem sc_step {w : World} {g i : Nat} {v : Value} {rest : List Value} {t : TypeId} {cs : Array Value} (hb : Bk w g t cs) (hi : i < cs.size) (hv : v.oneCell' = true) :
    (storeCells ⟨g, 0, none⟩ (v :: rest) i).run Try.prog w = (storeCells ⟨g, 0, none⟩ rest (i + 1)).run Try.prog (w.setCell ⟨g, i, none⟩ v) := by
  have e : ((⟨g, 0, none⟩ : Addr).add i) = ⟨g, i, none⟩ := by unfold Addr.add; by_cases hj : i = 0 <;> simp [hj]
  have hc : w.cell? ⟨g, i, none⟩ = some cs[i] := by rw [hb.cell i]; simp [hi]
  have hf := hb.frozen i
  have hs : (store ⟨g, i, none⟩ v).run Try.prog w = .ok () (w.setCell ⟨g, i, none⟩ v) := by
    cases v <;> first | (simp [store, Sem.run, hc, hf]; done) | (simp [Value.oneCell'] at hv; done)
  simp [storeCells, e, hs]
/-- Behind the store of a code: its block holds the cells, all others are as they were. -/
structure Put5 (w : World) (g : Nat) (t : TypeId) (cs : Array Value) (w' : World) : Prop where
  bk : Bk w' g t cs
  size : w'.heap.size = w.heap.size
  other : ∀ b : Nat, b ≠ g → w'.heap[b]? = w.heap[b]?
  below : ∀ (B : Nat) (a0 : World), Below B a0 w → B ≤ g → Below B a0 w'
theorem run_store5 {w : World} {g : Nat} {t : TypeId} {c0 c1 c2 c3 c4 d0 d1 d2 d3 d4 : Value} (h : Bk w g t #[c0, c1, c2, c3, c4]) (h0 : d0.oneCell' = true) (h1 : d1.oneCell' = true) (h2 : d2.oneCell' = true) (h3 : d3.oneCell' = true) (h4 : d4.oneCell' = true) :
    ∃ w', (Instr.storeAt 26 (.pointer (some ⟨g, 0, none⟩)) (.agg #[d0, d1, d2, d3, d4])).run Try.prog w = .ok () w' ∧ Put5 w g t #[d0, d1, d2, d3, d4] w' := by
  have b1 := h.put 0 d0
  have b2 := b1.put 1 d1
  have b3 := b2.put 2 d2
  have b4 := b3.put 3 d3
  have b5 := b4.put 4 d4
  have hall : (storeCells ⟨g, 0, none⟩ [d0, d1, d2, d3, d4] 0).run Try.prog w = .ok () _ :=
    (sc_step h (by simp) h0).trans ((sc_step b1 (by simp) h1).trans ((sc_step b2 (by simp) h2).trans ((sc_step b3 (by simp) h3).trans ((sc_step b4 (by simp) h4).trans rfl))))
  have hrun : (Instr.storeAt 26 (.pointer (some ⟨g, 0, none⟩)) (.agg #[d0, d1, d2, d3, d4])).run Try.prog w = (storeCells ⟨g, 0, none⟩ [d0, d1, d2, d3, d4] 0).run Try.prog w := by
    simp [Instr.storeAt, storeVar, Instr.sureAddr, size_code, Value.cells]
  have so : ∀ (w : World) (i : Nat) (u : Value) (b : Nat), b ≠ g → (w.setCell ⟨g, i, none⟩ u).heap[b]? = w.heap[b]? := fun w i u b hb => Below.heap_setCell w _ u b hb
  exact ⟨_, hrun.trans hall, by simpa using b5, by simp, fun b hb => by rw [so _ _ _ _ hb, so _ _ _ _ hb, so _ _ _ _ hb, so _ _ _ _ hb, so _ _ _ _ hb], fun B a0 hb hg => ((((hb.setCell hg _).setCell hg _).setCell hg _).setCell hg _).setCell hg _⟩
theorem wpList_put5 {w : World} {ops : Array Oper} {rest : List Oper} {op : Oper} {a : Act} {Q : Exit → Act → World → Prop} {g : Nat} {c0 c1 c2 c3 c4 d0 d1 d2 d3 d4 : Value}
    (hg : op.guard = none) (x y : Operand) (hop : op.op = Op.store 26 x y) (hx : a.eval x = .pointer (some ⟨g, 0, none⟩)) (hy : a.eval y = .agg #[d0, d1, d2, d3, d4]) {t : TypeId} (h : Bk w g t #[c0, c1, c2, c3, c4])
    (h1 : (d0.oneCell' && d1.oneCell' && d2.oneCell' && d3.oneCell' && d4.oneCell') = true)
    (hK : ∀ w' : World, Put5 w g t #[d0, d1, d2, d3, d4] w' → wpList Try.prog ops Q rest (a.put op.dst undef) w') : wpList Try.prog ops Q (op :: rest) a w := by
  refine wpList_plain hg fun K' hK' => ?_
  simp only [Bool.and_eq_true] at h1
  obtain ⟨⟨⟨⟨e0, e1⟩, e2⟩, e3⟩, e4⟩ := h1
  obtain ⟨w', hr, hp⟩ := run_store5 h e0 e1 e2 e3 e4
  unfold Oper.wp
  simp [execOp, hop, hx, hy, hr, Result.andThen]
  exact hK' _ _ (hK _ hp)
theorem own_other {w w' : World} {base e size n q : Nat} {v : Value} {xs : List Value} (h : w.ownsRow base e size v n xs) (ho : ∀ b : Nat, b ≠ q → w'.heap[b]? = w.heap[b]?) (hlt : q < base) : w'.ownsRow base e size v n xs := by
  refine ⟨h.1, ?_⟩
  rcases h.2 with h0 | ⟨g, cap, cur, hv, hb0, hh, hr⟩
  · exact .inl h0
  · exact .inr ⟨g, cap, cur, hv, hb0, (ho g (by omega)).trans hh, hr⟩
theorem flat_lastZ : ∀ (l : List InsV), l ≠ [] → (lastZ l).flatMap InsV.cells = (l.flatMap InsV.cells).set ((l.length - 1) * 4 + 1) (.int .i64 0)
  | [], h => absurd rfl h
  | [x], _ => rfl
  | x :: y :: l, _ => by
    have e : lastZ (x :: y :: l) = x :: lastZ (y :: l) := by
      unfold lastZ
      rw [show (x :: y :: l).length - 1 = ((y :: l).length - 1) + 1 by simp, List.modify_succ_cons]
    rw [e, List.flatMap_cons, List.flatMap_cons, flat_lastZ (y :: l) (by simp)]
    rw [List.set_append_right _ _ (by simp [InsV.cells]; omega)]
    congr 2
    simp [InsV.cells]
    omega
theorem infoIs2 : (Try.prog.info? 43).map (fun i => (i.zero, i.size, i.bytes)) = some (some (.agg #[.int .i64 0, .int .i64 0, .int .i64 0, .int .i64 0]), 4, 32) := by kernel_rfl
def drR25 (op av bv : Int) (g px base : Nat) (A3 : Option Addr) (q3 : Nat) (l3 : List InsV) (w : World) : List Spec := [.is (.pointer (some ⟨g, 0, none⟩)),
  .is (.pointer (some ⟨g, 0, none⟩)),
  .is (.pointer (some ⟨g, 0, none⟩)),
  .is (.pointer (some ⟨g, 4, none⟩)),
  .is (.slice A3 l3.length q3),
  .is (.pointer (some ⟨px, 0, none⟩)),
  .is (.int .i64 op),
  .is (.pointer (some ⟨g, 0, none⟩)),
  .is (.pointer (some ⟨g, 0, none⟩)),
  .is (.pointer (some ⟨g, 4, none⟩)),
  .is (.slice A3 l3.length q3),
  .is (.int .i64 (l3.length : Nat)),
  .is (.int .i64 av),
  .is (.int .i64 bv),
  .is (.agg #[.int .i64 op, .int .i64 (l3.length : Nat), .int .i64 av, .int .i64 bv]),
  .st (fun v w => ∃ g, v = .slice (some ⟨g, 0, none⟩) 1 1 ∧ Bk w g 43 #[.int .i64 op, .int .i64 (l3.length : Nat), .int .i64 av, .int .i64 bv]) (fun _ _ _ hb ⟨g, h1, h2⟩ => ⟨g, h1, h2.old hb⟩),
  .st (fun v w => ∃ (A : Option Addr) (c : Nat), v = .slice A (l3.length + 1) c ∧ w.ownsRow base 43 4 (.slice A (l3.length + 1) c) (l3.length + 1) (l3.flatMap InsV.cells ++ [.int .i64 op, .int .i64 (l3.length : Nat), .int .i64 av, .int .i64 bv])) (fun _ _ _ hb ⟨A, c, h1, h2⟩ => ⟨A, c, h1, own_old h2 hb⟩),
  .is (.pointer (some ⟨g, 0, none⟩)),
  .is (.pointer (some ⟨g, 4, none⟩))]
def drR28 (g b3 L q3 L1 : Nat) (w : World) : List Spec := [.is (.pointer (some ⟨g, 0, none⟩)),
  .is (.pointer (some ⟨g, 0, none⟩)),
  .is (.pointer (some ⟨g, 4, none⟩)),
  .is (.slice (some ⟨b3, 0, none⟩) L q3),
  .is (.pointer (some ⟨g, 0, none⟩)),
  .is (.pointer (some ⟨g, 0, none⟩)),
  .is (.pointer (some ⟨g, 0, none⟩)),
  .is (.int .i64 (L1 : Nat))]
/-- What is left, told: its parts in memory of their own. -/
def DropOk (cd : CodeV) (w : World) (e : Ending) (w' : World) : Prop :=
  ∃ d : CodeV, e = .returned d.val ∧ d.nr = (((dropF cd).ll.length - 1 : Nat) : Int) ∧ d.ns = 0 ∧ d.li = (dropF cd).li ∧ d.lk = (dropF cd).lk ∧ d.ll = lastZ (dropF cd).ll ∧ Rd w' w'.heap.size d.Ai (d.li.flatMap InputV.cells) ∧ Rd w' w'.heap.size d.Ak (d.lk.flatMap V.cells) ∧ Rd w' w'.heap.size d.Al (d.ll.flatMap InsV.cells) ∧ Below w.heap.size w w'

set_option maxRecDepth 100000 in
set_option maxHeartbeats 20000000 in
theorem pdrop_any (cd : CodeV) (N : Nat) (hp : PlainV cd N) (hl : cd.ll.length ≤ 1024) (w : World) (h : cd.ok w w.heap.size) : Calls Try.prog 15 #[cd.val] w (DropOk cd w) := by
  obtain ⟨p1, p2, p3, p4, p5⟩ := hp
  obtain ⟨iS, hS, hS0, hS1, hS2⟩ := info_parts infoIs2
  have HRR : Hid (∀ (i : Nat) (x : InsV), cd.ll[i]? = some x → ∀ r ∈ readsL x, 0 ≤ r ∧ r < i) := Lib.hid fun i x hx => plain_reads (p5 i x hx)
  have HPL := Lib.hid p5
  obtain ⟨nr, ns, Ai, ci, li, Ak, ck, lk, Al, cl, ll⟩ := cd
  obtain ⟨ri, rk, rl, ni, nk, nl, fi, fk, fl, fr, fs⟩ := h
  simp only at p1 p2 p4 ri rk rl ni nk nl fi fk fl fr fs hl
  subst p1; subst p2
  have HRI := Lib.hid ri
  have HRK := Lib.hid rk
  have HRL := Lib.hid rl
  show Calls Try.prog 15 #[.agg #[.int .i64 (N : Nat), .int .i64 0, .slice Ai li.length ci, .slice Ak lk.length ck, .slice Al ll.length cl]] w _
  generalize hF : dropF ⟨(N : Nat), 0, Ai, ci, li, Ak, ck, lk, Al, cl, ll⟩ = FF
  have hDOK : ∀ (e : Ending) (w' : World), (∃ (A1 : Option Addr) (q1 : Nat) (A2 : Option Addr) (q2 : Nat) (A3 : Option Addr) (q3 : Nat), e = .returned (.agg #[.int .i64 ((FF.ll.length - 1 : Nat) : Int), .int .i64 0, .slice A1 FF.li.length q1, .slice A2 FF.lk.length q2, .slice A3 FF.ll.length q3]) ∧ Rd w' w'.heap.size A1 (FF.li.flatMap InputV.cells) ∧ Rd w' w'.heap.size A2 (FF.lk.flatMap V.cells) ∧ Rd w' w'.heap.size A3 ((lastZ FF.ll).flatMap InsV.cells) ∧ Below w.heap.size w w') → DropOk ⟨(N : Nat), 0, Ai, ci, li, Ak, ck, lk, Al, cl, ll⟩ w e w' := by
    rintro e w' ⟨A1, q1, A2, q2, A3, q3, he, h1, h2, h3, h4⟩
    unfold DropOk
    rw [hF]
    refine ⟨⟨((FF.ll.length - 1 : Nat) : Int), 0, A1, q1, FF.li, A2, q2, FF.lk, A3, q3, lastZ FF.ll⟩, ?_, rfl, rfl, rfl, rfl, rfl, h1, h2, h3, h4⟩
    rw [he]
    show _ = Ending.returned (.agg #[.int .i64 ((FF.ll.length - 1 : Nat) : Int), .int .i64 0, .slice A1 FF.li.length q1, .slice A2 FF.lk.length q2, .slice A3 (lastZ FF.ll).length q3])
    rw [show (lastZ FF.ll).length = FF.ll.length from by unfold lastZ; simp]
  have HDOK := Lib.hid hDOK
  have hF2 : dropL li lk (needB ll ll.length (updB (fun _ => false) (N : Nat))) ll 0 ⟨[], [], [], fun _ => 0⟩ = FF := hF
  generalize hNE : needB ll ll.length (updB (fun _ => false) (N : Nat)) = NEED at hF2
  have hnt : NEED (N : Nat) = true := by rw [← hNE]; exact need_top (fun i x hx r hm => (HRR.out i x hx r hm).2) p4
  have HF := Lib.hid hF2
  have HNE := Lib.hid hNE
  have HNT := Lib.hid hnt
  have HLP : Hid (1 ≤ FF.ll.length) := Lib.hid (by rw [← hF2]; have := dropL_more li lk NEED hnt ll 0 ⟨[], [], [], fun _ => 0⟩ (by omega) (by omega); simpa using this)
  clear ri rk rl fi fk fl fr fs hF hF2 hNE hnt hDOK p5
  generalize DropOk ⟨(N : Nat), 0, Ai, ci, li, Ak, ck, lk, Al, cl, ll⟩ w = PST at *
  obtain ⟨n1, hn1⟩ : ∃ n1, li.length = n1 := ⟨_, rfl⟩
  obtain ⟨n2, hn2⟩ : ∃ n2, lk.length = n2 := ⟨_, rfl⟩
  obtain ⟨n, hn⟩ : ∃ n, ll.length = n := ⟨_, rfl⟩
  rw [hn1, hn2, hn]
  have HN1 := Lib.hid hn1
  have HN2 := Lib.hid hn2
  have HN := Lib.hid hn
  rw [hn] at hl nl
  have hNn : n = N + 1 := by omega
  have hNl : N ≤ 1024 := by omega
  have HNN := Lib.hid hNn
  have hwfN : (Lit.int .i64 (N : Nat)).wf = true := wf_small (by omega) (by omega)
  clear hn1 hn2 hn hNn p4 nl
  have hb2 : Below w.heap.size w ((w.alloc (.cells #[.int .i64 (N : Nat), .int .i64 0, .slice Ai n1 ci, .slice Ak n2 ck, .slice Al n cl] 26)).alloc (.cells #[.int .i64 0, .int .i64 0, .slice none 0 0, .slice none 0 0, .slice none 0 0] 26)) := ((Below.refl _ _).alloc (Nat.le_refl _) _).alloc (by simp) _
  have kc0 := (Bk.new w 26 #[.int .i64 (N : Nat), .int .i64 0, .slice Ai n1 ci, .slice Ak n2 ck, .slice Al n cl]).alloc (.cells #[.int .i64 0, .int .i64 0, .slice none 0 0, .slice none 0 0, .slice none 0 0] 26)
  have kz0 := Bk.newAt (w := w.alloc (.cells #[.int .i64 (N : Nat), .int .i64 0, .slice Ai n1 ci, .slice Ak n2 ck, .slice Al n cl] 26)) (g := w.heap.size + 1) (by simp) 26 #[.int .i64 0, .int .i64 0, .slice none 0 0, .slice none 0 0, .slice none 0 0]
  have km := MapF.madeAt (P := Try.prog) (k := 3) (E := boolE) (w := (w.alloc (.cells #[.int .i64 (N : Nat), .int .i64 0, .slice Ai n1 ci, .slice Ak n2 ck, .slice Al n cl] 26)).alloc (.cells #[.int .i64 0, .int .i64 0, .slice none 0 0, .slice none 0 0, .slice none 0 0] 26)) (b := w.heap.size + 2) (by simp)
  have hbm : Below w.heap.size w (((w.alloc (.cells #[.int .i64 (N : Nat), .int .i64 0, .slice Ai n1 ci, .slice Ak n2 ck, .slice Al n cl] 26)).alloc (.cells #[.int .i64 0, .int .i64 0, .slice none 0 0, .slice none 0 0, .slice none 0 0] 26)).alloc (.map #[] 0)) := hb2.alloc (by simp; omega) _
  have c0 : (((w.alloc (.cells #[.int .i64 (N : Nat), .int .i64 0, .slice Ai n1 ci, .slice Ak n2 ck, .slice Al n cl] 26)).alloc (.cells #[.int .i64 0, .int .i64 0, .slice none 0 0, .slice none 0 0, .slice none 0 0] 26)).alloc (.map #[] 0)).cell? ⟨w.heap.size, 0, none⟩ = some (.int .i64 (N : Nat)) := (kc0.alloc _).cell 0
  have hmm := @run_makeMap Try.prog
  go_enter Try.func15, Try.ntmps15
  go_wp2_with (refine wpList_insF boolE rfl _ _ _ 60 rfl 3 4 Try.underlying3 Try.underlying60 _ _ _ rfl km (by unfold maxLen; omega) _ rfl hwfN true rfl ?_; intro w3 hm3 hg3; have hcz : w3.cell? ⟨w.heap.size, 0, none⟩ = some (.int .i64 (N : Nat)) := cell_grown hg3 c0 (by intro e; injection e with e; have e : w.heap.size = w.heap.size + 2 := e; omega))
  have hb3 : Below w.heap.size w w3 := below_gb hbm hg3 (by simp; omega) (by omega)
  have kc3 : Bk w3 w.heap.size 26 #[.int .i64 (N : Nat), .int .i64 0, .slice Ai n1 ci, .slice Ak n2 ck, .slice Al n cl] := (kc0.alloc (.map #[] 0)).grown hg3 (by intro e; injection e with e; omega)
  have kz3 : Bk w3 (w.heap.size + 1) 26 #[.int .i64 0, .int .i64 0, .slice none 0 0, .slice none 0 0, .slice none 0 0] := (kz0.alloc (.map #[] 0)).grown hg3 (by intro e; injection e with e; omega)
  have hm4 : MapB w3 (w.heap.size + 2) 1 (updB (fun _ => false) (N : Nat)) := hm3
  have hne0 : Hid (needB ll n (updB (fun _ => false) (N : Nat)) = NEED) := Lib.hid (by rw [← HN.out]; exact HNE.out)
  have hst : ((N : Int)) = (n : Int) - 1 := by have := HNN.out; omega
  have HST := Lib.hid hst
  clear hb2 kc0 kz0 km hbm hg3 hm3 hst HNE c0 hcz
  go_loopw [4] (fun i wr => ∃ (k cnt : Nat) (f : Int → Bool), k ≤ n ∧ i = .int .i64 ((k : Int) - 1) ∧ cnt + 2 * k ≤ 2 * n + 1 ∧ Below w.heap.size w wr ∧ Bk wr w.heap.size 26 #[.int .i64 (N : Nat), .int .i64 0, .slice Ai n1 ci, .slice Ak n2 ck, .slice Al n cl] ∧ Bk wr (w.heap.size + 1) 26 #[.int .i64 0, .int .i64 0, .slice none 0 0, .slice none 0 0, .slice none 0 0] ∧ MapB wr (w.heap.size + 2) cnt f ∧ Hid (needB ll k f = NEED)) (fun i _ => (intOf i + 1).toNat)
  case atStart => exact ⟨n, 1, _, Nat.le_refl _, by rw [HST.out], by omega, hb3, kc3, kz3, hm4, hne0⟩
  case round =>
    rename World => wa
    clear hb3 kc3 kz3 hm4 hne0
    obtain ⟨k0, cnt, f, hk, rfl, hcnt, hbe, kc, kz, km, hne⟩ := hrel
    cases k0 with
    | succ k =>
      as_aux_lemma =>
      have hlt : k < ll.length := by rw [HN.out]; omega
      obtain ⟨bb, oo, rfl, hb, hc⟩ := (HRL.out.below hbe).elem (f := InsV.cells) (n := 4) (fun _ => rfl) (by omega) hlt
      have hxk : ll[k]? = some ll[k] := List.getElem?_eq_getElem hlt
      generalize ll[k] = x at *
      have hrr := HRR.out k x hxk
      have hnext : needB ll k (if f k = true then addAll f (readsL x) else f) = NEED := by
        rw [← hne.out]
        show _ = needB ll k (if f (k : Int) = true then (match ll[k]? with | some x => addAll f (readsL x) | none => f) else f)
        rw [hxk]
      have hrd := fun w' => reads_any x w'
      obtain ⟨rs, hrs⟩ : ∃ rs, readsL x = rs := ⟨_, rfl⟩
      have hrl : rs.length ≤ 2 := by
        rw [← hrs]
        unfold readsL
        split
        · simp
        · rw [List.length_take]; simp; omega
      rw [hrs] at hrd hrr hnext
      obtain ⟨op, dst, a, b⟩ := x
      have y0 : wa.cell? ⟨bb, oo + k * 4, none⟩ = some (.int .i64 op) := hc 0 _ rfl
      have y1 : wa.cell? ⟨bb, oo + k * 4 + 1, none⟩ = some (.int .i64 dst) := hc 1 _ rfl
      have y2 : wa.cell? ⟨bb, oo + k * 4 + 2, none⟩ = some (.int .i64 a) := hc 2 _ rfl
      have y3 : wa.cell? ⟨bb, oo + k * 4 + 3, none⟩ = some (.int .i64 b) := hc 3 _ rfl
      have c4 : wa.cell? ⟨w.heap.size, 4, none⟩ = some (.slice (some ⟨bb, oo, none⟩) n cl) := kc.cell 4
      have HRD := Lib.hid hrd
      have HRS := Lib.hid hrr
      have HNX := Lib.hid hnext
      have hkn : k < n := by omega
      clear hc hxk hrd hrs hrr hnext hlt hne
      rw [show (((k + 1 : Nat) : Int) - 1) = (k : Int) by omega]
      go_wp2_with fail
      refine (HRD.out _).mono ?_
      rintro e w5 ⟨q, cq, rfl, hcell, hq, hlc, hb5⟩
      have hbe5 := hbe.trans (hb5.mono hbe.size)
      have kc5 := kc.old hb5
      have kz5 := kz.old hb5
      have km5 : MapB w5 (w.heap.size + 2) cnt f := MapF.old km hb5
      have hqm : 0 < rs.length → q ≠ w.heap.size + 2 := fun h0 e => by
        subst e
        have h1 := hcell 0 h0
        have h2 := MapF.noCell km5 (0 + 0)
        rw [h2] at h1; cases h1
      have HCELL := Lib.hid hcell
      have HQM := Lib.hid hqm
      clear y0 y1 y2 y3 c4 HRD hb5 hcell hqm kc kz km hbe
      go_wp2_with fail
      go_loopw [30] (fun i wr => ∃ (m cnt2 : Nat) (f2 : Int → Bool), m ≤ rs.length ∧ i = .int .i64 m ∧ cnt2 ≤ cnt + m ∧ Below w.heap.size w wr ∧ Bk wr w.heap.size 26 #[.int .i64 (N : Nat), .int .i64 0, .slice Ai n1 ci, .slice Ak n2 ck, .slice (some ⟨bb, oo, none⟩) n cl] ∧ Bk wr (w.heap.size + 1) 26 #[.int .i64 0, .int .i64 0, .slice none 0 0, .slice none 0 0, .slice none 0 0] ∧ MapB wr (w.heap.size + 2) cnt2 f2 ∧ Hid (f2 = if f k = true then addAll f (rs.take m) else f) ∧ Hid (∀ (j : Nat) (h : j < rs.length), wr.cell? ⟨q, 0 + j, none⟩ = some (.int .i64 rs[j]))) (fun i _ => rs.length - (intOf i).toNat)
      case atStart => exact ⟨0, cnt, f, Nat.zero_le _, rfl, Nat.le_refl _, hbe5, kc5, kz5, km5, Lib.hid (by split <;> rfl), HCELL⟩
      case round =>
        rename World => wb
        clear hbe5 kc5 kz5 km5 HCELL
        obtain ⟨m, cnt2, f2, hm, rfl, hc2, hbe, kc, kz, km, hf2, hcell⟩ := hrel
        by_cases hlm : m < rs.length
        · have q0 : wb.cell? ⟨q, m, none⟩ = some (.int .i64 rs[m]) := by have := hcell.out m hlm; rwa [Nat.zero_add] at this
          have hr := HRS.out rs[m] (List.getElem_mem hlm)
          have hfk : f2 k = f k := by
            rw [hf2.out]
            split
            · rename_i h; rw [h]; exact addAll_mono h
            · rfl
          have hnx : (if f k = true then addAll f (rs.take (m + 1)) else f) = if f k = true then updB f2 rs[m] else f2 := by
            rw [hf2.out]
            split
            · rw [List.take_succ_eq_append_getElem hlm]
              unfold addAll
              rw [List.foldl_append]; rfl
            · rfl
          generalize rs[m] = r at *
          have hwk : (Lit.int .i64 (k : Nat)).wf = true := wf_small (by omega) (by omega)
          have hwr : (Lit.int .i64 r).wf = true := wf_small (by omega) (by omega)
          have hzb : ∀ w : World, (zeroValue 4).run Try.prog w = .ok (boolE.val boolE.zero) w := fun w => zeroMB w
          have HNX2 := Lib.hid hnx
          have HR := Lib.hid hr
          cases hfv : f k with
          | true =>
            as_aux_lemma =>
            rw [hfv] at hfk
            have HFV := Lib.hid hfv
            clear hr hnx hf2 HNX
            go_wp2_with (first | (at_lookup; refine wpList_lookF boolE rfl _ _ 60 rfl 3 4 Try.underlying3 Try.underlying60 (hzb _) _ _ _ rfl km _ rfl hwk ?_; rw [hfk]; dsimp only [boolE]) | (at_mapUpdate; refine wpList_putF boolE rfl _ _ _ 60 rfl 3 4 Try.underlying3 Try.underlying60 _ _ _ rfl km (by unfold maxLen; omega) _ rfl hwr true rfl ?_; intro w9 hm9 hg9))
            have hb9 := below_gb hbe hg9 hbe.size (by omega)
            have kc9 := kc.grown hg9 (by intro e; injection e with e; omega)
            have kz9 := kz.grown hg9 (by intro e; injection e with e; omega)
            have hcell9 : ∀ (j : Nat) (h : j < rs.length), w9.cell? ⟨q, 0 + j, none⟩ = some (.int .i64 rs[j]) := fun j h => cell_grown hg9 (hcell.out j h) (by intro e; injection e with e; exact HQM.out (by omega) e)
            have HC9 := Lib.hid hcell9
            clear hcell9 hcell hg9 km kc kz hbe q0
            go_roundw
            case rel => exact ⟨m + 1, cnt2 + 1, _, by omega, by go_num, by omega, hb9, kc9, kz9, hm9, Lib.hid (by have h := HNX2.out; simp [HFV.out] at h; first | exact h.symm | (simp; exact h.symm)), HC9⟩
            case measure => simp [intOf]; omega
          | false =>
            as_aux_lemma =>
            rw [hfv] at hfk
            have HFV := Lib.hid hfv
            clear hr hnx hf2 HNX
            go_wp2_with (at_lookup; refine wpList_lookF boolE rfl _ _ 60 rfl 3 4 Try.underlying3 Try.underlying60 (hzb _) _ _ _ rfl km _ rfl hwk ?_; rw [hfk]; dsimp only [boolE])
            go_roundw
            case rel => exact ⟨m + 1, cnt2, f2, by omega, by go_num, by omega, hbe, kc, kz, km, Lib.hid (by have h := HNX2.out; simp [HFV.out] at h; first | exact h.symm | (simp; exact h.symm)), hcell⟩
            case measure => simp [intOf]; omega
        · as_aux_lemma =>
          obtain rfl : m = rs.length := by omega
          have hne2 : Hid (needB ll k f2 = NEED) := Lib.hid (by rw [hf2.out, List.take_length]; exact HNX.out)
          clear hcell hf2 HNX HQM HRS
          go_wp2_with fail
          go_roundw
          case rel => exact ⟨k, cnt2, f2, by omega, by go_num, by omega, hbe, kc, kz, km, hne2⟩
          case measure => first | (simp [intOf]; done) | (simp [intOf]; omega)
    | zero =>
      as_aux_lemma =>
      rw [show (((0 : Nat) : Int) - 1) = -1 from rfl]
      have HFN : Hid (f = NEED) := Lib.hid hne.out
      have c4 : ((wa.alloc (.cells #[.int .i64 0, .int .i64 0, .slice none 0 0, .slice none 0 0, .slice none 0 0] 26)).alloc (.map #[] 0)).cell? ⟨w.heap.size, 4, none⟩ = some (.slice Al n cl) := ((kc.alloc (.cells #[.int .i64 0, .int .i64 0, .slice none 0 0, .slice none 0 0, .slice none 0 0] 26)).alloc (.map #[] 0)).cell 4
      clear hne
      have hsg : w.heap.size + 2 < wa.heap.size := MapF.lt km
      have ko : OutOk ((wa.alloc (.cells #[.int .i64 0, .int .i64 0, .slice none 0 0, .slice none 0 0, .slice none 0 0] 26)).alloc (.map #[] 0)) wa.heap.size (wa.heap.size + 2) ⟨0, 0, none, 0, [], none, 0, [], none, 0, []⟩ :=
        ⟨(Bk.new wa 26 #[.int .i64 0, .int .i64 0, .slice none 0 0, .slice none 0 0, .slice none 0 0]).alloc _, World.ownsRow_nil _ _ _ _, World.ownsRow_nil _ _ _ _, World.ownsRow_nil _ _ _ _⟩
      have kmi : MapI ((wa.alloc (.cells #[.int .i64 0, .int .i64 0, .slice none 0 0, .slice none 0 0, .slice none 0 0] 26)).alloc (.map #[] 0)) (wa.heap.size + 1) 0 (fun _ => 0) := MapF.madeAt (P := Try.prog) (k := 3) (E := intE) (w := wa.alloc (.cells #[.int .i64 0, .int .i64 0, .slice none 0 0, .slice none 0 0, .slice none 0 0] 26)) (b := wa.heap.size + 1) (by simp)
      have hbw : Below w.heap.size w ((wa.alloc (.cells #[.int .i64 0, .int .i64 0, .slice none 0 0, .slice none 0 0, .slice none 0 0] 26)).alloc (.map #[] 0)) := (hbe.alloc hbe.size _).alloc (by simp; have := hbe.size; omega) _
      have kcw := (kc.alloc (.cells #[.int .i64 0, .int .i64 0, .slice none 0 0, .slice none 0 0, .slice none 0 0] 26)).alloc (.map #[] 0)
      have kzw := (kz.alloc (.cells #[.int .i64 0, .int .i64 0, .slice none 0 0, .slice none 0 0, .slice none 0 0] 26)).alloc (.map #[] 0)
      have kmw : MapB ((wa.alloc (.cells #[.int .i64 0, .int .i64 0, .slice none 0 0, .slice none 0 0, .slice none 0 0] 26)).alloc (.map #[] 0)) (w.heap.size + 2) cnt f := (MapF.alloc km _).alloc _
      have hF0 : Hid (dropL li lk NEED (ll.drop 0) 0 ⟨[], [], [], fun _ => 0⟩ = FF) := Lib.hid HF.out
      have hcn : cnt ≤ 2 * n + 1 := by omega
      clear kc kz km hbe hcnt
      go_wp2_with fail
      clear c4
      generalize wa.heap.size = g at *
      generalize ((wa.alloc (.cells #[.int .i64 0, .int .i64 0, .slice none 0 0, .slice none 0 0, .slice none 0 0] 26)).alloc (.map #[] 0)) = wc at *
      go_loopw [46] (fun i wr => ∃ (k : Nat) (st : DropS) (A1 : Option Addr) (q1 : Nat) (A2 : Option Addr) (q2 : Nat) (A3 : Option Addr) (q3 : Nat), k ≤ n ∧ i = .int .i64 k ∧ Below w.heap.size w wr ∧ Bk wr w.heap.size 26 #[.int .i64 (N : Nat), .int .i64 0, .slice Ai n1 ci, .slice Ak n2 ck, .slice Al n cl] ∧ Bk wr (w.heap.size + 1) 26 #[.int .i64 0, .int .i64 0, .slice none 0 0, .slice none 0 0, .slice none 0 0] ∧ MapB wr (w.heap.size + 2) cnt f ∧
        MapI wr (g + 1) k st.bec ∧ OutOk wr g (g + 2) ⟨0, 0, A1, q1, st.li, A2, q2, st.lk, A3, q3, st.ll⟩ ∧ st.li.length ≤ k ∧ st.lk.length ≤ k ∧ st.ll.length ≤ k ∧ Hid (dropL li lk NEED (ll.drop k) k st = FF)) (fun i _ => n - (intOf i).toNat)
      case atStart => exact ⟨0, ⟨[], [], [], fun _ => 0⟩, none, 0, none, 0, none, 0, Nat.zero_le _, rfl, hbw, kcw, kzw, kmw, kmi, ko, Nat.le_refl _, Nat.le_refl _, Nat.le_refl _, hF0⟩
      case round =>
        rename World => wr
        clear hbw kcw kzw kmw kmi ko hF0
        obtain ⟨k, st, A1, q1, A2, q2, A3, q3, hk, rfl, hbe, kc, kz, km, kmi, ko, hl1, hl2, hl3, hF⟩ := hrel
        by_cases hlt : k < n
        · as_aux_lemma =>
          have hltl : k < ll.length := by rw [HN.out]; exact hlt
          obtain ⟨bb, oo, rfl, hb, hc⟩ := (HRL.out.below hbe).elem (f := InsV.cells) (n := 4) (fun _ => rfl) (by omega) hltl
          have hxk : ll[k]? = some ll[k] := List.getElem?_eq_getElem hltl
          have hdr : ll.drop k = ll[k] :: ll.drop (k + 1) := List.drop_eq_getElem_cons hltl
          rw [hdr] at hF
          clear hdr
          generalize ll[k] = x at *
          have hpx := HPL.out k x hxk
          obtain ⟨op, dst, a, b⟩ := x
          have y0 : wr.cell? ⟨bb, oo + k * 4, none⟩ = some (.int .i64 op) := hc 0 _ rfl
          have y1 : wr.cell? ⟨bb, oo + k * 4 + 1, none⟩ = some (.int .i64 dst) := hc 1 _ rfl
          have y2 : wr.cell? ⟨bb, oo + k * 4 + 2, none⟩ = some (.int .i64 a) := hc 2 _ rfl
          have y3 : wr.cell? ⟨bb, oo + k * 4 + 3, none⟩ = some (.int .i64 b) := hc 3 _ rfl
          have hwk : (Lit.int .i64 (k : Nat)).wf = true := wf_small (by omega) (by omega)
          have hzb : ∀ w : World, (zeroValue 4).run Try.prog w = .ok (boolE.val boolE.zero) w := fun w => zeroMB w
          have hzi : ∀ w : World, (zeroValue 3).run Try.prog w = .ok (intE.val intE.zero) w := fun w => zeroMI w
          have hbx := hbe.alloc hbe.size (.cells #[.int .i64 op, .int .i64 dst, .int .i64 a, .int .i64 b] 43)
          have kcx := kc.alloc (.cells #[.int .i64 op, .int .i64 dst, .int .i64 a, .int .i64 b] 43)
          have kzx := kz.alloc (.cells #[.int .i64 op, .int .i64 dst, .int .i64 a, .int .i64 b] 43)
          have kmx : MapB (wr.alloc (.cells #[.int .i64 op, .int .i64 dst, .int .i64 a, .int .i64 b] 43)) (w.heap.size + 2) cnt f := MapF.alloc km _
          have kix : MapI (wr.alloc (.cells #[.int .i64 op, .int .i64 dst, .int .i64 a, .int .i64 b] 43)) (g + 1) k st.bec := MapF.alloc kmi _
          have hbxx : Below wr.heap.size wr (wr.alloc (.cells #[.int .i64 op, .int .i64 dst, .int .i64 a, .int .i64 b] 43)) := (Below.refl _ _).alloc (Nat.le_refl _) _
          have kox := ko.old hbxx
          have kx := Bk.new wr 43 #[.int .i64 op, .int .i64 dst, .int .i64 a, .int .i64 b]
          have hgz : g + 1 < wr.heap.size := MapF.lt kmi
          have hrow1 : ∀ q, (Value.slice A1 st.li.length q1).ownBlock = some q → g + 2 ≤ q ∧ q < wr.heap.size := fun q h => ko.oi.lt q h
          have hrow2 : ∀ q, (Value.slice A2 st.lk.length q2).ownBlock = some q → g + 2 ≤ q ∧ q < wr.heap.size := fun q h => ko.ok.lt q h
          have hrow3 : ∀ q, (Value.slice A3 st.ll.length q3).ownBlock = some q → g + 2 ≤ q ∧ q < wr.heap.size := fun q h => ko.ol.lt q h
          have hfn : f k = NEED k := by rw [HFN.out]
          have HP := Lib.hid hpx
          have HW := Lib.hid hbxx
          clear hc hxk kc kz km kmi ko hbe hpx hbxx
          cases hnk : NEED k with
          | false =>
            as_aux_lemma =>
            have hfk : f k = false := hfn.trans hnk
            have hF1 : Hid (dropL li lk NEED (ll.drop (k + 1)) (k + 1) st = FF) := Lib.hid (by
              have := hF.out
              unfold dropL at this
              rwa [if_neg (by rw [hnk]; simp)] at this)
            clear hF hfn hnk HP kx
            go_wp2_with (at_lookup; refine wpList_lookF boolE rfl _ _ 60 rfl 3 4 Try.underlying3 Try.underlying60 (hzb _) _ _ _ rfl kmx _ rfl hwk ?_; rw [hfk]; dsimp only [boolE])
            go_roundw
            case rel => exact ⟨k + 1, st, A1, q1, A2, q2, A3, q3, by omega, by go_num, hbx, kcx, kzx, kmx, MapF.mono kix (Nat.le_succ _), kox, by omega, by omega, by omega, hF1⟩
            case measure => simp [intOf]; omega
          | true =>
            have hfk : f k = true := hfn.trans hnk
            have hF1 : Hid (dropL li lk NEED (ll.drop (k + 1)) (k + 1) (dropStep li lk k ⟨op, dst, a, b⟩ st) = FF) := Lib.hid (by
              have := hF.out
              unfold dropL at this
              rwa [if_pos hnk] at this)
            have hwa : (Lit.int .i64 a).wf = true := by
              have h1 := HP.out.ap
              have h1 : 0 ≤ a := h1
              have h2 : a ≤ 1048577 := by
                by_cases h50 : op = 50
                · have := HP.out.ina h50
                  have : a < (li.length : Int) := this
                  omega
                by_cases h51 : op = 51
                · have := HP.out.ka h51
                  have : a < (lk.length : Int) := this
                  omega
                by_cases h0 : opnd op = 0
                · rcases HP.out.known h0 with h | h | h
                  · exact absurd h h50
                  · exact absurd h h51
                  · have := HP.out.ta (HP.out.tell.1 h)
                    have : a < (k : Int) := this
                    omega
                · have := HP.out.regs (show 0 < opnd op by omega)
                  have : a < (k : Int) := this.1
                  omega
              exact wf_small (by omega) h2
            have hwb : (Lit.int .i64 b).wf = true := by
              have h1 : 0 ≤ b := HP.out.bp
              have h2 : b ≤ 1048577 := by
                by_cases h0 : opnd op < 2
                · have : b = 0 := HP.out.b0 h0
                  omega
                · have := HP.out.regs (show 0 < opnd op by omega)
                  have : b < k := this.2
                  omega
              exact wf_small (by omega) h2
            have x0 : (wr.alloc (.cells #[.int .i64 op, .int .i64 dst, .int .i64 a, .int .i64 b] 43)).cell? ⟨wr.heap.size, 0, none⟩ = some (.int .i64 op) := kx.cell 0
            have x2 : (wr.alloc (.cells #[.int .i64 op, .int .i64 dst, .int .i64 a, .int .i64 b] 43)).cell? ⟨wr.heap.size, 2, none⟩ = some (.int .i64 a) := kx.cell 2
            have x3 : (wr.alloc (.cells #[.int .i64 op, .int .i64 dst, .int .i64 a, .int .i64 b] 43)).cell? ⟨wr.heap.size, 3, none⟩ = some (.int .i64 b) := kx.cell 3
            have e4 : (wr.alloc (.cells #[.int .i64 op, .int .i64 dst, .int .i64 a, .int .i64 b] 43)).cell? ⟨g, 4, none⟩ = some (.slice A3 st.ll.length q3) := kox.bk.cell 4
            obtain ⟨m, hm⟩ : ∃ m, opnd op = m := ⟨_, rfl⟩
            have hop : ∀ w', Calls Try.prog 22 #[.int .i64 op] w' fun e w2 => e = .returned (.int .i64 (m : Nat)) ∧ w' = w2 := fun w' => by rw [← hm]; exact operands_any op w'
            have HOP := Lib.hid hop
            clear hF hfn hnk hop
            by_cases h2 : m = 2
            · as_aux_lemma =>
              have h50 : op ≠ 50 := fun e => by rw [e, opnd50] at hm; omega
              have h51 : op ≠ 51 := fun e => by rw [e, opnd51] at hm; omega
              have g50 : (op == 50) = false := by rw [beq_eq_false_iff_ne]; exact h50
              have g51 : (op == 51) = false := by rw [beq_eq_false_iff_ne]; exact h51
              have hds : dropStep li lk k ⟨op, dst, a, b⟩ st = ⟨st.li, st.lk, st.ll ++ [⟨op, st.ll.length, st.bec a, st.bec b⟩], updI st.bec k st.ll.length⟩ := by
                unfold dropStep
                simp only [if_neg h50, if_neg h51]
                rw [if_pos (hm.trans h2)]
              rw [hds] at hF1
              subst h2
              clear hds hm h50 h51
              go_wp2_with (first | (at_lookup; refine wpList_lookF boolE rfl _ _ 60 rfl 3 4 Try.underlying3 Try.underlying60 (hzb _) _ _ _ rfl kmx _ rfl hwk ?_; rw [hfk]; dsimp only [boolE]) | (at_lookup; refine wpList_lookF intE rfl _ _ 67 rfl 3 3 Try.underlying3 Try.underlying67 (hzi _) _ _ _ rfl kix _ rfl (by first | exact hwa | exact hwb) ?_; dsimp only [intE]))
              refine (HOP.out _).mono ?_
              rintro e w9 ⟨rfl, rfl⟩
              clear HOP
              generalize hpxe : wr.heap.size = px at *
              go_upto_region 25 with (first | (at_lookup; refine wpList_lookF intE rfl _ _ 67 rfl 3 3 Try.underlying3 Try.underlying67 (hzi _) _ _ _ rfl kix _ rfl (by first | exact hwa | exact hwb) ?_; dsimp only [intE]) | (at_mapUpdate; refine wpList_putF intE rfl _ _ _ 67 rfl 3 3 Try.underlying3 Try.underlying67 _ _ _ rfl kix (by unfold maxLen; omega) _ rfl hwk (st.ll.length : Int) rfl ?_; intro w7 hm7 hg7))
              have hbx7 : Below w.heap.size w w7 := below_gb hbx hg7 hbx.size (by omega)
              have kc7 := kcx.grown hg7 (by intro e; injection e with e; omega)
              have kz7 := kzx.grown hg7 (by intro e; injection e with e; omega)
              have km7 : MapB w7 (w.heap.size + 2) cnt f := MapF.grown kmx hg7 (by intro e; injection e with e; omega)
              have ki7 : MapI w7 (g + 1) (k + 1) (updI st.bec k st.ll.length) := hm7
              have ko7 := kox.far hg7 (by omega) (by omega)
              have kx7 := kx.grown hg7 (by intro e; injection e with e; omega)
              have x0 : w7.cell? ⟨px, 0, none⟩ = some (.int .i64 op) := kx7.cell 0
              have e4 : w7.cell? ⟨g, 4, none⟩ = some (.slice A3 st.ll.length q3) := ko7.bk.cell 4
              have HOWN := Lib.hid ko7.ol
              have HKO := Lib.hid ko7
              have hz7 : g + 2 ≤ w7.heap.size := by have := MapF.lt ki7; omega
              have HF1 := Lib.hid hF1.out
              clear hg7 hm7 kcx kzx kmx kix kox kx hbx kx7 ko7 hF1
              generalize hav : (st.bec a : Int) = av at *
              generalize hbv : (st.bec b : Int) = bv at *
              refine wp_region_l 19 16 ((Value.slice A3 st.ll.length q3).ownBlock) (by decide) (by kernel_rfl) (fun qk => (drR25 op av bv g px (g + 2) A3 q3 st.ll w7).getD qk .any) (by kernel_rfl) ?_ ?_
              · refine BOkL.pure rfl [] [7] rfl rfl (by kernel_rfl) (by kernel_rfl) (.pointer (some ⟨g, 0, none⟩)) rfl (fun qK qa wr qO qF hK => ?_) ?_
                · have e7 : qa.tmps[7]? = some (.pointer (some ⟨g, 0, none⟩)) := qO.1.trans rfl
                  clear qO qF
                  go_simp
                  exact hK
                refine BOkL.cons rfl [] [7] rfl _ rfl (by kernel_rfl) rfl (by kernel_rfl) (by kernel_rfl) (fun qK qa wr hB qO qF hK => ?_) ?_
                · have e7 : qa.tmps[7]? = some (.pointer (some ⟨g, 0, none⟩)) := qO.1.trans rfl
                  clear qO qF
                  go_simp
                  exact hK _ _ (Below.refl _ _) rfl
                refine BOkL.cons rfl [1] [] rfl _ rfl (by kernel_rfl) rfl (by kernel_rfl) (by kernel_rfl) (fun qK qa wr hB qO qF hK => ?_) ?_
                · have e97 : qa.tmps[97]? = some (.pointer (some ⟨g, 0, none⟩)) := fis qF.1 rfl rfl
                  clear qO qF
                  go_simp
                  exact hK _ _ (Below.refl _ _) rfl
                refine BOkL.cons rfl [2] [] rfl _ rfl (by kernel_rfl) rfl (by kernel_rfl) (by kernel_rfl) (fun qK qa wr hB qO qF hK => ?_) ?_
                · have e98 : qa.tmps[98]? = some (.pointer (some ⟨g, 0, none⟩)) := fis qF.1 rfl rfl
                  clear qO qF
                  go_simp
                  exact hK _ _ (Below.refl _ _) rfl
                refine BOkL.cons rfl [3] [] rfl _ rfl (by kernel_rfl) rfl (by kernel_rfl) (by kernel_rfl) (fun qK qa wr hB qO qF hK => ?_) ?_
                · have e99 : qa.tmps[99]? = some (.pointer (some ⟨g, 4, none⟩)) := fis qF.1 rfl rfl
                  clear qO qF
                  have he4 := (bcell hB _ _ (World.block_lt_of_cell? _ _ e4)).trans e4
                  go_simp
                  exact hK _ _ (Below.refl _ _) rfl
                refine BOkL.cons rfl [] [10] rfl _ rfl (by kernel_rfl) rfl (by kernel_rfl) (by kernel_rfl) (fun qK qa wr hB qO qF hK => ?_) ?_
                · have e10 : qa.tmps[10]? = some (.pointer (some ⟨px, 0, none⟩)) := qO.1.trans rfl
                  clear qO qF
                  go_simp
                  exact hK _ _ (Below.refl _ _) rfl
                refine BOkL.cons rfl [5] [] rfl _ rfl (by kernel_rfl) rfl (by kernel_rfl) (by kernel_rfl) (fun qK qa wr hB qO qF hK => ?_) ?_
                · have e101 : qa.tmps[101]? = some (.pointer (some ⟨px, 0, none⟩)) := fis qF.1 rfl rfl
                  clear qO qF
                  have hx0 := (bcell hB _ _ (World.block_lt_of_cell? _ _ x0)).trans x0
                  go_simp
                  exact hK _ _ (Below.refl _ _) rfl
                refine BOkL.cons rfl [] [7] rfl _ rfl (by kernel_rfl) rfl (by kernel_rfl) (by kernel_rfl) (fun qK qa wr hB qO qF hK => ?_) ?_
                · have e7 : qa.tmps[7]? = some (.pointer (some ⟨g, 0, none⟩)) := qO.1.trans rfl
                  clear qO qF
                  go_simp
                  exact hK _ _ (Below.refl _ _) rfl
                refine BOkL.cons rfl [7] [] rfl _ rfl (by kernel_rfl) rfl (by kernel_rfl) (by kernel_rfl) (fun qK qa wr hB qO qF hK => ?_) ?_
                · have e103 : qa.tmps[103]? = some (.pointer (some ⟨g, 0, none⟩)) := fis qF.1 rfl rfl
                  clear qO qF
                  go_simp
                  exact hK _ _ (Below.refl _ _) rfl
                refine BOkL.cons rfl [8] [] rfl _ rfl (by kernel_rfl) rfl (by kernel_rfl) (by kernel_rfl) (fun qK qa wr hB qO qF hK => ?_) ?_
                · have e104 : qa.tmps[104]? = some (.pointer (some ⟨g, 0, none⟩)) := fis qF.1 rfl rfl
                  clear qO qF
                  go_simp
                  exact hK _ _ (Below.refl _ _) rfl
                refine BOkL.cons rfl [9] [] rfl _ rfl (by kernel_rfl) rfl (by kernel_rfl) (by kernel_rfl) (fun qK qa wr hB qO qF hK => ?_) ?_
                · have e105 : qa.tmps[105]? = some (.pointer (some ⟨g, 4, none⟩)) := fis qF.1 rfl rfl
                  clear qO qF
                  have he4 := (bcell hB _ _ (World.block_lt_of_cell? _ _ e4)).trans e4
                  go_simp
                  exact hK _ _ (Below.refl _ _) rfl
                refine BOkL.cons rfl [10] [] rfl _ rfl (by kernel_rfl) rfl (by kernel_rfl) (by kernel_rfl) (fun qK qa wr hB qO qF hK => ?_) ?_
                · have e106 : qa.tmps[106]? = some (.slice A3 st.ll.length q3) := fis qF.1 rfl rfl
                  clear qO qF
                  go_simp
                  exact hK _ _ (Below.refl _ _) rfl
                refine BOkL.cons rfl [] [11] rfl _ rfl (by kernel_rfl) rfl (by kernel_rfl) (by kernel_rfl) (fun qK qa wr hB qO qF hK => ?_) ?_
                · have e11 : qa.tmps[11]? = some (.int .i64 av) := qO.1.trans rfl
                  clear qO qF
                  go_simp
                  exact hK _ _ (Below.refl _ _) rfl
                refine BOkL.cons rfl [] [12] rfl _ rfl (by kernel_rfl) rfl (by kernel_rfl) (by kernel_rfl) (fun qK qa wr hB qO qF hK => ?_) ?_
                · have e12 : qa.tmps[12]? = some (.int .i64 bv) := qO.1.trans rfl
                  clear qO qF
                  go_simp
                  exact hK _ _ (Below.refl _ _) rfl
                refine BOkL.cons rfl [6, 11, 12, 13] [] rfl _ rfl (by kernel_rfl) rfl (by kernel_rfl) (by kernel_rfl) (fun qK qa wr hB qO qF hK => ?_) ?_
                · have e102 : qa.tmps[102]? = some (.int .i64 op) := fis qF.1 rfl rfl
                  have e107 : qa.tmps[107]? = some (.int .i64 (st.ll.length : Nat)) := fis qF.2.1 rfl rfl
                  have e108 : qa.tmps[108]? = some (.int .i64 av) := fis qF.2.2.1 rfl rfl
                  have e109 : qa.tmps[109]? = some (.int .i64 bv) := fis qF.2.2.2.1 rfl rfl
                  clear qO qF
                  go_simp
                  refine hK _ _ (Below.refl _ _) ?_
                  show (_ : Value) = _
                  first | rfl | (simp; done) | (simp; omega)
                refine BOkL.cons rfl [14] [] rfl _ rfl (by kernel_rfl) rfl (by kernel_rfl) (by kernel_rfl) (fun qK qa wr hB qO qF hK => ?_) ?_
                · have e110 : qa.tmps[110]? = some (.agg #[.int .i64 op, .int .i64 (st.ll.length : Nat), .int .i64 av, .int .i64 bv]) := fis qF.1 rfl rfl
                  clear qO qF
                  go_simp
                  exact hK _ _ ((Below.refl _ _).alloc (Nat.le_refl _) _) ⟨_, rfl, Bk.new _ _ _⟩
                refine BOkL.app rfl [4, 15] [] rfl (by kernel_rfl) (by kernel_rfl) (fun qK qa wr hB qO qF hK => ?_) ?_
                · have e100 : qa.tmps[100]? = some (.slice A3 st.ll.length q3) := fis qF.1 rfl rfl
                  obtain ⟨u111, e111, r15⟩ := qF.2.1
                  obtain ⟨g111, h111, k111⟩ := (show ∃ g, u111 = .slice (some ⟨g, 0, none⟩) 1 1 ∧ Bk wr g 43 #[.int .i64 op, .int .i64 (st.ll.length : Nat), .int .i64 av, .int .i64 bv] from r15)
                  subst h111
                  have e111 : qa.tmps[111]? = some (.slice (some ⟨g111, 0, none⟩) 1 1) := e111
                  clear qO qF
                  refine wp_append_rd _ _ 24 rfl (g + 2) 43 iS _ 4 32 Try.underlying24 hS hS0 hS1 hS2 rfl (by decide) (.slice A3 st.ll.length q3) st.ll.length _ (act_evalG e100) (own_old HOWN.out hB) (g111 + 1) (some ⟨g111, 0, none⟩) 1 1 [.int .i64 op, .int .i64 (st.ll.length : Nat), .int .i64 av, .int .i64 bv] (act_evalG e111) (Rd.bk k111 (Nat.lt_succ_self _)) rfl (by intro u hu; simp at hu; rcases hu with rfl | rfl | rfl | rfl <;> rfl) (by unfold maxLen; omega) (by omega) (by have := hB.size; omega) ?_
                  intro A9 c9 w9 hown9 hg9 _
                  exact hK _ _ (World.grownBy.trans (gb_of _ hB) hg9) hg9.size ⟨A9, c9, rfl, hown9⟩
                refine BOkL.pure rfl [0] [] rfl rfl (by kernel_rfl) (by kernel_rfl) (.pointer (some ⟨g, 0, none⟩)) rfl (fun qK qa wr qO qF hK => ?_) ?_
                · have e96 : qa.tmps[96]? = some (.pointer (some ⟨g, 0, none⟩)) := fisL qF.1 rfl rfl
                  clear qO qF
                  go_simp
                  exact hK
                refine BOkL.pure rfl [17] [] rfl rfl (by kernel_rfl) (by kernel_rfl) (.pointer (some ⟨g, 4, none⟩)) rfl (fun qK qa wr qO qF hK => ?_) ?_
                · have e113 : qa.tmps[113]? = some (.pointer (some ⟨g, 0, none⟩)) := fisL qF.1 rfl rfl
                  clear qO qF
                  go_simp
                  exact hK
                exact BOkL.nil
              intro vals wr hl hG hR
              match vals, hl with
              | [z96, z97, z98, z99, z100, z101, z102, z103, z104, z105, z106, z107, z108, z109, z110, z111, z112, z113, z114], _ =>
              have r16 : (fun v w => ∃ (A : Option Addr) (c : Nat), v = .slice A (st.ll.length + 1) c ∧ w.ownsRow (g + 2) 43 4 (.slice A (st.ll.length + 1) c) (st.ll.length + 1) (st.ll.flatMap InsV.cells ++ [.int .i64 op, .int .i64 (st.ll.length : Nat), .int .i64 av, .int .i64 bv])) z112 wr := both_at (hR 16 _ rfl)
              have r18 : z114 = .pointer (some ⟨g, 4, none⟩) := hR 18 _ rfl
              subst r18
              clear hR
              simp only [List.take_succ_cons, List.take_zero, List.drop_succ_cons, List.drop_zero, List.toList_toArray, List.cons_append, List.nil_append, putAll, Act.put, List.setIfInBounds_toArray, List.set_cons_zero, List.set_cons_succ]
              obtain ⟨A9, c9, rfl, hown9⟩ := r16
              rename World => w9
              have hb9 : Below w.heap.size w w9 := below_own hbx7 HOWN.out (by omega) hG (by omega)
              have kc9 := kc7.grown hG (own_ne_bk HOWN.out kc7 (by decide))
              have kz9 := kz7.grown hG (own_ne_bk HOWN.out kz7 (by decide))
              have km9 : MapB w9 (w.heap.size + 2) cnt f := MapF.grown km7 hG (fun e => by have := (HOWN.out.lt _ e.symm).1; omega)
              have ki9 : MapI w9 (g + 1) (k + 1) (updI st.bec k st.ll.length) := MapF.grown ki7 hG (fun e => by have := (HOWN.out.lt _ e.symm).1; omega)
              have bk9 := HKO.out.bk.grown hG (own_ne_bk HOWN.out HKO.out.bk (by decide))
              have oi9 := own_keep HKO.out.oi HOWN.out (by decide) hG
              have ok9 := own_keep HKO.out.ok HOWN.out (by decide) hG
              have hlen : (st.ll ++ [(⟨op, st.ll.length, av, bv⟩ : InsV)]).length = st.ll.length + 1 := by simp
              have hgs : w.heap.size ≤ g := by omega
              have ko' : OutOk (w9.setCell ⟨g, 4, none⟩ (.slice A9 (st.ll.length + 1) c9)) g (g + 2) ⟨0, 0, A1, q1, st.li, A2, q2, st.lk, A9, c9, st.ll ++ [⟨op, st.ll.length, av, bv⟩]⟩ := by
                have hb := bk9.put 4 (.slice A9 (st.ll.length + 1) c9)
                refine ⟨by show Bk _ g _ #[.int .i64 0, .int .i64 0, _, _, .slice A9 (st.ll ++ [(⟨op, st.ll.length, av, bv⟩ : InsV)]).length c9]; rw [hlen]; simpa using hb, own_set oi9 bk9 (by decide) 4 _, own_set ok9 bk9 (by decide) 4 _, ?_⟩
                show World.ownsRow _ (g + 2) 43 4 (.slice A9 (st.ll ++ [(⟨op, st.ll.length, av, bv⟩ : InsV)]).length c9) (st.ll ++ [(⟨op, st.ll.length, av, bv⟩ : InsV)]).length ((st.ll ++ [(⟨op, st.ll.length, av, bv⟩ : InsV)]).flatMap InsV.cells)
                rw [hlen, List.flatMap_append]
                exact own_set hown9 bk9 (by decide) 4 _
              have hbe' := hb9.setCell hgs (p := ⟨g, 4, none⟩) (.slice A9 (st.ll.length + 1) c9)
              have kc' := kc9.far (p := ⟨g, 4, none⟩) (show w.heap.size ≠ g by omega) (.slice A9 (st.ll.length + 1) c9)
              have kz' := kz9.far (p := ⟨g, 4, none⟩) (show w.heap.size + 1 ≠ g by omega) (.slice A9 (st.ll.length + 1) c9)
              have km' : MapB (w9.setCell ⟨g, 4, none⟩ (.slice A9 (st.ll.length + 1) c9)) (w.heap.size + 2) cnt f := MapF.setCell km9 (a := ⟨g, 4, none⟩) (show w.heap.size + 2 ≠ g by omega) _
              have ki' : MapI (w9.setCell ⟨g, 4, none⟩ (.slice A9 (st.ll.length + 1) c9)) (g + 1) (k + 1) (updI st.bec k st.ll.length) := MapF.setCell ki9 (a := ⟨g, 4, none⟩) (show g + 1 ≠ g by omega) _
              have d4 : w9.cell? ⟨g, 4, none⟩ = some (.slice A3 st.ll.length q3) := bk9.cell 4
              have f4 := bk9.frozen 4
              have HKO2 := Lib.hid ko'
              clear hG ko' HKO HOWN hown9 bk9 oi9 ok9 kc9 kz9 km9 ki9 hb9 kc7 kz7 km7 ki7 hbx7 x0 e4
              go_wp2_with fail
              go_roundw
              case rel => exact ⟨k + 1, ⟨st.li, st.lk, st.ll ++ [⟨op, st.ll.length, av, bv⟩], updI st.bec k st.ll.length⟩, A1, q1, A2, q2, A9, c9, by omega, by go_num, hbe', kc', kz', km', ki', HKO2.out, show st.li.length ≤ k + 1 by omega, show st.lk.length ≤ k + 1 by omega, by rw [hlen]; omega, Lib.hid (by rw [← HF1.out, ← hav, ← hbv])⟩
              case measure => simp [intOf]; omega
            · have gm : ((m : Int) == 2) = false := by rw [beq_eq_false_iff_ne]; omega
              by_cases h5 : op = 50
              · as_aux_lemma =>
                have h50 : op = 50 := h5
                have g50 : (op == 50) = true := by rw [h50]; rfl
                have g51 : (op == 51) = false := by rw [h50]; rfl
                have ha : a < (li.length : Int) := HP.out.ina h50
                have ha0 : 0 ≤ a := HP.out.ap
                obtain ⟨an, rfl⟩ : ∃ an : Nat, a = an := ⟨a.toNat, by omega⟩
                have hal : an < li.length := by omega
                obtain ⟨b4, o4, rfl, hb4, hc4⟩ := (HRI.out.below hbx).elem (f := InputV.cells) (n := 4) (fun _ => rfl) (by omega) hal
                have hzl : li.getD ((an : Int)).toNat ⟨0, 0, 0, 0⟩ = li[an] := by rw [Int.toNat_natCast, List.getD_eq_getElem?_getD, List.getElem?_eq_getElem hal]; rfl
                generalize li[an] = z at *
                have i0 : (wr.alloc (.cells #[.int .i64 op, .int .i64 dst, .int .i64 (an : Nat), .int .i64 b] 43)).cell? ⟨b4, o4 + an * 4, none⟩ = some (.int .i64 z.op) := hc4 0 _ rfl
                have i1 : (wr.alloc (.cells #[.int .i64 op, .int .i64 dst, .int .i64 (an : Nat), .int .i64 b] 43)).cell? ⟨b4, o4 + an * 4 + 1, none⟩ = some (.int .i64 z.kind) := hc4 1 _ rfl
                have i2 : (wr.alloc (.cells #[.int .i64 op, .int .i64 dst, .int .i64 (an : Nat), .int .i64 b] 43)).cell? ⟨b4, o4 + an * 4 + 2, none⟩ = some (.int .i64 z.pos) := hc4 2 _ rfl
                have i3 : (wr.alloc (.cells #[.int .i64 op, .int .i64 dst, .int .i64 (an : Nat), .int .i64 b] 43)).cell? ⟨b4, o4 + an * 4 + 3, none⟩ = some (.int .i64 z.attr) := hc4 3 _ rfl
                have cf : (wr.alloc (.cells #[.int .i64 op, .int .i64 dst, .int .i64 (an : Nat), .int .i64 b] 43)).cell? ⟨w.heap.size, 2, none⟩ = some (.slice (some ⟨b4, o4, none⟩) n1 ci) := kcx.cell 2
                have han : an < n1 := by rw [← HN1.out]; exact hal
                obtain ⟨Q, hQ⟩ : ∃ Q, placeL sameI z st.li = Q := ⟨_, rfl⟩
                have hQl := placeL_len (same := sameI) (x := z) (l := st.li)
                have hin := input_any ⟨0, 0, A1, q1, st.li, A2, q2, st.lk, A3, q3, st.ll⟩ z g (g + 2) (wr.alloc (.cells #[.int .i64 op, .int .i64 dst, .int .i64 (an : Nat), .int .i64 b] 43)) kox (by simp; omega) (show st.li.length ≤ 1048576 by omega)
                rw [show placeL sameI z (CodeV.li ⟨0, 0, A1, q1, st.li, A2, q2, st.lk, A3, q3, st.ll⟩) = Q from hQ] at hin
                rw [hQ] at hQl
                have HIN := Lib.hid hin
                have hds : dropStep li lk k ⟨op, dst, (an : Nat), b⟩ st = ⟨Q.1, st.lk, st.ll ++ [⟨op, st.ll.length, (Q.2 : Nat), 0⟩], updI st.bec k st.ll.length⟩ := by
                  unfold dropStep
                  simp only [if_pos h50]
                  rw [if_neg (by rw [hm]; exact h2), hzl, hQ, h50]
                rw [hds] at hF1
                clear hds hm hin hQ hzl hc4 h50 h5 ha ha0
                go_wp2_with (first | (at_lookup; refine wpList_lookF boolE rfl _ _ 60 rfl 3 4 Try.underlying3 Try.underlying60 (hzb _) _ _ _ rfl kmx _ rfl hwk ?_; rw [hfk]; dsimp only [boolE]) | (at_lookup; refine wpList_lookF intE rfl _ _ 67 rfl 3 3 Try.underlying3 Try.underlying67 (hzi _) _ _ _ rfl kix _ rfl (by first | exact hwa | exact hwb) ?_; dsimp only [intE]))
                refine (HOP.out _).mono ?_
                rintro e w9 ⟨rfl, rfl⟩
                clear HOP
                go_wp2_with fail
                refine HIN.out.mono ?_
                rintro e w6 ⟨A', c', wm, rfl, hO6, hgr1, hgr2⟩
                have hb6 : Below w.heap.size w w6 := below_gb (below_own hbx kox.oi (by omega) hgr1 hbx.size) hgr2 (Nat.le_trans hbx.size hgr1.size) (by omega)
                replace hbx := hb6
                have kcx6 := (kcx.grown hgr1 (own_ne_bk kox.oi kcx (by decide))).grown hgr2 (by intro e; injection e with e; omega)
                have kzx6 := (kzx.grown hgr1 (own_ne_bk kox.oi kzx (by decide))).grown hgr2 (by intro e; injection e with e; omega)
                have kx6 := (kx.grown hgr1 (own_ne_bk kox.oi kx (by decide))).grown hgr2 (by intro e; injection e with e; omega)
                have kmx6 : MapB w6 (w.heap.size + 2) cnt f := MapF.grown (MapF.grown kmx hgr1 (fun e => by have := (kox.oi.lt _ e.symm).1; omega)) hgr2 (by intro e; injection e with e; omega)
                have kix6 : MapI w6 (g + 1) k st.bec := MapF.grown (MapF.grown kix hgr1 (fun e => by have := (kox.oi.lt _ e.symm).1; omega)) hgr2 (by intro e; injection e with e; omega)
                have kox6 : OutOk w6 g (g + 2) ⟨0, 0, A', c', Q.1, A2, q2, st.lk, A3, q3, st.ll⟩ := hO6
                clear hO6 hgr1 hgr2 HIN hb6 cf i0 i1 i2 i3 x0 x2 x3 e4 kcx kzx kx kmx kix kox
                have kcx := kcx6
                have kzx := kzx6
                have kx := kx6
                have kmx := kmx6
                have kix := kix6
                have kox := kox6
                clear kcx6 kzx6 kx6 kmx6 kix6 kox6
                have x0 : w6.cell? ⟨wr.heap.size, 0, none⟩ = some (.int .i64 op) := kx.cell 0
                have e4 : w6.cell? ⟨g, 4, none⟩ = some (.slice A3 st.ll.length q3) := kox.bk.cell 4
                generalize hpxe : wr.heap.size = px at *
                go_upto_region 25 with (first | (at_lookup; refine wpList_lookF intE rfl _ _ 67 rfl 3 3 Try.underlying3 Try.underlying67 (hzi _) _ _ _ rfl kix _ rfl (by first | exact hwa | exact hwb) ?_; dsimp only [intE]) | (at_mapUpdate; refine wpList_putF intE rfl _ _ _ 67 rfl 3 3 Try.underlying3 Try.underlying67 _ _ _ rfl kix (by unfold maxLen; omega) _ rfl hwk (st.ll.length : Int) rfl ?_; intro w7 hm7 hg7))
                have hbx7 : Below w.heap.size w w7 := below_gb hbx hg7 hbx.size (by omega)
                have kc7 := kcx.grown hg7 (by intro e; injection e with e; omega)
                have kz7 := kzx.grown hg7 (by intro e; injection e with e; omega)
                have km7 : MapB w7 (w.heap.size + 2) cnt f := MapF.grown kmx hg7 (by intro e; injection e with e; omega)
                have ki7 : MapI w7 (g + 1) (k + 1) (updI st.bec k st.ll.length) := hm7
                have ko7 := kox.far hg7 (by omega) (by omega)
                have kx7 := kx.grown hg7 (by intro e; injection e with e; omega)
                have x0 : w7.cell? ⟨px, 0, none⟩ = some (.int .i64 op) := kx7.cell 0
                have e4 : w7.cell? ⟨g, 4, none⟩ = some (.slice A3 st.ll.length q3) := ko7.bk.cell 4
                have HOWN := Lib.hid ko7.ol
                have HKO := Lib.hid ko7
                have hz7 : g + 2 ≤ w7.heap.size := by have := MapF.lt ki7; omega
                have HF1 := Lib.hid hF1.out
                clear hg7 hm7 kcx kzx kmx kix kox kx hbx kx7 ko7 hF1
                generalize hav : ((Q.2 : Nat) : Int) = av at *
                refine wp_region_l 19 16 ((Value.slice A3 st.ll.length q3).ownBlock) (by decide) (by kernel_rfl) (fun qk => (drR25 op av 0 g px (g + 2) A3 q3 st.ll w7).getD qk .any) (by kernel_rfl) ?_ ?_
                · refine BOkL.pure rfl [] [7] rfl rfl (by kernel_rfl) (by kernel_rfl) (.pointer (some ⟨g, 0, none⟩)) rfl (fun qK qa wr qO qF hK => ?_) ?_
                  · have e7 : qa.tmps[7]? = some (.pointer (some ⟨g, 0, none⟩)) := qO.1.trans rfl
                    clear qO qF
                    go_simp
                    exact hK
                  refine BOkL.cons rfl [] [7] rfl _ rfl (by kernel_rfl) rfl (by kernel_rfl) (by kernel_rfl) (fun qK qa wr hB qO qF hK => ?_) ?_
                  · have e7 : qa.tmps[7]? = some (.pointer (some ⟨g, 0, none⟩)) := qO.1.trans rfl
                    clear qO qF
                    go_simp
                    exact hK _ _ (Below.refl _ _) rfl
                  refine BOkL.cons rfl [1] [] rfl _ rfl (by kernel_rfl) rfl (by kernel_rfl) (by kernel_rfl) (fun qK qa wr hB qO qF hK => ?_) ?_
                  · have e97 : qa.tmps[97]? = some (.pointer (some ⟨g, 0, none⟩)) := fis qF.1 rfl rfl
                    clear qO qF
                    go_simp
                    exact hK _ _ (Below.refl _ _) rfl
                  refine BOkL.cons rfl [2] [] rfl _ rfl (by kernel_rfl) rfl (by kernel_rfl) (by kernel_rfl) (fun qK qa wr hB qO qF hK => ?_) ?_
                  · have e98 : qa.tmps[98]? = some (.pointer (some ⟨g, 0, none⟩)) := fis qF.1 rfl rfl
                    clear qO qF
                    go_simp
                    exact hK _ _ (Below.refl _ _) rfl
                  refine BOkL.cons rfl [3] [] rfl _ rfl (by kernel_rfl) rfl (by kernel_rfl) (by kernel_rfl) (fun qK qa wr hB qO qF hK => ?_) ?_
                  · have e99 : qa.tmps[99]? = some (.pointer (some ⟨g, 4, none⟩)) := fis qF.1 rfl rfl
                    clear qO qF
                    have he4 := (bcell hB _ _ (World.block_lt_of_cell? _ _ e4)).trans e4
                    go_simp
                    exact hK _ _ (Below.refl _ _) rfl
                  refine BOkL.cons rfl [] [10] rfl _ rfl (by kernel_rfl) rfl (by kernel_rfl) (by kernel_rfl) (fun qK qa wr hB qO qF hK => ?_) ?_
                  · have e10 : qa.tmps[10]? = some (.pointer (some ⟨px, 0, none⟩)) := qO.1.trans rfl
                    clear qO qF
                    go_simp
                    exact hK _ _ (Below.refl _ _) rfl
                  refine BOkL.cons rfl [5] [] rfl _ rfl (by kernel_rfl) rfl (by kernel_rfl) (by kernel_rfl) (fun qK qa wr hB qO qF hK => ?_) ?_
                  · have e101 : qa.tmps[101]? = some (.pointer (some ⟨px, 0, none⟩)) := fis qF.1 rfl rfl
                    clear qO qF
                    have hx0 := (bcell hB _ _ (World.block_lt_of_cell? _ _ x0)).trans x0
                    go_simp
                    exact hK _ _ (Below.refl _ _) rfl
                  refine BOkL.cons rfl [] [7] rfl _ rfl (by kernel_rfl) rfl (by kernel_rfl) (by kernel_rfl) (fun qK qa wr hB qO qF hK => ?_) ?_
                  · have e7 : qa.tmps[7]? = some (.pointer (some ⟨g, 0, none⟩)) := qO.1.trans rfl
                    clear qO qF
                    go_simp
                    exact hK _ _ (Below.refl _ _) rfl
                  refine BOkL.cons rfl [7] [] rfl _ rfl (by kernel_rfl) rfl (by kernel_rfl) (by kernel_rfl) (fun qK qa wr hB qO qF hK => ?_) ?_
                  · have e103 : qa.tmps[103]? = some (.pointer (some ⟨g, 0, none⟩)) := fis qF.1 rfl rfl
                    clear qO qF
                    go_simp
                    exact hK _ _ (Below.refl _ _) rfl
                  refine BOkL.cons rfl [8] [] rfl _ rfl (by kernel_rfl) rfl (by kernel_rfl) (by kernel_rfl) (fun qK qa wr hB qO qF hK => ?_) ?_
                  · have e104 : qa.tmps[104]? = some (.pointer (some ⟨g, 0, none⟩)) := fis qF.1 rfl rfl
                    clear qO qF
                    go_simp
                    exact hK _ _ (Below.refl _ _) rfl
                  refine BOkL.cons rfl [9] [] rfl _ rfl (by kernel_rfl) rfl (by kernel_rfl) (by kernel_rfl) (fun qK qa wr hB qO qF hK => ?_) ?_
                  · have e105 : qa.tmps[105]? = some (.pointer (some ⟨g, 4, none⟩)) := fis qF.1 rfl rfl
                    clear qO qF
                    have he4 := (bcell hB _ _ (World.block_lt_of_cell? _ _ e4)).trans e4
                    go_simp
                    exact hK _ _ (Below.refl _ _) rfl
                  refine BOkL.cons rfl [10] [] rfl _ rfl (by kernel_rfl) rfl (by kernel_rfl) (by kernel_rfl) (fun qK qa wr hB qO qF hK => ?_) ?_
                  · have e106 : qa.tmps[106]? = some (.slice A3 st.ll.length q3) := fis qF.1 rfl rfl
                    clear qO qF
                    go_simp
                    exact hK _ _ (Below.refl _ _) rfl
                  refine BOkL.cons rfl [] [11] rfl _ rfl (by kernel_rfl) rfl (by kernel_rfl) (by kernel_rfl) (fun qK qa wr hB qO qF hK => ?_) ?_
                  · have e11 : qa.tmps[11]? = some (.int .i64 av) := qO.1.trans rfl
                    clear qO qF
                    go_simp
                    exact hK _ _ (Below.refl _ _) rfl
                  refine BOkL.cons rfl [] [12] rfl _ rfl (by kernel_rfl) rfl (by kernel_rfl) (by kernel_rfl) (fun qK qa wr hB qO qF hK => ?_) ?_
                  · have e12 : qa.tmps[12]? = some (.int .i64 0) := qO.1.trans rfl
                    clear qO qF
                    go_simp
                    exact hK _ _ (Below.refl _ _) rfl
                  refine BOkL.cons rfl [6, 11, 12, 13] [] rfl _ rfl (by kernel_rfl) rfl (by kernel_rfl) (by kernel_rfl) (fun qK qa wr hB qO qF hK => ?_) ?_
                  · have e102 : qa.tmps[102]? = some (.int .i64 op) := fis qF.1 rfl rfl
                    have e107 : qa.tmps[107]? = some (.int .i64 (st.ll.length : Nat)) := fis qF.2.1 rfl rfl
                    have e108 : qa.tmps[108]? = some (.int .i64 av) := fis qF.2.2.1 rfl rfl
                    have e109 : qa.tmps[109]? = some (.int .i64 0) := fis qF.2.2.2.1 rfl rfl
                    clear qO qF
                    go_simp
                    refine hK _ _ (Below.refl _ _) ?_
                    show (_ : Value) = _
                    first | rfl | (simp; done) | (simp; omega)
                  refine BOkL.cons rfl [14] [] rfl _ rfl (by kernel_rfl) rfl (by kernel_rfl) (by kernel_rfl) (fun qK qa wr hB qO qF hK => ?_) ?_
                  · have e110 : qa.tmps[110]? = some (.agg #[.int .i64 op, .int .i64 (st.ll.length : Nat), .int .i64 av, .int .i64 0]) := fis qF.1 rfl rfl
                    clear qO qF
                    go_simp
                    exact hK _ _ ((Below.refl _ _).alloc (Nat.le_refl _) _) ⟨_, rfl, Bk.new _ _ _⟩
                  refine BOkL.app rfl [4, 15] [] rfl (by kernel_rfl) (by kernel_rfl) (fun qK qa wr hB qO qF hK => ?_) ?_
                  · have e100 : qa.tmps[100]? = some (.slice A3 st.ll.length q3) := fis qF.1 rfl rfl
                    obtain ⟨u111, e111, r15⟩ := qF.2.1
                    obtain ⟨g111, h111, k111⟩ := (show ∃ g, u111 = .slice (some ⟨g, 0, none⟩) 1 1 ∧ Bk wr g 43 #[.int .i64 op, .int .i64 (st.ll.length : Nat), .int .i64 av, .int .i64 0] from r15)
                    subst h111
                    have e111 : qa.tmps[111]? = some (.slice (some ⟨g111, 0, none⟩) 1 1) := e111
                    clear qO qF
                    refine wp_append_rd _ _ 24 rfl (g + 2) 43 iS _ 4 32 Try.underlying24 hS hS0 hS1 hS2 rfl (by decide) (.slice A3 st.ll.length q3) st.ll.length _ (act_evalG e100) (own_old HOWN.out hB) (g111 + 1) (some ⟨g111, 0, none⟩) 1 1 [.int .i64 op, .int .i64 (st.ll.length : Nat), .int .i64 av, .int .i64 0] (act_evalG e111) (Rd.bk k111 (Nat.lt_succ_self _)) rfl (by intro u hu; simp at hu; rcases hu with rfl | rfl | rfl | rfl <;> rfl) (by unfold maxLen; omega) (by omega) (by have := hB.size; omega) ?_
                    intro A9 c9 w9 hown9 hg9 _
                    exact hK _ _ (World.grownBy.trans (gb_of _ hB) hg9) hg9.size ⟨A9, c9, rfl, hown9⟩
                  refine BOkL.pure rfl [0] [] rfl rfl (by kernel_rfl) (by kernel_rfl) (.pointer (some ⟨g, 0, none⟩)) rfl (fun qK qa wr qO qF hK => ?_) ?_
                  · have e96 : qa.tmps[96]? = some (.pointer (some ⟨g, 0, none⟩)) := fisL qF.1 rfl rfl
                    clear qO qF
                    go_simp
                    exact hK
                  refine BOkL.pure rfl [17] [] rfl rfl (by kernel_rfl) (by kernel_rfl) (.pointer (some ⟨g, 4, none⟩)) rfl (fun qK qa wr qO qF hK => ?_) ?_
                  · have e113 : qa.tmps[113]? = some (.pointer (some ⟨g, 0, none⟩)) := fisL qF.1 rfl rfl
                    clear qO qF
                    go_simp
                    exact hK
                  exact BOkL.nil
                intro vals wr hl hG hR
                match vals, hl with
                | [z96, z97, z98, z99, z100, z101, z102, z103, z104, z105, z106, z107, z108, z109, z110, z111, z112, z113, z114], _ =>
                have r16 : (fun v w => ∃ (A : Option Addr) (c : Nat), v = .slice A (st.ll.length + 1) c ∧ w.ownsRow (g + 2) 43 4 (.slice A (st.ll.length + 1) c) (st.ll.length + 1) (st.ll.flatMap InsV.cells ++ [.int .i64 op, .int .i64 (st.ll.length : Nat), .int .i64 av, .int .i64 0])) z112 wr := both_at (hR 16 _ rfl)
                have r18 : z114 = .pointer (some ⟨g, 4, none⟩) := hR 18 _ rfl
                subst r18
                clear hR
                simp only [List.take_succ_cons, List.take_zero, List.drop_succ_cons, List.drop_zero, List.toList_toArray, List.cons_append, List.nil_append, putAll, Act.put, List.setIfInBounds_toArray, List.set_cons_zero, List.set_cons_succ]
                obtain ⟨A9, c9, rfl, hown9⟩ := r16
                rename World => w9
                have hb9 : Below w.heap.size w w9 := below_own hbx7 HOWN.out (by omega) hG (by omega)
                have kc9 := kc7.grown hG (own_ne_bk HOWN.out kc7 (by decide))
                have kz9 := kz7.grown hG (own_ne_bk HOWN.out kz7 (by decide))
                have km9 : MapB w9 (w.heap.size + 2) cnt f := MapF.grown km7 hG (fun e => by have := (HOWN.out.lt _ e.symm).1; omega)
                have ki9 : MapI w9 (g + 1) (k + 1) (updI st.bec k st.ll.length) := MapF.grown ki7 hG (fun e => by have := (HOWN.out.lt _ e.symm).1; omega)
                have bk9 := HKO.out.bk.grown hG (own_ne_bk HOWN.out HKO.out.bk (by decide))
                have oi9 := own_keep HKO.out.oi HOWN.out (by decide) hG
                have ok9 := own_keep HKO.out.ok HOWN.out (by decide) hG
                have hlen : (st.ll ++ [(⟨op, st.ll.length, av, 0⟩ : InsV)]).length = st.ll.length + 1 := by simp
                have hgs : w.heap.size ≤ g := by omega
                have ko' : OutOk (w9.setCell ⟨g, 4, none⟩ (.slice A9 (st.ll.length + 1) c9)) g (g + 2) ⟨0, 0, A', c', Q.1, A2, q2, st.lk, A9, c9, st.ll ++ [⟨op, st.ll.length, av, 0⟩]⟩ := by
                  have hb := bk9.put 4 (.slice A9 (st.ll.length + 1) c9)
                  refine ⟨by show Bk _ g _ #[.int .i64 0, .int .i64 0, _, _, .slice A9 (st.ll ++ [(⟨op, st.ll.length, av, 0⟩ : InsV)]).length c9]; rw [hlen]; simpa using hb, own_set oi9 bk9 (by decide) 4 _, own_set ok9 bk9 (by decide) 4 _, ?_⟩
                  show World.ownsRow _ (g + 2) 43 4 (.slice A9 (st.ll ++ [(⟨op, st.ll.length, av, 0⟩ : InsV)]).length c9) (st.ll ++ [(⟨op, st.ll.length, av, 0⟩ : InsV)]).length ((st.ll ++ [(⟨op, st.ll.length, av, 0⟩ : InsV)]).flatMap InsV.cells)
                  rw [hlen, List.flatMap_append]
                  exact own_set hown9 bk9 (by decide) 4 _
                have hbe' := hb9.setCell hgs (p := ⟨g, 4, none⟩) (.slice A9 (st.ll.length + 1) c9)
                have kc' := kc9.far (p := ⟨g, 4, none⟩) (show w.heap.size ≠ g by omega) (.slice A9 (st.ll.length + 1) c9)
                have kz' := kz9.far (p := ⟨g, 4, none⟩) (show w.heap.size + 1 ≠ g by omega) (.slice A9 (st.ll.length + 1) c9)
                have km' : MapB (w9.setCell ⟨g, 4, none⟩ (.slice A9 (st.ll.length + 1) c9)) (w.heap.size + 2) cnt f := MapF.setCell km9 (a := ⟨g, 4, none⟩) (show w.heap.size + 2 ≠ g by omega) _
                have ki' : MapI (w9.setCell ⟨g, 4, none⟩ (.slice A9 (st.ll.length + 1) c9)) (g + 1) (k + 1) (updI st.bec k st.ll.length) := MapF.setCell ki9 (a := ⟨g, 4, none⟩) (show g + 1 ≠ g by omega) _
                have d4 : w9.cell? ⟨g, 4, none⟩ = some (.slice A3 st.ll.length q3) := bk9.cell 4
                have f4 := bk9.frozen 4
                have HKO2 := Lib.hid ko'
                clear hG ko' HKO HOWN hown9 bk9 oi9 ok9 kc9 kz9 km9 ki9 hb9 kc7 kz7 km7 ki7 hbx7 x0 e4
                go_wp2_with fail
                go_roundw
                case rel => exact ⟨k + 1, ⟨Q.1, st.lk, st.ll ++ [⟨op, st.ll.length, av, 0⟩], updI st.bec k st.ll.length⟩, A', c', A2, q2, A9, c9, by omega, by go_num, hbe', kc', kz', km', ki', HKO2.out, show Q.1.length ≤ k + 1 by omega, show st.lk.length ≤ k + 1 by omega, by rw [hlen]; omega, Lib.hid (by rw [← HF1.out, ← hav])⟩
                case measure => simp [intOf]; omega
              by_cases h51 : op = 51
              · as_aux_lemma =>
                clear h5
                have h5 := h51
                clear h51
                have h51 : op = 51 := h5
                have g50 : (op == 50) = false := by rw [h51]; rfl
                have g51 : (op == 51) = true := by rw [h51]; rfl
                have ha : a < (lk.length : Int) := HP.out.ka h51
                have ha0 : 0 ≤ a := HP.out.ap
                obtain ⟨an, rfl⟩ : ∃ an : Nat, a = an := ⟨a.toNat, by omega⟩
                have hal : an < lk.length := by omega
                obtain ⟨b4, o4, rfl, hb4, hc4⟩ := (HRK.out.below hbx).elem (f := V.cells) (n := 2) (fun _ => rfl) (by omega) hal
                have hzl : lk.getD ((an : Int)).toNat none0 = lk[an] := by rw [Int.toNat_natCast, List.getD_eq_getElem?_getD, List.getElem?_eq_getElem hal]; rfl
                generalize lk[an] = z at *
                have i0 : (wr.alloc (.cells #[.int .i64 op, .int .i64 dst, .int .i64 (an : Nat), .int .i64 b] 43)).cell? ⟨b4, o4 + an * 2, none⟩ = some (.int .i64 z.k) := hc4 0 _ rfl
                have i1 : (wr.alloc (.cells #[.int .i64 op, .int .i64 dst, .int .i64 (an : Nat), .int .i64 b] 43)).cell? ⟨b4, o4 + an * 2 + 1, none⟩ = some (.int .u64 z.b) := hc4 1 _ rfl
                have cf : (wr.alloc (.cells #[.int .i64 op, .int .i64 dst, .int .i64 (an : Nat), .int .i64 b] 43)).cell? ⟨w.heap.size, 3, none⟩ = some (.slice (some ⟨b4, o4, none⟩) n2 ck) := kcx.cell 3
                have han : an < n2 := by rw [← HN2.out]; exact hal
                obtain ⟨Q, hQ⟩ : ∃ Q, placeL sameV z st.lk = Q := ⟨_, rfl⟩
                have hQl := placeL_len (same := sameV) (x := z) (l := st.lk)
                have hin := constant_any ⟨0, 0, A1, q1, st.li, A2, q2, st.lk, A3, q3, st.ll⟩ z g (g + 2) (wr.alloc (.cells #[.int .i64 op, .int .i64 dst, .int .i64 (an : Nat), .int .i64 b] 43)) kox (by simp; omega) (show st.lk.length ≤ 1048576 by omega)
                rw [show placeL sameV z (CodeV.lk ⟨0, 0, A1, q1, st.li, A2, q2, st.lk, A3, q3, st.ll⟩) = Q from hQ] at hin
                rw [hQ] at hQl
                have HIN := Lib.hid hin
                have hds : dropStep li lk k ⟨op, dst, (an : Nat), b⟩ st = ⟨st.li, Q.1, st.ll ++ [⟨op, st.ll.length, (Q.2 : Nat), 0⟩], updI st.bec k st.ll.length⟩ := by
                  unfold dropStep
                  simp only [if_neg (show ¬ op = 50 by omega), if_pos h51]
                  rw [if_neg (by rw [hm]; exact h2), hzl, hQ, h51]
                rw [hds] at hF1
                clear hds hm hin hQ hzl hc4 h51 h5 ha ha0
                go_wp2_with (first | (at_lookup; refine wpList_lookF boolE rfl _ _ 60 rfl 3 4 Try.underlying3 Try.underlying60 (hzb _) _ _ _ rfl kmx _ rfl hwk ?_; rw [hfk]; dsimp only [boolE]) | (at_lookup; refine wpList_lookF intE rfl _ _ 67 rfl 3 3 Try.underlying3 Try.underlying67 (hzi _) _ _ _ rfl kix _ rfl (by first | exact hwa | exact hwb) ?_; dsimp only [intE]))
                refine (HOP.out _).mono ?_
                rintro e w9 ⟨rfl, rfl⟩
                clear HOP
                go_wp2_with fail
                refine HIN.out.mono ?_
                rintro e w6 ⟨A', c', wm, rfl, hO6, hgr1, hgr2⟩
                have hb6 : Below w.heap.size w w6 := below_gb (below_own hbx kox.ok (by omega) hgr1 hbx.size) hgr2 (Nat.le_trans hbx.size hgr1.size) (by omega)
                replace hbx := hb6
                have kcx6 := (kcx.grown hgr1 (own_ne_bk kox.ok kcx (by decide))).grown hgr2 (by intro e; injection e with e; omega)
                have kzx6 := (kzx.grown hgr1 (own_ne_bk kox.ok kzx (by decide))).grown hgr2 (by intro e; injection e with e; omega)
                have kx6 := (kx.grown hgr1 (own_ne_bk kox.ok kx (by decide))).grown hgr2 (by intro e; injection e with e; omega)
                have kmx6 : MapB w6 (w.heap.size + 2) cnt f := MapF.grown (MapF.grown kmx hgr1 (fun e => by have := (kox.ok.lt _ e.symm).1; omega)) hgr2 (by intro e; injection e with e; omega)
                have kix6 : MapI w6 (g + 1) k st.bec := MapF.grown (MapF.grown kix hgr1 (fun e => by have := (kox.ok.lt _ e.symm).1; omega)) hgr2 (by intro e; injection e with e; omega)
                have kox6 : OutOk w6 g (g + 2) ⟨0, 0, A1, q1, st.li, A', c', Q.1, A3, q3, st.ll⟩ := hO6
                clear hO6 hgr1 hgr2 HIN hb6 cf i0 i1 x0 x2 x3 e4 kcx kzx kx kmx kix kox
                have kcx := kcx6
                have kzx := kzx6
                have kx := kx6
                have kmx := kmx6
                have kix := kix6
                have kox := kox6
                clear kcx6 kzx6 kx6 kmx6 kix6 kox6
                have x0 : w6.cell? ⟨wr.heap.size, 0, none⟩ = some (.int .i64 op) := kx.cell 0
                have e4 : w6.cell? ⟨g, 4, none⟩ = some (.slice A3 st.ll.length q3) := kox.bk.cell 4
                generalize hpxe : wr.heap.size = px at *
                go_upto_region 25 with (first | (at_lookup; refine wpList_lookF intE rfl _ _ 67 rfl 3 3 Try.underlying3 Try.underlying67 (hzi _) _ _ _ rfl kix _ rfl (by first | exact hwa | exact hwb) ?_; dsimp only [intE]) | (at_mapUpdate; refine wpList_putF intE rfl _ _ _ 67 rfl 3 3 Try.underlying3 Try.underlying67 _ _ _ rfl kix (by unfold maxLen; omega) _ rfl hwk (st.ll.length : Int) rfl ?_; intro w7 hm7 hg7))
                have hbx7 : Below w.heap.size w w7 := below_gb hbx hg7 hbx.size (by omega)
                have kc7 := kcx.grown hg7 (by intro e; injection e with e; omega)
                have kz7 := kzx.grown hg7 (by intro e; injection e with e; omega)
                have km7 : MapB w7 (w.heap.size + 2) cnt f := MapF.grown kmx hg7 (by intro e; injection e with e; omega)
                have ki7 : MapI w7 (g + 1) (k + 1) (updI st.bec k st.ll.length) := hm7
                have ko7 := kox.far hg7 (by omega) (by omega)
                have kx7 := kx.grown hg7 (by intro e; injection e with e; omega)
                have x0 : w7.cell? ⟨px, 0, none⟩ = some (.int .i64 op) := kx7.cell 0
                have e4 : w7.cell? ⟨g, 4, none⟩ = some (.slice A3 st.ll.length q3) := ko7.bk.cell 4
                have HOWN := Lib.hid ko7.ol
                have HKO := Lib.hid ko7
                have hz7 : g + 2 ≤ w7.heap.size := by have := MapF.lt ki7; omega
                have HF1 := Lib.hid hF1.out
                clear hg7 hm7 kcx kzx kmx kix kox kx hbx kx7 ko7 hF1
                generalize hav : ((Q.2 : Nat) : Int) = av at *
                refine wp_region_l 19 16 ((Value.slice A3 st.ll.length q3).ownBlock) (by decide) (by kernel_rfl) (fun qk => (drR25 op av 0 g px (g + 2) A3 q3 st.ll w7).getD qk .any) (by kernel_rfl) ?_ ?_
                · refine BOkL.pure rfl [] [7] rfl rfl (by kernel_rfl) (by kernel_rfl) (.pointer (some ⟨g, 0, none⟩)) rfl (fun qK qa wr qO qF hK => ?_) ?_
                  · have e7 : qa.tmps[7]? = some (.pointer (some ⟨g, 0, none⟩)) := qO.1.trans rfl
                    clear qO qF
                    go_simp
                    exact hK
                  refine BOkL.cons rfl [] [7] rfl _ rfl (by kernel_rfl) rfl (by kernel_rfl) (by kernel_rfl) (fun qK qa wr hB qO qF hK => ?_) ?_
                  · have e7 : qa.tmps[7]? = some (.pointer (some ⟨g, 0, none⟩)) := qO.1.trans rfl
                    clear qO qF
                    go_simp
                    exact hK _ _ (Below.refl _ _) rfl
                  refine BOkL.cons rfl [1] [] rfl _ rfl (by kernel_rfl) rfl (by kernel_rfl) (by kernel_rfl) (fun qK qa wr hB qO qF hK => ?_) ?_
                  · have e97 : qa.tmps[97]? = some (.pointer (some ⟨g, 0, none⟩)) := fis qF.1 rfl rfl
                    clear qO qF
                    go_simp
                    exact hK _ _ (Below.refl _ _) rfl
                  refine BOkL.cons rfl [2] [] rfl _ rfl (by kernel_rfl) rfl (by kernel_rfl) (by kernel_rfl) (fun qK qa wr hB qO qF hK => ?_) ?_
                  · have e98 : qa.tmps[98]? = some (.pointer (some ⟨g, 0, none⟩)) := fis qF.1 rfl rfl
                    clear qO qF
                    go_simp
                    exact hK _ _ (Below.refl _ _) rfl
                  refine BOkL.cons rfl [3] [] rfl _ rfl (by kernel_rfl) rfl (by kernel_rfl) (by kernel_rfl) (fun qK qa wr hB qO qF hK => ?_) ?_
                  · have e99 : qa.tmps[99]? = some (.pointer (some ⟨g, 4, none⟩)) := fis qF.1 rfl rfl
                    clear qO qF
                    have he4 := (bcell hB _ _ (World.block_lt_of_cell? _ _ e4)).trans e4
                    go_simp
                    exact hK _ _ (Below.refl _ _) rfl
                  refine BOkL.cons rfl [] [10] rfl _ rfl (by kernel_rfl) rfl (by kernel_rfl) (by kernel_rfl) (fun qK qa wr hB qO qF hK => ?_) ?_
                  · have e10 : qa.tmps[10]? = some (.pointer (some ⟨px, 0, none⟩)) := qO.1.trans rfl
                    clear qO qF
                    go_simp
                    exact hK _ _ (Below.refl _ _) rfl
                  refine BOkL.cons rfl [5] [] rfl _ rfl (by kernel_rfl) rfl (by kernel_rfl) (by kernel_rfl) (fun qK qa wr hB qO qF hK => ?_) ?_
                  · have e101 : qa.tmps[101]? = some (.pointer (some ⟨px, 0, none⟩)) := fis qF.1 rfl rfl
                    clear qO qF
                    have hx0 := (bcell hB _ _ (World.block_lt_of_cell? _ _ x0)).trans x0
                    go_simp
                    exact hK _ _ (Below.refl _ _) rfl
                  refine BOkL.cons rfl [] [7] rfl _ rfl (by kernel_rfl) rfl (by kernel_rfl) (by kernel_rfl) (fun qK qa wr hB qO qF hK => ?_) ?_
                  · have e7 : qa.tmps[7]? = some (.pointer (some ⟨g, 0, none⟩)) := qO.1.trans rfl
                    clear qO qF
                    go_simp
                    exact hK _ _ (Below.refl _ _) rfl
                  refine BOkL.cons rfl [7] [] rfl _ rfl (by kernel_rfl) rfl (by kernel_rfl) (by kernel_rfl) (fun qK qa wr hB qO qF hK => ?_) ?_
                  · have e103 : qa.tmps[103]? = some (.pointer (some ⟨g, 0, none⟩)) := fis qF.1 rfl rfl
                    clear qO qF
                    go_simp
                    exact hK _ _ (Below.refl _ _) rfl
                  refine BOkL.cons rfl [8] [] rfl _ rfl (by kernel_rfl) rfl (by kernel_rfl) (by kernel_rfl) (fun qK qa wr hB qO qF hK => ?_) ?_
                  · have e104 : qa.tmps[104]? = some (.pointer (some ⟨g, 0, none⟩)) := fis qF.1 rfl rfl
                    clear qO qF
                    go_simp
                    exact hK _ _ (Below.refl _ _) rfl
                  refine BOkL.cons rfl [9] [] rfl _ rfl (by kernel_rfl) rfl (by kernel_rfl) (by kernel_rfl) (fun qK qa wr hB qO qF hK => ?_) ?_
                  · have e105 : qa.tmps[105]? = some (.pointer (some ⟨g, 4, none⟩)) := fis qF.1 rfl rfl
                    clear qO qF
                    have he4 := (bcell hB _ _ (World.block_lt_of_cell? _ _ e4)).trans e4
                    go_simp
                    exact hK _ _ (Below.refl _ _) rfl
                  refine BOkL.cons rfl [10] [] rfl _ rfl (by kernel_rfl) rfl (by kernel_rfl) (by kernel_rfl) (fun qK qa wr hB qO qF hK => ?_) ?_
                  · have e106 : qa.tmps[106]? = some (.slice A3 st.ll.length q3) := fis qF.1 rfl rfl
                    clear qO qF
                    go_simp
                    exact hK _ _ (Below.refl _ _) rfl
                  refine BOkL.cons rfl [] [11] rfl _ rfl (by kernel_rfl) rfl (by kernel_rfl) (by kernel_rfl) (fun qK qa wr hB qO qF hK => ?_) ?_
                  · have e11 : qa.tmps[11]? = some (.int .i64 av) := qO.1.trans rfl
                    clear qO qF
                    go_simp
                    exact hK _ _ (Below.refl _ _) rfl
                  refine BOkL.cons rfl [] [12] rfl _ rfl (by kernel_rfl) rfl (by kernel_rfl) (by kernel_rfl) (fun qK qa wr hB qO qF hK => ?_) ?_
                  · have e12 : qa.tmps[12]? = some (.int .i64 0) := qO.1.trans rfl
                    clear qO qF
                    go_simp
                    exact hK _ _ (Below.refl _ _) rfl
                  refine BOkL.cons rfl [6, 11, 12, 13] [] rfl _ rfl (by kernel_rfl) rfl (by kernel_rfl) (by kernel_rfl) (fun qK qa wr hB qO qF hK => ?_) ?_
                  · have e102 : qa.tmps[102]? = some (.int .i64 op) := fis qF.1 rfl rfl
                    have e107 : qa.tmps[107]? = some (.int .i64 (st.ll.length : Nat)) := fis qF.2.1 rfl rfl
                    have e108 : qa.tmps[108]? = some (.int .i64 av) := fis qF.2.2.1 rfl rfl
                    have e109 : qa.tmps[109]? = some (.int .i64 0) := fis qF.2.2.2.1 rfl rfl
                    clear qO qF
                    go_simp
                    refine hK _ _ (Below.refl _ _) ?_
                    show (_ : Value) = _
                    first | rfl | (simp; done) | (simp; omega)
                  refine BOkL.cons rfl [14] [] rfl _ rfl (by kernel_rfl) rfl (by kernel_rfl) (by kernel_rfl) (fun qK qa wr hB qO qF hK => ?_) ?_
                  · have e110 : qa.tmps[110]? = some (.agg #[.int .i64 op, .int .i64 (st.ll.length : Nat), .int .i64 av, .int .i64 0]) := fis qF.1 rfl rfl
                    clear qO qF
                    go_simp
                    exact hK _ _ ((Below.refl _ _).alloc (Nat.le_refl _) _) ⟨_, rfl, Bk.new _ _ _⟩
                  refine BOkL.app rfl [4, 15] [] rfl (by kernel_rfl) (by kernel_rfl) (fun qK qa wr hB qO qF hK => ?_) ?_
                  · have e100 : qa.tmps[100]? = some (.slice A3 st.ll.length q3) := fis qF.1 rfl rfl
                    obtain ⟨u111, e111, r15⟩ := qF.2.1
                    obtain ⟨g111, h111, k111⟩ := (show ∃ g, u111 = .slice (some ⟨g, 0, none⟩) 1 1 ∧ Bk wr g 43 #[.int .i64 op, .int .i64 (st.ll.length : Nat), .int .i64 av, .int .i64 0] from r15)
                    subst h111
                    have e111 : qa.tmps[111]? = some (.slice (some ⟨g111, 0, none⟩) 1 1) := e111
                    clear qO qF
                    refine wp_append_rd _ _ 24 rfl (g + 2) 43 iS _ 4 32 Try.underlying24 hS hS0 hS1 hS2 rfl (by decide) (.slice A3 st.ll.length q3) st.ll.length _ (act_evalG e100) (own_old HOWN.out hB) (g111 + 1) (some ⟨g111, 0, none⟩) 1 1 [.int .i64 op, .int .i64 (st.ll.length : Nat), .int .i64 av, .int .i64 0] (act_evalG e111) (Rd.bk k111 (Nat.lt_succ_self _)) rfl (by intro u hu; simp at hu; rcases hu with rfl | rfl | rfl | rfl <;> rfl) (by unfold maxLen; omega) (by omega) (by have := hB.size; omega) ?_
                    intro A9 c9 w9 hown9 hg9 _
                    exact hK _ _ (World.grownBy.trans (gb_of _ hB) hg9) hg9.size ⟨A9, c9, rfl, hown9⟩
                  refine BOkL.pure rfl [0] [] rfl rfl (by kernel_rfl) (by kernel_rfl) (.pointer (some ⟨g, 0, none⟩)) rfl (fun qK qa wr qO qF hK => ?_) ?_
                  · have e96 : qa.tmps[96]? = some (.pointer (some ⟨g, 0, none⟩)) := fisL qF.1 rfl rfl
                    clear qO qF
                    go_simp
                    exact hK
                  refine BOkL.pure rfl [17] [] rfl rfl (by kernel_rfl) (by kernel_rfl) (.pointer (some ⟨g, 4, none⟩)) rfl (fun qK qa wr qO qF hK => ?_) ?_
                  · have e113 : qa.tmps[113]? = some (.pointer (some ⟨g, 0, none⟩)) := fisL qF.1 rfl rfl
                    clear qO qF
                    go_simp
                    exact hK
                  exact BOkL.nil
                intro vals wr hl hG hR
                match vals, hl with
                | [z96, z97, z98, z99, z100, z101, z102, z103, z104, z105, z106, z107, z108, z109, z110, z111, z112, z113, z114], _ =>
                have r16 : (fun v w => ∃ (A : Option Addr) (c : Nat), v = .slice A (st.ll.length + 1) c ∧ w.ownsRow (g + 2) 43 4 (.slice A (st.ll.length + 1) c) (st.ll.length + 1) (st.ll.flatMap InsV.cells ++ [.int .i64 op, .int .i64 (st.ll.length : Nat), .int .i64 av, .int .i64 0])) z112 wr := both_at (hR 16 _ rfl)
                have r18 : z114 = .pointer (some ⟨g, 4, none⟩) := hR 18 _ rfl
                subst r18
                clear hR
                simp only [List.take_succ_cons, List.take_zero, List.drop_succ_cons, List.drop_zero, List.toList_toArray, List.cons_append, List.nil_append, putAll, Act.put, List.setIfInBounds_toArray, List.set_cons_zero, List.set_cons_succ]
                obtain ⟨A9, c9, rfl, hown9⟩ := r16
                rename World => w9
                have hb9 : Below w.heap.size w w9 := below_own hbx7 HOWN.out (by omega) hG (by omega)
                have kc9 := kc7.grown hG (own_ne_bk HOWN.out kc7 (by decide))
                have kz9 := kz7.grown hG (own_ne_bk HOWN.out kz7 (by decide))
                have km9 : MapB w9 (w.heap.size + 2) cnt f := MapF.grown km7 hG (fun e => by have := (HOWN.out.lt _ e.symm).1; omega)
                have ki9 : MapI w9 (g + 1) (k + 1) (updI st.bec k st.ll.length) := MapF.grown ki7 hG (fun e => by have := (HOWN.out.lt _ e.symm).1; omega)
                have bk9 := HKO.out.bk.grown hG (own_ne_bk HOWN.out HKO.out.bk (by decide))
                have oi9 := own_keep HKO.out.oi HOWN.out (by decide) hG
                have ok9 := own_keep HKO.out.ok HOWN.out (by decide) hG
                have hlen : (st.ll ++ [(⟨op, st.ll.length, av, 0⟩ : InsV)]).length = st.ll.length + 1 := by simp
                have hgs : w.heap.size ≤ g := by omega
                have ko' : OutOk (w9.setCell ⟨g, 4, none⟩ (.slice A9 (st.ll.length + 1) c9)) g (g + 2) ⟨0, 0, A1, q1, st.li, A', c', Q.1, A9, c9, st.ll ++ [⟨op, st.ll.length, av, 0⟩]⟩ := by
                  have hb := bk9.put 4 (.slice A9 (st.ll.length + 1) c9)
                  refine ⟨by show Bk _ g _ #[.int .i64 0, .int .i64 0, _, _, .slice A9 (st.ll ++ [(⟨op, st.ll.length, av, 0⟩ : InsV)]).length c9]; rw [hlen]; simpa using hb, own_set oi9 bk9 (by decide) 4 _, own_set ok9 bk9 (by decide) 4 _, ?_⟩
                  show World.ownsRow _ (g + 2) 43 4 (.slice A9 (st.ll ++ [(⟨op, st.ll.length, av, 0⟩ : InsV)]).length c9) (st.ll ++ [(⟨op, st.ll.length, av, 0⟩ : InsV)]).length ((st.ll ++ [(⟨op, st.ll.length, av, 0⟩ : InsV)]).flatMap InsV.cells)
                  rw [hlen, List.flatMap_append]
                  exact own_set hown9 bk9 (by decide) 4 _
                have hbe' := hb9.setCell hgs (p := ⟨g, 4, none⟩) (.slice A9 (st.ll.length + 1) c9)
                have kc' := kc9.far (p := ⟨g, 4, none⟩) (show w.heap.size ≠ g by omega) (.slice A9 (st.ll.length + 1) c9)
                have kz' := kz9.far (p := ⟨g, 4, none⟩) (show w.heap.size + 1 ≠ g by omega) (.slice A9 (st.ll.length + 1) c9)
                have km' : MapB (w9.setCell ⟨g, 4, none⟩ (.slice A9 (st.ll.length + 1) c9)) (w.heap.size + 2) cnt f := MapF.setCell km9 (a := ⟨g, 4, none⟩) (show w.heap.size + 2 ≠ g by omega) _
                have ki' : MapI (w9.setCell ⟨g, 4, none⟩ (.slice A9 (st.ll.length + 1) c9)) (g + 1) (k + 1) (updI st.bec k st.ll.length) := MapF.setCell ki9 (a := ⟨g, 4, none⟩) (show g + 1 ≠ g by omega) _
                have d4 : w9.cell? ⟨g, 4, none⟩ = some (.slice A3 st.ll.length q3) := bk9.cell 4
                have f4 := bk9.frozen 4
                have HKO2 := Lib.hid ko'
                clear hG ko' HKO HOWN hown9 bk9 oi9 ok9 kc9 kz9 km9 ki9 hb9 kc7 kz7 km7 ki7 hbx7 x0 e4
                go_wp2_with fail
                go_roundw
                case rel => exact ⟨k + 1, ⟨st.li, Q.1, st.ll ++ [⟨op, st.ll.length, av, 0⟩], updI st.bec k st.ll.length⟩, A1, q1, A', c', A9, c9, by omega, by go_num, hbe', kc', kz', km', ki', HKO2.out, show st.li.length ≤ k + 1 by omega, show Q.1.length ≤ k + 1 by omega, by rw [hlen]; omega, Lib.hid (by rw [← HF1.out, ← hav])⟩
                case measure => simp [intOf]; omega
              · as_aux_lemma =>
                have h50 : op ≠ 50 := h5
                have g50 : (op == 50) = false := by rw [beq_eq_false_iff_ne]; exact h50
                have g51 : (op == 51) = false := by rw [beq_eq_false_iff_ne]; exact h51
                have hds : dropStep li lk k ⟨op, dst, a, b⟩ st = ⟨st.li, st.lk, st.ll ++ [⟨op, st.ll.length, st.bec a, 0⟩], updI st.bec k st.ll.length⟩ := by
                  unfold dropStep
                  simp only [if_neg h50, if_neg h51]
                  rw [if_neg (by rw [hm]; exact h2)]
                rw [hds] at hF1
                clear hds hm h50 h51 h5
                go_wp2_with (first | (at_lookup; refine wpList_lookF boolE rfl _ _ 60 rfl 3 4 Try.underlying3 Try.underlying60 (hzb _) _ _ _ rfl kmx _ rfl hwk ?_; rw [hfk]; dsimp only [boolE]) | (at_lookup; refine wpList_lookF intE rfl _ _ 67 rfl 3 3 Try.underlying3 Try.underlying67 (hzi _) _ _ _ rfl kix _ rfl (by first | exact hwa | exact hwb) ?_; dsimp only [intE]))
                refine (HOP.out _).mono ?_
                rintro e w9 ⟨rfl, rfl⟩
                clear HOP
                generalize hpxe : wr.heap.size = px at *
                go_upto_region 25 with (first | (at_lookup; refine wpList_lookF intE rfl _ _ 67 rfl 3 3 Try.underlying3 Try.underlying67 (hzi _) _ _ _ rfl kix _ rfl (by first | exact hwa | exact hwb) ?_; dsimp only [intE]) | (at_mapUpdate; refine wpList_putF intE rfl _ _ _ 67 rfl 3 3 Try.underlying3 Try.underlying67 _ _ _ rfl kix (by unfold maxLen; omega) _ rfl hwk (st.ll.length : Int) rfl ?_; intro w7 hm7 hg7))
                have hbx7 : Below w.heap.size w w7 := below_gb hbx hg7 hbx.size (by omega)
                have kc7 := kcx.grown hg7 (by intro e; injection e with e; omega)
                have kz7 := kzx.grown hg7 (by intro e; injection e with e; omega)
                have km7 : MapB w7 (w.heap.size + 2) cnt f := MapF.grown kmx hg7 (by intro e; injection e with e; omega)
                have ki7 : MapI w7 (g + 1) (k + 1) (updI st.bec k st.ll.length) := hm7
                have ko7 := kox.far hg7 (by omega) (by omega)
                have kx7 := kx.grown hg7 (by intro e; injection e with e; omega)
                have x0 : w7.cell? ⟨px, 0, none⟩ = some (.int .i64 op) := kx7.cell 0
                have e4 : w7.cell? ⟨g, 4, none⟩ = some (.slice A3 st.ll.length q3) := ko7.bk.cell 4
                have HOWN := Lib.hid ko7.ol
                have HKO := Lib.hid ko7
                have hz7 : g + 2 ≤ w7.heap.size := by have := MapF.lt ki7; omega
                have HF1 := Lib.hid hF1.out
                clear hg7 hm7 kcx kzx kmx kix kox kx hbx kx7 ko7 hF1
                generalize hav : (st.bec a : Int) = av at *
                refine wp_region_l 19 16 ((Value.slice A3 st.ll.length q3).ownBlock) (by decide) (by kernel_rfl) (fun qk => (drR25 op av 0 g px (g + 2) A3 q3 st.ll w7).getD qk .any) (by kernel_rfl) ?_ ?_
                · refine BOkL.pure rfl [] [7] rfl rfl (by kernel_rfl) (by kernel_rfl) (.pointer (some ⟨g, 0, none⟩)) rfl (fun qK qa wr qO qF hK => ?_) ?_
                  · have e7 : qa.tmps[7]? = some (.pointer (some ⟨g, 0, none⟩)) := qO.1.trans rfl
                    clear qO qF
                    go_simp
                    exact hK
                  refine BOkL.cons rfl [] [7] rfl _ rfl (by kernel_rfl) rfl (by kernel_rfl) (by kernel_rfl) (fun qK qa wr hB qO qF hK => ?_) ?_
                  · have e7 : qa.tmps[7]? = some (.pointer (some ⟨g, 0, none⟩)) := qO.1.trans rfl
                    clear qO qF
                    go_simp
                    exact hK _ _ (Below.refl _ _) rfl
                  refine BOkL.cons rfl [1] [] rfl _ rfl (by kernel_rfl) rfl (by kernel_rfl) (by kernel_rfl) (fun qK qa wr hB qO qF hK => ?_) ?_
                  · have e97 : qa.tmps[97]? = some (.pointer (some ⟨g, 0, none⟩)) := fis qF.1 rfl rfl
                    clear qO qF
                    go_simp
                    exact hK _ _ (Below.refl _ _) rfl
                  refine BOkL.cons rfl [2] [] rfl _ rfl (by kernel_rfl) rfl (by kernel_rfl) (by kernel_rfl) (fun qK qa wr hB qO qF hK => ?_) ?_
                  · have e98 : qa.tmps[98]? = some (.pointer (some ⟨g, 0, none⟩)) := fis qF.1 rfl rfl
                    clear qO qF
                    go_simp
                    exact hK _ _ (Below.refl _ _) rfl
                  refine BOkL.cons rfl [3] [] rfl _ rfl (by kernel_rfl) rfl (by kernel_rfl) (by kernel_rfl) (fun qK qa wr hB qO qF hK => ?_) ?_
                  · have e99 : qa.tmps[99]? = some (.pointer (some ⟨g, 4, none⟩)) := fis qF.1 rfl rfl
                    clear qO qF
                    have he4 := (bcell hB _ _ (World.block_lt_of_cell? _ _ e4)).trans e4
                    go_simp
                    exact hK _ _ (Below.refl _ _) rfl
                  refine BOkL.cons rfl [] [10] rfl _ rfl (by kernel_rfl) rfl (by kernel_rfl) (by kernel_rfl) (fun qK qa wr hB qO qF hK => ?_) ?_
                  · have e10 : qa.tmps[10]? = some (.pointer (some ⟨px, 0, none⟩)) := qO.1.trans rfl
                    clear qO qF
                    go_simp
                    exact hK _ _ (Below.refl _ _) rfl
                  refine BOkL.cons rfl [5] [] rfl _ rfl (by kernel_rfl) rfl (by kernel_rfl) (by kernel_rfl) (fun qK qa wr hB qO qF hK => ?_) ?_
                  · have e101 : qa.tmps[101]? = some (.pointer (some ⟨px, 0, none⟩)) := fis qF.1 rfl rfl
                    clear qO qF
                    have hx0 := (bcell hB _ _ (World.block_lt_of_cell? _ _ x0)).trans x0
                    go_simp
                    exact hK _ _ (Below.refl _ _) rfl
                  refine BOkL.cons rfl [] [7] rfl _ rfl (by kernel_rfl) rfl (by kernel_rfl) (by kernel_rfl) (fun qK qa wr hB qO qF hK => ?_) ?_
                  · have e7 : qa.tmps[7]? = some (.pointer (some ⟨g, 0, none⟩)) := qO.1.trans rfl
                    clear qO qF
                    go_simp
                    exact hK _ _ (Below.refl _ _) rfl
                  refine BOkL.cons rfl [7] [] rfl _ rfl (by kernel_rfl) rfl (by kernel_rfl) (by kernel_rfl) (fun qK qa wr hB qO qF hK => ?_) ?_
                  · have e103 : qa.tmps[103]? = some (.pointer (some ⟨g, 0, none⟩)) := fis qF.1 rfl rfl
                    clear qO qF
                    go_simp
                    exact hK _ _ (Below.refl _ _) rfl
                  refine BOkL.cons rfl [8] [] rfl _ rfl (by kernel_rfl) rfl (by kernel_rfl) (by kernel_rfl) (fun qK qa wr hB qO qF hK => ?_) ?_
                  · have e104 : qa.tmps[104]? = some (.pointer (some ⟨g, 0, none⟩)) := fis qF.1 rfl rfl
                    clear qO qF
                    go_simp
                    exact hK _ _ (Below.refl _ _) rfl
                  refine BOkL.cons rfl [9] [] rfl _ rfl (by kernel_rfl) rfl (by kernel_rfl) (by kernel_rfl) (fun qK qa wr hB qO qF hK => ?_) ?_
                  · have e105 : qa.tmps[105]? = some (.pointer (some ⟨g, 4, none⟩)) := fis qF.1 rfl rfl
                    clear qO qF
                    have he4 := (bcell hB _ _ (World.block_lt_of_cell? _ _ e4)).trans e4
                    go_simp
                    exact hK _ _ (Below.refl _ _) rfl
                  refine BOkL.cons rfl [10] [] rfl _ rfl (by kernel_rfl) rfl (by kernel_rfl) (by kernel_rfl) (fun qK qa wr hB qO qF hK => ?_) ?_
                  · have e106 : qa.tmps[106]? = some (.slice A3 st.ll.length q3) := fis qF.1 rfl rfl
                    clear qO qF
                    go_simp
                    exact hK _ _ (Below.refl _ _) rfl
                  refine BOkL.cons rfl [] [11] rfl _ rfl (by kernel_rfl) rfl (by kernel_rfl) (by kernel_rfl) (fun qK qa wr hB qO qF hK => ?_) ?_
                  · have e11 : qa.tmps[11]? = some (.int .i64 av) := qO.1.trans rfl
                    clear qO qF
                    go_simp
                    exact hK _ _ (Below.refl _ _) rfl
                  refine BOkL.cons rfl [] [12] rfl _ rfl (by kernel_rfl) rfl (by kernel_rfl) (by kernel_rfl) (fun qK qa wr hB qO qF hK => ?_) ?_
                  · have e12 : qa.tmps[12]? = some (.int .i64 0) := qO.1.trans rfl
                    clear qO qF
                    go_simp
                    exact hK _ _ (Below.refl _ _) rfl
                  refine BOkL.cons rfl [6, 11, 12, 13] [] rfl _ rfl (by kernel_rfl) rfl (by kernel_rfl) (by kernel_rfl) (fun qK qa wr hB qO qF hK => ?_) ?_
                  · have e102 : qa.tmps[102]? = some (.int .i64 op) := fis qF.1 rfl rfl
                    have e107 : qa.tmps[107]? = some (.int .i64 (st.ll.length : Nat)) := fis qF.2.1 rfl rfl
                    have e108 : qa.tmps[108]? = some (.int .i64 av) := fis qF.2.2.1 rfl rfl
                    have e109 : qa.tmps[109]? = some (.int .i64 0) := fis qF.2.2.2.1 rfl rfl
                    clear qO qF
                    go_simp
                    refine hK _ _ (Below.refl _ _) ?_
                    show (_ : Value) = _
                    first | rfl | (simp; done) | (simp; omega)
                  refine BOkL.cons rfl [14] [] rfl _ rfl (by kernel_rfl) rfl (by kernel_rfl) (by kernel_rfl) (fun qK qa wr hB qO qF hK => ?_) ?_
                  · have e110 : qa.tmps[110]? = some (.agg #[.int .i64 op, .int .i64 (st.ll.length : Nat), .int .i64 av, .int .i64 0]) := fis qF.1 rfl rfl
                    clear qO qF
                    go_simp
                    exact hK _ _ ((Below.refl _ _).alloc (Nat.le_refl _) _) ⟨_, rfl, Bk.new _ _ _⟩
                  refine BOkL.app rfl [4, 15] [] rfl (by kernel_rfl) (by kernel_rfl) (fun qK qa wr hB qO qF hK => ?_) ?_
                  · have e100 : qa.tmps[100]? = some (.slice A3 st.ll.length q3) := fis qF.1 rfl rfl
                    obtain ⟨u111, e111, r15⟩ := qF.2.1
                    obtain ⟨g111, h111, k111⟩ := (show ∃ g, u111 = .slice (some ⟨g, 0, none⟩) 1 1 ∧ Bk wr g 43 #[.int .i64 op, .int .i64 (st.ll.length : Nat), .int .i64 av, .int .i64 0] from r15)
                    subst h111
                    have e111 : qa.tmps[111]? = some (.slice (some ⟨g111, 0, none⟩) 1 1) := e111
                    clear qO qF
                    refine wp_append_rd _ _ 24 rfl (g + 2) 43 iS _ 4 32 Try.underlying24 hS hS0 hS1 hS2 rfl (by decide) (.slice A3 st.ll.length q3) st.ll.length _ (act_evalG e100) (own_old HOWN.out hB) (g111 + 1) (some ⟨g111, 0, none⟩) 1 1 [.int .i64 op, .int .i64 (st.ll.length : Nat), .int .i64 av, .int .i64 0] (act_evalG e111) (Rd.bk k111 (Nat.lt_succ_self _)) rfl (by intro u hu; simp at hu; rcases hu with rfl | rfl | rfl | rfl <;> rfl) (by unfold maxLen; omega) (by omega) (by have := hB.size; omega) ?_
                    intro A9 c9 w9 hown9 hg9 _
                    exact hK _ _ (World.grownBy.trans (gb_of _ hB) hg9) hg9.size ⟨A9, c9, rfl, hown9⟩
                  refine BOkL.pure rfl [0] [] rfl rfl (by kernel_rfl) (by kernel_rfl) (.pointer (some ⟨g, 0, none⟩)) rfl (fun qK qa wr qO qF hK => ?_) ?_
                  · have e96 : qa.tmps[96]? = some (.pointer (some ⟨g, 0, none⟩)) := fisL qF.1 rfl rfl
                    clear qO qF
                    go_simp
                    exact hK
                  refine BOkL.pure rfl [17] [] rfl rfl (by kernel_rfl) (by kernel_rfl) (.pointer (some ⟨g, 4, none⟩)) rfl (fun qK qa wr qO qF hK => ?_) ?_
                  · have e113 : qa.tmps[113]? = some (.pointer (some ⟨g, 0, none⟩)) := fisL qF.1 rfl rfl
                    clear qO qF
                    go_simp
                    exact hK
                  exact BOkL.nil
                intro vals wr hl hG hR
                match vals, hl with
                | [z96, z97, z98, z99, z100, z101, z102, z103, z104, z105, z106, z107, z108, z109, z110, z111, z112, z113, z114], _ =>
                have r16 : (fun v w => ∃ (A : Option Addr) (c : Nat), v = .slice A (st.ll.length + 1) c ∧ w.ownsRow (g + 2) 43 4 (.slice A (st.ll.length + 1) c) (st.ll.length + 1) (st.ll.flatMap InsV.cells ++ [.int .i64 op, .int .i64 (st.ll.length : Nat), .int .i64 av, .int .i64 0])) z112 wr := both_at (hR 16 _ rfl)
                have r18 : z114 = .pointer (some ⟨g, 4, none⟩) := hR 18 _ rfl
                subst r18
                clear hR
                simp only [List.take_succ_cons, List.take_zero, List.drop_succ_cons, List.drop_zero, List.toList_toArray, List.cons_append, List.nil_append, putAll, Act.put, List.setIfInBounds_toArray, List.set_cons_zero, List.set_cons_succ]
                obtain ⟨A9, c9, rfl, hown9⟩ := r16
                rename World => w9
                have hb9 : Below w.heap.size w w9 := below_own hbx7 HOWN.out (by omega) hG (by omega)
                have kc9 := kc7.grown hG (own_ne_bk HOWN.out kc7 (by decide))
                have kz9 := kz7.grown hG (own_ne_bk HOWN.out kz7 (by decide))
                have km9 : MapB w9 (w.heap.size + 2) cnt f := MapF.grown km7 hG (fun e => by have := (HOWN.out.lt _ e.symm).1; omega)
                have ki9 : MapI w9 (g + 1) (k + 1) (updI st.bec k st.ll.length) := MapF.grown ki7 hG (fun e => by have := (HOWN.out.lt _ e.symm).1; omega)
                have bk9 := HKO.out.bk.grown hG (own_ne_bk HOWN.out HKO.out.bk (by decide))
                have oi9 := own_keep HKO.out.oi HOWN.out (by decide) hG
                have ok9 := own_keep HKO.out.ok HOWN.out (by decide) hG
                have hlen : (st.ll ++ [(⟨op, st.ll.length, av, 0⟩ : InsV)]).length = st.ll.length + 1 := by simp
                have hgs : w.heap.size ≤ g := by omega
                have ko' : OutOk (w9.setCell ⟨g, 4, none⟩ (.slice A9 (st.ll.length + 1) c9)) g (g + 2) ⟨0, 0, A1, q1, st.li, A2, q2, st.lk, A9, c9, st.ll ++ [⟨op, st.ll.length, av, 0⟩]⟩ := by
                  have hb := bk9.put 4 (.slice A9 (st.ll.length + 1) c9)
                  refine ⟨by show Bk _ g _ #[.int .i64 0, .int .i64 0, _, _, .slice A9 (st.ll ++ [(⟨op, st.ll.length, av, 0⟩ : InsV)]).length c9]; rw [hlen]; simpa using hb, own_set oi9 bk9 (by decide) 4 _, own_set ok9 bk9 (by decide) 4 _, ?_⟩
                  show World.ownsRow _ (g + 2) 43 4 (.slice A9 (st.ll ++ [(⟨op, st.ll.length, av, 0⟩ : InsV)]).length c9) (st.ll ++ [(⟨op, st.ll.length, av, 0⟩ : InsV)]).length ((st.ll ++ [(⟨op, st.ll.length, av, 0⟩ : InsV)]).flatMap InsV.cells)
                  rw [hlen, List.flatMap_append]
                  exact own_set hown9 bk9 (by decide) 4 _
                have hbe' := hb9.setCell hgs (p := ⟨g, 4, none⟩) (.slice A9 (st.ll.length + 1) c9)
                have kc' := kc9.far (p := ⟨g, 4, none⟩) (show w.heap.size ≠ g by omega) (.slice A9 (st.ll.length + 1) c9)
                have kz' := kz9.far (p := ⟨g, 4, none⟩) (show w.heap.size + 1 ≠ g by omega) (.slice A9 (st.ll.length + 1) c9)
                have km' : MapB (w9.setCell ⟨g, 4, none⟩ (.slice A9 (st.ll.length + 1) c9)) (w.heap.size + 2) cnt f := MapF.setCell km9 (a := ⟨g, 4, none⟩) (show w.heap.size + 2 ≠ g by omega) _
                have ki' : MapI (w9.setCell ⟨g, 4, none⟩ (.slice A9 (st.ll.length + 1) c9)) (g + 1) (k + 1) (updI st.bec k st.ll.length) := MapF.setCell ki9 (a := ⟨g, 4, none⟩) (show g + 1 ≠ g by omega) _
                have d4 : w9.cell? ⟨g, 4, none⟩ = some (.slice A3 st.ll.length q3) := bk9.cell 4
                have f4 := bk9.frozen 4
                have HKO2 := Lib.hid ko'
                clear hG ko' HKO HOWN hown9 bk9 oi9 ok9 kc9 kz9 km9 ki9 hb9 kc7 kz7 km7 ki7 hbx7 x0 e4
                go_wp2_with fail
                go_roundw
                case rel => exact ⟨k + 1, ⟨st.li, st.lk, st.ll ++ [⟨op, st.ll.length, av, 0⟩], updI st.bec k st.ll.length⟩, A1, q1, A2, q2, A9, c9, by omega, by go_num, hbe', kc', kz', km', ki', HKO2.out, show st.li.length ≤ k + 1 by omega, show st.lk.length ≤ k + 1 by omega, by rw [hlen]; omega, Lib.hid (by rw [← HF1.out, ← hav])⟩
                case measure => simp [intOf]; omega
        · as_aux_lemma =>
          obtain rfl : k = n := by omega
          have hst : st = FF := by
            have h := hF.out
            rw [show ll.drop k = [] from List.drop_eq_nil_of_le (by rw [HN.out]; exact Nat.le_refl _)] at h
            exact h
          subst hst
          have hlpos : 1 ≤ st.ll.length := HLP.out
          have hgz : g + 1 < wr.heap.size := MapF.lt kmi
          have bk := ko.bk
          have HOI := Lib.hid ko.oi
          have HOK := Lib.hid ko.ok
          have HOL := Lib.hid ko.ol
          have d4 : wr.cell? ⟨g, 4, none⟩ = some (.slice A3 st.ll.length q3) := bk.cell 4
          have d0 : wr.cell? ⟨g, 0, none⟩ = some (.int .i64 0) := bk.cell 0
          have f0 := bk.frozen 0
          have hsub : IntKind.i64.wrap ((st.ll.length : Int) - 1) = ((st.ll.length - 1 : Nat) : Int) := by rw [IntKind.wrap_i64]; omega
          clear hF km kmi kc ko
          rcases HOL.out.2 with ⟨_, hn0⟩ | ⟨b3, cap, cur, hv, hb3, hh, _⟩
          · have hn0 : st.ll.length = 0 := hn0
            omega
          injection hv with hA _ _
          subst hA
          have kb : Bk wr b3 43 cur := hh
          obtain ⟨L1, hL1⟩ : ∃ L1, st.ll.length - 1 = L1 := ⟨_, rfl⟩
          have hlt1 : L1 < st.ll.length := by omega
          obtain ⟨b', o', hA, _, hcl⟩ := (own_rd HOL.out).elem (f := InsV.cells) (n := 4) (fun _ => rfl) (by omega) hlt1
          injection hA with hA; injection hA with e1 e2; subst e1; subst e2
          have hcd := hcl 1 _ rfl
          rw [Nat.zero_add] at hcd
          generalize (st.ll[L1]).dst = dl at hcd
          rw [hL1] at hsub
          have hne3 : b3 ≠ g := by omega
          have bkX : Bk (wr.setCell ⟨g, 0, none⟩ (.int .i64 (L1 : Nat))) g 26 #[.int .i64 (L1 : Nat), .int .i64 0, .slice A1 st.li.length q1, .slice A2 st.lk.length q2, .slice (some ⟨b3, 0, none⟩) st.ll.length q3] := by simpa using bk.put 0 (.int .i64 (L1 : Nat))
          have kbX := kb.far (p := ⟨g, 0, none⟩) hne3 (.int .i64 (L1 : Nat))
          have cdX : (wr.setCell ⟨g, 0, none⟩ (.int .i64 (L1 : Nat))).cell? ⟨b3, L1 * 4 + 1, none⟩ = some (.int .i64 dl) := by
            rw [kbX.cell, ← kb.cell]; exact hcd
          have kzX := kz.far (p := ⟨g, 0, none⟩) (show w.heap.size + 1 ≠ g by omega) (.int .i64 (L1 : Nat))
          have hbX := hbe.setCell (show w.heap.size ≤ g by omega) (p := ⟨g, 0, none⟩) (.int .i64 (L1 : Nat))
          have oiX := own_set HOI.out bk (by decide) 0 (.int .i64 (L1 : Nat))
          have okX := own_set HOK.out bk (by decide) 0 (.int .i64 (L1 : Nat))
          have olX := own_set HOL.out bk (by decide) 0 (.int .i64 (L1 : Nat))
          have d4X : (wr.setCell ⟨g, 0, none⟩ (.int .i64 (L1 : Nat))).cell? ⟨g, 4, none⟩ = some (.slice (some ⟨b3, 0, none⟩) st.ll.length q3) := bkX.cell 4
          have d0X : (wr.setCell ⟨g, 0, none⟩ (.int .i64 (L1 : Nat))).cell? ⟨g, 0, none⟩ = some (.int .i64 (L1 : Nat)) := bkX.cell 0
          clear hh hcl kz hbe kb hcd HOI HOK HOL bk
          go_upto_region 28 with fail
          refine wp_region_t 8 (fun k => false) (by kernel_rfl) (fun qk => (drR28 g b3 st.ll.length q3 L1 w).getD qk .any) (by kernel_rfl) ?_ ?_
          · refine BOk.cons rfl [] [7] rfl rfl (by kernel_rfl) (by kernel_rfl) (fun qK qa wr hB qO qF hK => ?_) ?_
            · have e7 : qa.tmps[7]? = some (.pointer (some ⟨g, 0, none⟩)) := qO.1.trans rfl
              clear qO qF
              go_simp
              exact hK _ _ (Below.refl _ _) rfl
            refine BOk.cons rfl [0] [] rfl rfl (by kernel_rfl) (by kernel_rfl) (fun qK qa wr hB qO qF hK => ?_) ?_
            · have e125 : qa.tmps[125]? = some (.pointer (some ⟨g, 0, none⟩)) := fis qF.1 rfl rfl
              clear qO qF
              go_simp
              exact hK _ _ (Below.refl _ _) rfl
            refine BOk.cons rfl [1] [] rfl rfl (by kernel_rfl) (by kernel_rfl) (fun qK qa wr hB qO qF hK => ?_) ?_
            · have e126 : qa.tmps[126]? = some (.pointer (some ⟨g, 0, none⟩)) := fis qF.1 rfl rfl
              clear qO qF
              go_simp
              exact hK _ _ (Below.refl _ _) rfl
            refine BOk.cons rfl [2] [] rfl rfl (by kernel_rfl) (by kernel_rfl) (fun qK qa wr hB qO qF hK => ?_) ?_
            · have e127 : qa.tmps[127]? = some (.pointer (some ⟨g, 4, none⟩)) := fis qF.1 rfl rfl
              clear qO qF
              have hd4X := (bcell hB _ _ (World.block_lt_of_cell? _ _ d4X)).trans d4X
              go_simp
              exact hK _ _ (Below.refl _ _) rfl
            refine BOk.cons rfl [] [7] rfl rfl (by kernel_rfl) (by kernel_rfl) (fun qK qa wr hB qO qF hK => ?_) ?_
            · have e7 : qa.tmps[7]? = some (.pointer (some ⟨g, 0, none⟩)) := qO.1.trans rfl
              clear qO qF
              go_simp
              exact hK _ _ (Below.refl _ _) rfl
            refine BOk.cons rfl [4] [] rfl rfl (by kernel_rfl) (by kernel_rfl) (fun qK qa wr hB qO qF hK => ?_) ?_
            · have e129 : qa.tmps[129]? = some (.pointer (some ⟨g, 0, none⟩)) := fis qF.1 rfl rfl
              clear qO qF
              go_simp
              exact hK _ _ (Below.refl _ _) rfl
            refine BOk.cons rfl [5] [] rfl rfl (by kernel_rfl) (by kernel_rfl) (fun qK qa wr hB qO qF hK => ?_) ?_
            · have e130 : qa.tmps[130]? = some (.pointer (some ⟨g, 0, none⟩)) := fis qF.1 rfl rfl
              clear qO qF
              go_simp
              exact hK _ _ (Below.refl _ _) rfl
            refine BOk.cons rfl [6] [] rfl rfl (by kernel_rfl) (by kernel_rfl) (fun qK qa wr hB qO qF hK => ?_) ?_
            · have e131 : qa.tmps[131]? = some (.pointer (some ⟨g, 0, none⟩)) := fis qF.1 rfl rfl
              clear qO qF
              have hd0X := (bcell hB _ _ (World.block_lt_of_cell? _ _ d0X)).trans d0X
              go_simp
              exact hK _ _ (Below.refl _ _) rfl
            exact BOk.nil
          intro vals wr hl hB hR hS
          match vals, hl with
          | [z125, z126, z127, z128, z129, z130, z131, z132], _ =>
          have r3 : z128 = .slice (some ⟨b3, 0, none⟩) st.ll.length q3 := hR 3 _ rfl
          subst r3
          have r7 : z132 = .int .i64 (L1 : Nat) := hR 7 _ rfl
          subst r7
          clear hS
          clear hR
          simp only [List.take_succ_cons, List.take_zero, List.drop_succ_cons, List.drop_zero, List.toList_toArray, List.cons_append, List.nil_append, putAll, Act.put, List.setIfInBounds_toArray, List.set_cons_zero, List.set_cons_succ]
          rename World => w28
          have bkY := bkX.old hB
          have kbY := kbX.old hB
          have kzY := kzX.old hB
          have hbY := hbX.trans (hB.mono hbX.size)
          have oiY := own_old oiX hB
          have okY := own_old okX hB
          have olY := own_old olX hB
          have cdY : w28.cell? ⟨b3, L1 * 4 + 1, none⟩ = some (.int .i64 dl) := (bcell hB _ _ (World.block_lt_of_cell? _ _ cdX)).trans cdX
          have fdY := kbY.frozen (L1 * 4 + 1)
          clear hB d0X d4X cdX bkX kbX kzX hbX oiX okX olX d0 d4 f0
          have bkZ := bkY.far (p := ⟨b3, L1 * 4 + 1, none⟩) (Ne.symm hne3) (.int .i64 0)
          have kzZ := kzY.far (p := ⟨b3, L1 * 4 + 1, none⟩) (show w.heap.size + 1 ≠ b3 by omega) (.int .i64 0)
          have hbZ := hbY.setCell (show w.heap.size ≤ b3 by omega) (p := ⟨b3, L1 * 4 + 1, none⟩) (.int .i64 0)
          have oiZ := own_set oiY kbY (by decide) (L1 * 4 + 1) (.int .i64 0)
          have okZ := own_set okY kbY (by decide) (L1 * 4 + 1) (.int .i64 0)
          have kbZ := kbY.put (L1 * 4 + 1) (.int .i64 0)
          have hrl : ∀ (j : Nat) (u : Value), ((lastZ st.ll).flatMap InsV.cells)[j]? = some u → (w28.setCell ⟨b3, L1 * 4 + 1, none⟩ (.int .i64 0)).cell? ⟨b3, j, none⟩ = some u := by
            intro j u hu
            rw [flat_lastZ st.ll (by intro e; rw [e] at hlt1; simp at hlt1), hL1] at hu
            rw [kbZ.cell, Array.getElem?_setIfInBounds]
            rw [List.getElem?_set] at hu
            by_cases hj : L1 * 4 + 1 = j
            · rw [if_pos hj] at hu ⊢
              have h1 := kbY.cell (L1 * 4 + 1)
              rw [cdY] at h1
              rw [if_pos (Array.getElem?_eq_some_iff.1 h1.symm).1]
              split at hu
              · exact hu
              · cases hu
            · rw [if_neg hj] at hu ⊢
              rcases own_rd olY with h | ⟨b', o', hA, _, hcl⟩
              · rw [h] at hu; simp at hu
              · injection hA with hA; injection hA with e1 e2; subst e1; subst e2
                have := hcl j u hu
                rw [Nat.zero_add, kbY.cell] at this
                exact this
          have HRL2 := Lib.hid hrl
          have k0 : (w28.setCell ⟨b3, L1 * 4 + 1, none⟩ (.int .i64 0)).cell? ⟨g, 0, none⟩ = some (.int .i64 (L1 : Nat)) := bkZ.cell 0
          have k1 : (w28.setCell ⟨b3, L1 * 4 + 1, none⟩ (.int .i64 0)).cell? ⟨g, 1, none⟩ = some (.int .i64 0) := bkZ.cell 1
          have k2 : (w28.setCell ⟨b3, L1 * 4 + 1, none⟩ (.int .i64 0)).cell? ⟨g, 2, none⟩ = some (.slice A1 st.li.length q1) := bkZ.cell 2
          have k3 : (w28.setCell ⟨b3, L1 * 4 + 1, none⟩ (.int .i64 0)).cell? ⟨g, 3, none⟩ = some (.slice A2 st.lk.length q2) := bkZ.cell 3
          have k4 : (w28.setCell ⟨b3, L1 * 4 + 1, none⟩ (.int .i64 0)).cell? ⟨g, 4, none⟩ = some (.slice (some ⟨b3, 0, none⟩) st.ll.length q3) := bkZ.cell 4
          have hz3 := kbZ.lt
          clear hrl olY oiY okY kbY kbZ bkY kzY hbY
          go_wp2_with (first | (refine wpList_put5 rfl _ _ rfl rfl rfl kzZ rfl ?_; intro w9 p9))
          have hb9 := p9.below _ _ hbZ (by omega)
          have r1 := own_rd (own_other oiZ p9.other (by omega))
          have r2 := own_rd (own_other okZ p9.other (by omega))
          have r3 : Rd w9 w9.heap.size (some ⟨b3, 0, none⟩) ((lastZ st.ll).flatMap InsV.cells) := .inr ⟨b3, 0, rfl, by rw [p9.size]; exact hz3, fun j u hu => by
            rw [Nat.zero_add]
            have := HRL2.out j u hu
            rw [← this]
            unfold World.cell?
            rw [p9.other b3 (by omega)]⟩
          have hfin := HDOK.out (.returned (.agg #[.int .i64 (L1 : Nat), .int .i64 0, .slice A1 st.li.length q1, .slice A2 st.lk.length q2, .slice (some ⟨b3, 0, none⟩) st.ll.length q3])) w9 ⟨A1, q1, A2, q2, _, q3, by rw [hL1], r1, r2, r3, hb9⟩
          have u0 := p9.bk.cell 0
          have u1 := p9.bk.cell 1
          have u2 := p9.bk.cell 2
          have u3 := p9.bk.cell 3
          have u4 := p9.bk.cell 4
          simp at u0 u1 u2 u3 u4
          exact bodyPost_ret (v := .agg #[.int .i64 (L1 : Nat), .int .i64 0, .slice A1 st.li.length q1, .slice A2 st.lk.length q2, .slice (some ⟨b3, 0, none⟩) st.ll.length q3]) (by simp [results, Try.results15, go_sem, u0, u1, u2, u3, u4]) rfl hfin
end Go.Proofs.Ytadblgfppnpamaa
