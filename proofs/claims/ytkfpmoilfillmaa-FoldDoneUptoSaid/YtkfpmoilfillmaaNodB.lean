/- Layer 8, the document's twins of nodes. No conditions. -/
import Derived.Test.YtkfpmoilfillmaaNodA
namespace Go.Proofs.Ytkfpmoilfillmaa
open Go.RowKit
set_option linter.unusedVariables false
set_option linter.unusedSimpArgs false

theorem run_bs_node (c0 c1 c2 c3 c4 c5 c6 : Value) (w : World) : (Instr.buildSlice 22 1 #[(0, .agg #[c0, c1, c2, c3, c4, c5, c6])]).run Try.prog w = .ok (.slice (some ⟨w.heap.size, 0, none⟩) 1 1) (w.alloc (.cells #[c0, c1, c2, c3, c4, c5, c6] 27)) := by kernel_rfl
theorem act_eval {a : Act} {d : Nat} {v : Value} (h : a.tmps[d]? = some v) : a.eval (.tmp d) = v := by simp [Act.eval, h]
theorem wp_bs_node {w : World} {o : Oper} {a : Act} {K : Act → World → Prop} {Q : Exit → Act → World → Prop} {c0 c1 c2 c3 c4 c5 c6 : Value} (x : Operand) (ho : o.op = .buildSlice 22 1 #[(0, x)]) (hx : a.eval x = .agg #[c0, c1, c2, c3, c4, c5, c6])
    (h : K (a.put o.dst (.slice (some ⟨w.heap.size, 0, none⟩) 1 1)) (w.alloc (.cells #[c0, c1, c2, c3, c4, c5, c6] 27))) : o.wp Try.prog a w K Q := by
  unfold Oper.wp execOp
  simp only [ho, List.map_toArray, List.map_cons, List.map_nil, hx, Sem.run_bind, run_bs_node, Result.andThen_ok, Sem.run_pure]
  exact h
theorem wpList_bs_node {w : World} {ops : Array Oper} {rest : List Oper} {o : Oper} {a : Act} {Q : Exit → Act → World → Prop} {c0 c1 c2 c3 c4 c5 c6 : Value} (hgd : o.guard = none) (x : Operand) (ho : o.op = .buildSlice 22 1 #[(0, x)]) (hx : a.eval x = .agg #[c0, c1, c2, c3, c4, c5, c6])
    (h : wpList Try.prog ops Q rest (a.put o.dst (.slice (some ⟨w.heap.size, 0, none⟩) 1 1)) (w.alloc (.cells #[c0, c1, c2, c3, c4, c5, c6] 27))) : wpList Try.prog ops Q (o :: rest) a w :=
  wpList_plain hgd fun _ hK => wp_bs_node x ho hx (hK _ _ h)

/-- Cells that can be read, in blocks of S. -/
def RdS (w : World) (S : Nat → Prop) (A : Option Addr) (cs : List Value) : Prop :=
  cs = [] ∨ ∃ b o, A = some ⟨b, o, none⟩ ∧ S b ∧ b < w.heap.size ∧ ∀ (j : Nat) (u : Value), cs[j]? = some u → w.cell? ⟨b, o + j, none⟩ = some u
def okS (S : Nat → Prop) : Nat → NodeV → World → Prop
  | 0, _, _ => False
  | d + 1, .mk op kind A c args vk vb pos a, w => RdS w S A (args.flatMap NodeV.cells) ∧ args.length ≤ 1048576 ∧ vb < 18446744073709551616 ∧ ∀ x ∈ args, okS S d x w
theorem RdS.rd {w : World} {S : Nat → Prop} {A : Option Addr} {cs : List Value} (h : RdS w S A cs) : Rd w w.heap.size A cs := by
  rcases h with h | ⟨b, o, h1, _, h2, h3⟩
  · exact .inl h
  · exact .inr ⟨b, o, h1, h2, h3⟩
theorem okS.n {w : World} {S : Nat → Prop} : ∀ {d : Nat} {n : NodeV}, okS S d n w → okN d n w w.heap.size
  | 0, _, h => h
  | d + 1, .mk .., h => ⟨h.1.rd, h.2.1, h.2.2.1, fun x hx => (h.2.2.2 x hx).n⟩
theorem RdS.keep {w w' : World} {S S' : Nat → Prop} {A : Option Addr} {cs : List Value} (h : RdS w S A cs) (hk : ∀ b, S b → b < w.heap.size → S' b ∧ b < w'.heap.size ∧ w'.heap[b]? = w.heap[b]?) : RdS w' S' A cs := by
  rcases h with h | ⟨b, o, h1, h0, h2, h3⟩
  · exact .inl h
  · obtain ⟨k1, k2, k3⟩ := hk b h0 h2
    exact .inr ⟨b, o, h1, k1, k2, fun j u hu => by rw [← h3 j u hu]; simp [World.cell?, k3]⟩
theorem okS.keep {w w' : World} {S S' : Nat → Prop} (hk : ∀ b, S b → b < w.heap.size → S' b ∧ b < w'.heap.size ∧ w'.heap[b]? = w.heap[b]?) : ∀ {d : Nat} {n : NodeV}, okS S d n w → okS S' d n w'
  | 0, _, h => h
  | d + 1, .mk .., h => ⟨h.1.keep hk, h.2.1, h.2.2.1, fun x hx => okS.keep hk (h.2.2.2 x hx)⟩
theorem own_rdS {w : World} {base e size n : Nat} {A : Option Addr} {c : Nat} {xs : List Value} (h : w.ownsRow base e size (.slice A n c) n xs) : RdS w (fun b => base ≤ b) A xs := by
  have hr := own_rd h
  rcases h.2 with ⟨h0, hn⟩ | ⟨g, cap, cur, hv, hb, hh, _⟩
  · subst hn
    exact .inl (List.eq_nil_of_length_eq_zero (by simpa using h.1))
  · have hA : A = some ⟨g, 0, none⟩ := by injection hv
    subst hA
    rcases hr with hr | ⟨b, o, h1, h2, h3⟩
    · exact .inl hr
    · have : g = b := by injection h1 with h1; injection h1
      subst this
      exact .inr ⟨_, _, h1, hb, h2, h3⟩

/-- Two nodes alike but for where they lie. -/
def simN : Nat → NodeV → NodeV → Prop
  | 0, _, _ => False
  | d + 1, .mk op kind _ _ args vk vb pos a, .mk op' kind' _ _ args' vk' vb' pos' a' => op = op' ∧ kind = kind' ∧ vk = vk' ∧ vb = vb' ∧ pos = pos' ∧ a = a' ∧ args.length = args'.length ∧ ∀ (i : Nat) (x y : NodeV), args[i]? = some x → args'[i]? = some y → simN d x y
theorem infoN : (Try.prog.info? 27).map (fun i => (i.zero, i.size, i.bytes)) = some (some (.agg #[.int .i64 0, .int .i64 0, .slice none 0 0, .int .i64 0, .int .u64 0, .int .i64 0, .int .i64 0]), 7, 72) := by kernel_rfl

/-- What the twins of a row are. -/
def TwinOk (d : Nat) (l : List NodeV) (w : World) (e : Ending) (w' : World) : Prop :=
  ∃ (A' : Option Addr) (c' : Nat) (l' : List NodeV), e = .returned (.slice A' l.length c') ∧ l'.length = l.length ∧ (∀ (i : Nat) (x y : NodeV), l[i]? = some x → l'[i]? = some y → simN d x y) ∧
    w'.ownsRow w.heap.size 27 7 (.slice A' l.length c') l.length (l'.flatMap NodeV.cells) ∧ (∀ y ∈ l', okS (fun b => w.heap.size ≤ b ∧ some b ≠ (Value.slice A' l.length c').ownBlock) d y w') ∧ Below w.heap.size w w'

set_option maxRecDepth 100000 in
set_option maxHeartbeats 4000000 in
theorem twin_step (d : Nat) (ih : ∀ d', d' + 1 = d → ∀ (l : List NodeV) (A : Option Addr) (c : Nat) (w : World), (∀ x ∈ l, okN d' x w w.heap.size) → Rd w w.heap.size A (l.flatMap NodeV.cells) → l.length ≤ 1048576 → Calls Try.prog 5 #[.slice A l.length c] w (TwinOk d' l w))
    (l : List NodeV) (A : Option Addr) (c : Nat) (w : World) (hall : ∀ x ∈ l, okN d x w w.heap.size) (hr : Rd w w.heap.size A (l.flatMap NodeV.cells)) (hl : l.length ≤ 1048576) : Calls Try.prog 5 #[.slice A l.length c] w (TwinOk d l w) := by
  obtain ⟨iN, hN, hN0, hN1, hN2⟩ := info_parts infoN
  have HA := Lib.hid hall
  have HRD := Lib.hid hr
  have HI := Lib.hid ih
  clear hall hr ih
  go_enter Try.func5, Try.ntmps5
  go_wp2_with fail
  go_loopw [3, 8] (fun vs i wr => ∃ (k : Nat) (Av : Option Addr) (cv : Nat) (l' : List NodeV), k ≤ l.length ∧ i = .int .i64 k ∧ vs = .slice Av k cv ∧ Below w.heap.size w wr ∧ l'.length = k ∧ Hid (∀ (i : Nat) (x y : NodeV), l[i]? = some x → l'[i]? = some y → simN d x y) ∧
      wr.ownsRow w.heap.size 27 7 vs k (l'.flatMap NodeV.cells) ∧ Hid (∀ y ∈ l', okS (fun b => w.heap.size ≤ b ∧ some b ≠ vs.ownBlock) d y wr)) (fun _ i _ => l.length - (intOf i).toNat)
  case atStart => exact ⟨0, none, 0, [], Nat.zero_le _, rfl, rfl, Below.refl _ _, rfl, Lib.hid (by intro i x y _ h; simp at h), World.ownsRow_nil _ _ _ _, Lib.hid (by simp)⟩
  case round =>
    obtain ⟨k, Av, cv, l', hk, rfl, rfl, hbel, hl', hsim, hown, hoks⟩ := hrel
    by_cases hlt : k < l.length
    · as_aux_lemma =>
      obtain ⟨b, o, rfl, hb, hc⟩ := (HRD.out.below hbel).elem (f := NodeV.cells) (n := 7) NodeV.len (by omega) hlt
      have hx := HA.out l[k] (by simp)
      have hlk : l[k]? = some l[k] := List.getElem?_eq_getElem hlt
      generalize l[k] = x at *
      obtain ⟨op, kind, A2, c2, args, vk, vb, pos, a⟩ := x
      have hc0 : wr.cell? ⟨b, o + k * 7, none⟩ = some (.int .i64 op) := hc 0 _ rfl
      have hc1 : wr.cell? ⟨b, o + k * 7 + 1, none⟩ = some (.int .i64 kind) := hc 1 _ rfl
      have hc2 : wr.cell? ⟨b, o + k * 7 + 2, none⟩ = some (.slice A2 args.length c2) := hc 2 _ rfl
      have hc3 : wr.cell? ⟨b, o + k * 7 + 3, none⟩ = some (.int .i64 vk) := hc 3 _ rfl
      have hc4 : wr.cell? ⟨b, o + k * 7 + 4, none⟩ = some (.int .u64 vb) := hc 4 _ rfl
      have hc5 : wr.cell? ⟨b, o + k * 7 + 5, none⟩ = some (.int .i64 pos) := hc 5 _ rfl
      have hc6 : wr.cell? ⟨b, o + k * 7 + 6, none⟩ = some (.int .i64 a) := hc 6 _ rfl
      clear hc
      obtain ⟨d', rfl⟩ : ∃ d', d = d' + 1 := by
        cases d with
        | zero => exact hx.elim
        | succ d' => exact ⟨d', rfl⟩
      have hbelX : Below w.heap.size w (wr.alloc (.cells #[.int .i64 op, .int .i64 kind, .slice A2 args.length c2, .int .i64 vk, .int .u64 vb, .int .i64 pos, .int .i64 a] 27)) := hbel.alloc hbel.size _
      have hx2 := okN.old hx hbelX
      have hrec := HI.out d' rfl args A2 c2 (wr.alloc (.cells #[.int .i64 op, .int .i64 kind, .slice A2 args.length c2, .int .i64 vk, .int .u64 vb, .int .i64 pos, .int .i64 a] 27)) hx2.2.2.2 hx2.1 hx2.2.1
      have hvb := hx.2.2.1
      have hal := hx.2.1
      have HREC := Lib.hid hrec
      have HLK := Lib.hid hlk
      have hz := hbel.size
      clear hrec hx hx2 hlk HI
      go_wp2_with fail
      refine HREC.out.mono ?_
      rintro e w1 ⟨A3, c3, l3, rfl, hl3, hsim3, hown3, hok3, hb1⟩
      have hsz : (wr.alloc (.cells #[.int .i64 op, .int .i64 kind, .slice A2 args.length c2, .int .i64 vk, .int .u64 vb, .int .i64 pos, .int .i64 a] 27)).heap.size = wr.heap.size + 1 := by simp
      rw [hsz] at hown3 hok3 hb1
      have kx : Bk w1 wr.heap.size 27 #[.int .i64 op, .int .i64 kind, .slice A2 args.length c2, .int .i64 vk, .int .u64 vb, .int .i64 pos, .int .i64 a] := (Bk.new wr 27 #[.int .i64 op, .int .i64 kind, .slice A2 args.length c2, .int .i64 vk, .int .u64 vb, .int .i64 pos, .int .i64 a]).below hb1 (by omega)
      have hownX := hown.alloc (.cells #[.int .i64 op, .int .i64 kind, .slice A2 args.length c2, .int .i64 vk, .int .u64 vb, .int .i64 pos, .int .i64 a] 27)
      have hown1 : w1.ownsRow w.heap.size 27 7 (.slice Av k cv) k (l'.flatMap NodeV.cells) := own_below hownX hb1 (fun q hq => by have := (hown.lt q hq).2; omega)
      have hbel1 : Below w.heap.size w w1 := hbelX.trans (hb1.mono (by omega))
      have hz1 := kx.lt
      clear HREC hc0 hc1 hc2 hc3 hc4 hc5 hc6
      have x0 := kx.cell 0
      have x1 := kx.cell 1
      have x2 := kx.cell 2
      have x3 := kx.cell 3
      have x4 := kx.cell 4
      have x5 := kx.cell 5
      have x6 := kx.cell 6
      have f2 := kx.frozen 2
      have ky : Bk (w1.setCell ⟨wr.heap.size, 2, none⟩ (.slice A3 args.length c3)) wr.heap.size 27 #[.int .i64 op, .int .i64 kind, .slice A3 args.length c3, .int .i64 vk, .int .u64 vb, .int .i64 pos, .int .i64 a] := kx.put 2 _
      have y0 := ky.cell 0
      have y1 := ky.cell 1
      have y2 := ky.cell 2
      have y3 := ky.cell 3
      have y4 := ky.cell 4
      have y5 := ky.cell 5
      have y6 := ky.cell 6
      simp at x0 x1 x2 x3 x4 x5 x6 y0 y1 y2 y3 y4 y5 y6
      have hne : some wr.heap.size ≠ (Value.slice Av k cv).ownBlock := fun e => by have := (hown.lt _ e.symm).2; omega
      have hown2 : (w1.setCell ⟨wr.heap.size, 2, none⟩ (.slice A3 args.length c3)).ownsRow w.heap.size 27 7 (.slice Av k cv) k (l'.flatMap NodeV.cells) := ownsRow_setCell_other hown1 (fun e => hne e.symm) _
      have hbel2 : Below w.heap.size w (w1.setCell ⟨wr.heap.size, 2, none⟩ (.slice A3 args.length c3)) := hbel1.setCell hz _
      go_wp2_with (first
        | (refine wpList_bs_node (by rfl) (.tmp 20) (by rfl) (by rfl) ?_)
        | (at_builtin; refine wpList_append_rd rfl _ _ 22 rfl w.heap.size 27 iN _ 7 72 Try.underlying22 hN hN0 hN1 hN2 rfl (by decide) (.slice Av k cv) k _ rfl (hown2.alloc _) ((w1.setCell ⟨wr.heap.size, 2, none⟩ (.slice A3 args.length c3)).heap.size + 1) (some ⟨(w1.setCell ⟨wr.heap.size, 2, none⟩ (.slice A3 args.length c3)).heap.size, 0, none⟩) 1 1 (NodeV.mk op kind A3 c3 l3 vk vb pos a).cells rfl ?c1 rfl ?c2 ?c3 ?c4 ?c5 ?_))
      case c1 =>
        show Rd _ _ _ [Value.int .i64 op, .int .i64 kind, .slice A3 l3.length c3, .int .i64 vk, .int .u64 vb, .int .i64 pos, .int .i64 a]
        rw [hl3]
        exact Rd.lit rfl _ _
      case c2 => intro u hu; simp [NodeV.cells] at hu; rcases hu with rfl | rfl | rfl | rfl | rfl | rfl | rfl <;> rfl
      case c3 => unfold maxLen; omega
      case c4 => omega
      case c5 => simp; omega
      intro A9 c9 w9 hown9 hg hwhich
      have hs2 : ((w1.setCell ⟨wr.heap.size, 2, none⟩ (.slice A3 args.length c3)).alloc (.cells #[.int .i64 op, .int .i64 kind, .slice A3 args.length c3, .int .i64 vk, .int .u64 vb, .int .i64 pos, .int .i64 a] 27)).heap.size = w1.heap.size + 1 := by simp
      have hkeep : ∀ b : Nat, b < w1.heap.size → b ≠ wr.heap.size → some b ≠ (Value.slice Av k cv).ownBlock → b < w9.heap.size ∧ w9.heap[b]? = w1.heap[b]? := by
        intro b h1 h2 h3
        refine ⟨by have := hg.size; omega, ?_⟩
        rw [hg.block b (by omega) h3, Below.heap_alloc _ _ b (by simpa using h1), Below.heap_setCell w1 _ _ b h2]
      have hnew : ∀ b : Nat, b < w1.heap.size → some b ≠ (Value.slice Av k cv).ownBlock → some b ≠ (Value.slice A9 (k + 1) c9).ownBlock := by
        intro b h1 h2
        rcases hwhich with h | h
        · rw [h]; exact h2
        · rw [h]; intro he; injection he with he; omega
      have hhi : ∀ b : Nat, wr.heap.size + 1 ≤ b → some b ≠ (Value.slice Av k cv).ownBlock := fun b h1 e => by have := (hown.lt _ e.symm).2; omega
      have hyok : okS (fun b => w.heap.size ≤ b ∧ some b ≠ (Value.slice A9 (k + 1) c9).ownBlock) (d' + 1) (.mk op kind A3 c3 l3 vk vb pos a) w9 := by
        refine ⟨(own_rdS hown3).keep fun b h1 h2 => ?_, by omega, hvb, fun y hy => okS.keep (fun b h1 h2 => ?_) (hok3 y hy)⟩
        · obtain ⟨k1, k2⟩ := hkeep b h2 (by omega) (hhi b h1)
          exact ⟨⟨by omega, hnew b h2 (hhi b h1)⟩, k1, k2⟩
        · obtain ⟨k1, k2⟩ := hkeep b h2 (by omega) (hhi b h1.1)
          exact ⟨⟨by omega, hnew b h2 (hhi b h1.1)⟩, k1, k2⟩
      have hoks9 : ∀ y ∈ l' ++ [NodeV.mk op kind A3 c3 l3 vk vb pos a], okS (fun b => w.heap.size ≤ b ∧ some b ≠ (Value.slice A9 (k + 1) c9).ownBlock) (d' + 1) y w9 := by
        intro y hy
        rcases List.mem_append.1 hy with hy | hy
        · refine okS.keep (fun b h1 h2 => ?_) (hoks.out y hy)
          obtain ⟨k1, k2⟩ := hkeep b (by omega) (by omega) h1.2
          exact ⟨⟨h1.1, hnew b (by omega) h1.2⟩, k1, by rw [k2, hb1.block b (by omega), Below.heap_alloc _ _ b h2]⟩
        · simp only [List.mem_cons, List.not_mem_nil, or_false] at hy
          subst hy
          exact hyok
      have hsim9 : ∀ (i : Nat) (x y : NodeV), l[i]? = some x → (l' ++ [NodeV.mk op kind A3 c3 l3 vk vb pos a])[i]? = some y → simN (d' + 1) x y := by
        intro i x y hx hy
        by_cases hi : i < l'.length
        · rw [List.getElem?_append_left hi] at hy
          exact hsim.out i x y hx hy
        · rw [List.getElem?_append_right (by omega)] at hy
          by_cases hi0 : i - l'.length = 0
          · rw [hi0] at hy
            have hik : i = k := by omega
            rw [hik, HLK.out] at hx
            injection hx with hx
            simp only [List.getElem?_cons_zero, Option.some.injEq] at hy
            subst hx; subst hy
            exact ⟨rfl, rfl, rfl, rfl, rfl, rfl, hl3.symm, hsim3⟩
          · rw [List.getElem?_eq_none (by simp; omega)] at hy; cases hy
      have hbel9 : Below w.heap.size w w9 := below_own (hbel2.alloc (by simp; omega) _) (hown2.alloc _) (Nat.le_refl _) hg (by simp; omega)
      have hown10 : w9.ownsRow w.heap.size 27 7 (.slice A9 (k + 1) c9) (k + 1) ((l' ++ [NodeV.mk op kind A3 c3 l3 vk vb pos a]).flatMap NodeV.cells) := by
        rw [List.flatMap_append]
        simpa using hown9
      have HS := Lib.hid hsim9
      have HO := Lib.hid hoks9
      have hlen9 : (l' ++ [NodeV.mk op kind A3 c3 l3 vk vb pos a]).length = k + 1 := by simp; omega
      clear hsim9 hoks9 hyok hhi hnew hkeep hwhich hg hown9 hown2 hown1 hownX hown hok3 hsim3 hown3 x0 x1 x2 x3 x4 x5 x6 y0 y1 y2 y3 y4 y5 y6 f2 kx ky hbel2 hbel1 hb1 hsz hs2
      generalize (l' ++ [NodeV.mk op kind A3 c3 l3 vk vb pos a]) = l9 at *
      go_wp2
      go_roundw
      case rel => exact ⟨k + 1, A9, c9, l9, by omega, by go_num, rfl, hbel9, hlen9, HS, hown10, HO⟩
      case measure => simp [intOf]; omega
    · as_aux_lemma =>
      obtain rfl : k = l.length := by omega
      go_wp2_with fail
      go_ret
      exact ⟨Av, cv, l', rfl, hl', hsim.out, hown, hoks.out, hbel⟩
theorem twin_any : ∀ (d : Nat) (l : List NodeV) (A : Option Addr) (c : Nat) (w : World), (∀ x ∈ l, okN d x w w.heap.size) → Rd w w.heap.size A (l.flatMap NodeV.cells) → l.length ≤ 1048576 → Calls Try.prog 5 #[.slice A l.length c] w (TwinOk d l w)
  | 0 => twin_step 0 (fun d' h => by omega)
  | d + 1 => twin_step (d + 1) (fun d' h => by obtain rfl : d' = d := by omega
                                               exact twin_any d')
end Go.Proofs.Ytkfpmoilfillmaa
