/- Layer 12: the law's own tools. No conditions. -/
import Derived.Test.YtkfpmoilfillmaaFoH
import Derived.Test.YtkfpmoilfillmaaFoI
namespace Go.Proofs.Ytkfpmoilfillmaa
open Go.RowKit
set_option linter.unusedVariables false
set_option linter.unusedSimpArgs false

theorem rfold_okN (d : Nat) (n : NodeV) (w : World) (h : okN d n w w.heap.size) : Calls Try.prog 9 #[n.val] w fun e w' => ∃ r : NodeV, e = .returned r.val ∧ treeN d r = foldT d (treeN d n) ∧ okN d r w' w'.heap.size ∧ Below w.heap.size w w' := by
  refine (rfold_any d n w w.heap.size (Nat.le_refl _) (h.s (Nat.le_refl _))).mono ?_
  rintro e w' ⟨r, h1, h2, h3, h4⟩
  exact ⟨r, h1, h2, h3.n, h4⟩
theorem sim_of_tree {w w2 : World} {B B2 : Nat} : ∀ {d : Nat} {x y : NodeV}, okN d x w B → okN d y w2 B2 → treeN d x = treeN d y → simN d x y
  | 0, _, _, h, _, _ => h.elim
  | d + 1, .mk op kind A c args vk vb pos a, .mk op' kind' A' c' args' vk' vb' pos' a', h, h', ht => by
    have ht : T.mk op kind (args.map (treeN d)) vk vb pos a = T.mk op' kind' (args'.map (treeN d)) vk' vb' pos' a' := ht
    injection ht with h1 h2 h3 h4 h5 h6 h7
    have hlen : args.length = args'.length := by have := congrArg List.length h3; simpa using this
    refine ⟨h1, h2, h4, h5, h6, h7, hlen, fun i x y hx hy => sim_of_tree (h.2.2.2 x (List.mem_of_getElem? hx)) (h'.2.2.2 y (List.mem_of_getElem? hy)) ?_⟩
    have := congrArg (fun l => l[i]?) h3
    simp only [List.getElem?_map, hx, hy, Option.map_some] at this
    injection this
theorem tree_of_sim {w w2 : World} {B B2 : Nat} : ∀ {d : Nat} {x y : NodeV}, okN d x w B → okN d y w2 B2 → simN d x y → treeN d x = treeN d y
  | 0, _, _, h, _, _ => h.elim
  | d + 1, .mk op kind A c args vk vb pos a, .mk op' kind' A' c' args' vk' vb' pos' a', h, h', hs => by
    obtain ⟨h1, h2, h4, h5, h6, h7, hlen, hall⟩ := hs
    show T.mk op kind (args.map (treeN d)) vk vb pos a = T.mk op' kind' (args'.map (treeN d)) vk' vb' pos' a'
    have : args.map (treeN d) = args'.map (treeN d) := by
      refine List.ext_getElem? fun i => ?_
      simp only [List.getElem?_map]
      by_cases hi : i < args.length
      · have hx := List.getElem?_eq_getElem hi
        have hy := List.getElem?_eq_getElem (l := args') (i := i) (by omega)
        rw [hx, hy, Option.map_some, Option.map_some, tree_of_sim (h.2.2.2 _ (List.getElem_mem hi)) (h'.2.2.2 _ (List.getElem_mem (by omega))) (hall i _ _ hx hy)]
      · rw [List.getElem?_eq_none (by omega), List.getElem?_eq_none (by omega)]
    rw [h1, h2, this, h4, h5, h6, h7]

/-- A node, as a value, of this tree. -/
def NodeAt (d : Nat) (t : T) (v : Value) (w : World) : Prop := ∃ n : NodeV, v = n.val ∧ treeN d n = t ∧ okN d n w w.heap.size
theorem NodeAt.old {d : Nat} {t : T} {v : Value} {w w' : World} (hb : Below w.heap.size w w') : NodeAt d t v w → NodeAt d t v w' := fun ⟨n, h1, h2, h3⟩ => ⟨n, h1, h2, h3.old hb⟩
theorem NodeAt.up {d : Nat} {t : T} {v : Value} {w : World} : NodeAt d t v w → NodeAt (d + 1) t v w := fun ⟨n, h1, h2, h3⟩ => ⟨n, h1, (treeN_up h3).trans h2, h3.up⟩
theorem fold_at {d : Nat} {t : T} {v : Value} {w : World} (h : NodeAt d t v w) : Calls Try.prog 8 #[v] w fun e w' => ∃ v', e = .returned v' ∧ NodeAt d (foldT d t) v' w' ∧ Below w.heap.size w w' := by
  obtain ⟨n, rfl, rfl, h3⟩ := h
  refine (fold_okN d n w h3).mono ?_
  rintro e w' ⟨r, rfl, h1, h2, h4⟩
  exact ⟨r.val, rfl, ⟨r, rfl, h1, h2⟩, h4⟩
theorem rfold_at {d : Nat} {t : T} {v : Value} {w : World} (h : NodeAt d t v w) : Calls Try.prog 9 #[v] w fun e w' => ∃ v', e = .returned v' ∧ NodeAt d (foldT d t) v' w' ∧ Below w.heap.size w w' := by
  obtain ⟨n, rfl, rfl, h3⟩ := h
  refine (rfold_okN d n w h3).mono ?_
  rintro e w' ⟨r, rfl, h1, h2, h4⟩
  exact ⟨r.val, rfl, ⟨r, rfl, h1, h2⟩, h4⟩
theorem asks_at {d : Nat} {t : T} {v : Value} {w : World} {p : Bool} (h : NodeAt d t v w) (hp : asksT d t = p) : Calls Try.prog 13 #[v] w fun e w' => e = .returned (.bool p) ∧ Below w.heap.size w w' := by
  obtain ⟨n, rfl, rfl, h3⟩ := h
  subst hp
  rw [← asks_tree]
  exact asks_any d n w h3
theorem nodes_at {d : Nat} {t : T} {v : Value} {w : World} {p : Nat} (h : NodeAt d t v w) (hp : nodesT d t = p) (hp2 : p ≤ 1000000) : Calls Try.prog 15 #[v] w fun e w' => e = .returned (.int .i64 (p : Nat)) ∧ Below w.heap.size w w' := by
  obtain ⟨n, rfl, rfl, h3⟩ := h
  subst hp
  rw [← nodes_tree] at hp2 ⊢
  exact nodes_any d n w h3 hp2
theorem last_at {d : Nat} {t : T} {v : Value} {w : World} {p : Int} (h : NodeAt d t v w) (hq : quietT d t = true) (hp : lastT d t = p) : Calls Try.prog 14 #[v] w fun e w' => e = .returned (.int .i64 p) ∧ Below w.heap.size w w' := by
  obtain ⟨n, rfl, rfl, h3⟩ := h
  subst hp
  rw [← last_tree]
  exact last_any d n w h3 (by rw [quiet_tree]; exact hq)

set_option maxRecDepth 100000 in
set_option maxHeartbeats 4000000 in
theorem oneN_any (d : Nat) (op kind : Int) (A : Option Addr) (c : Nat) (args : List NodeV) (vk : Int) (vb : Nat) (pos a : Int) (op2 kind2 : Int) (A2 : Option Addr) (c2 : Nat) (args2 : List NodeV) (vk2 : Int) (vb2 : Nat) (pos2 a2 : Int) (w : World)
    (h1 : okN d (.mk op kind A c args vk vb pos a) w w.heap.size) (h2 : okN d (.mk op2 kind2 A2 c2 args2 vk2 vb2 pos2 a2) w w.heap.size) (hs : simN d (.mk op kind A c args vk vb pos a) (.mk op2 kind2 A2 c2 args2 vk2 vb2 pos2 a2)) :
    Calls Try.prog 7 #[.agg #[.int .i64 op, .int .i64 kind, .slice A args.length c, .int .i64 vk, .int .u64 vb, .int .i64 pos, .int .i64 a], .agg #[.int .i64 op2, .int .i64 kind2, .slice A2 args2.length c2, .int .i64 vk2, .int .u64 vb2, .int .i64 pos2, .int .i64 a2]] w fun e w' => e = .returned (.bool true) ∧ Below w.heap.size w w' := by
  have kx := (Bk.new w 27 #[.int .i64 op, .int .i64 kind, .slice A args.length c, .int .i64 vk, .int .u64 vb, .int .i64 pos, .int .i64 a]).alloc (.cells #[.int .i64 op2, .int .i64 kind2, .slice A2 args2.length c2, .int .i64 vk2, .int .u64 vb2, .int .i64 pos2, .int .i64 a2] 27)
  have ky := Bk.newAt (w := w.alloc (.cells #[.int .i64 op, .int .i64 kind, .slice A args.length c, .int .i64 vk, .int .u64 vb, .int .i64 pos, .int .i64 a] 27)) (g := w.heap.size + 1) (by simp) 27 #[.int .i64 op2, .int .i64 kind2, .slice A2 args2.length c2, .int .i64 vk2, .int .u64 vb2, .int .i64 pos2, .int .i64 a2]
  have hb2 := bel2 w (.cells #[.int .i64 op, .int .i64 kind, .slice A args.length c, .int .i64 vk, .int .u64 vb, .int .i64 pos, .int .i64 a] 27) (.cells #[.int .i64 op2, .int .i64 kind2, .slice A2 args2.length c2, .int .i64 vk2, .int .u64 vb2, .int .i64 pos2, .int .i64 a2] 27)
  have hx := Lib.hid kx.at7
  have k2 := (Bk.newAt (w := (w.alloc (.cells #[.int .i64 op, .int .i64 kind, .slice A args.length c, .int .i64 vk, .int .u64 vb, .int .i64 pos, .int .i64 a] 27)).alloc (.cells #[.int .i64 op2, .int .i64 kind2, .slice A2 args2.length c2, .int .i64 vk2, .int .u64 vb2, .int .i64 pos2, .int .i64 a2] 27)) (g := w.heap.size + 2) (by simp) 27 #[.int .i64 op, .int .i64 kind, .slice A args.length c, .int .i64 vk, .int .u64 vb, .int .i64 pos, .int .i64 a]).alloc (.cells #[.int .i64 op2, .int .i64 kind2, .slice A2 args2.length c2, .int .i64 vk2, .int .u64 vb2, .int .i64 pos2, .int .i64 a2] 27)
  have k3 := Bk.newAt (w := ((w.alloc (.cells #[.int .i64 op, .int .i64 kind, .slice A args.length c, .int .i64 vk, .int .u64 vb, .int .i64 pos, .int .i64 a] 27)).alloc (.cells #[.int .i64 op2, .int .i64 kind2, .slice A2 args2.length c2, .int .i64 vk2, .int .u64 vb2, .int .i64 pos2, .int .i64 a2] 27)).alloc (.cells #[.int .i64 op, .int .i64 kind, .slice A args.length c, .int .i64 vk, .int .u64 vb, .int .i64 pos, .int .i64 a] 27)) (g := w.heap.size + 3) (by simp) 27 #[.int .i64 op2, .int .i64 kind2, .slice A2 args2.length c2, .int .i64 vk2, .int .u64 vb2, .int .i64 pos2, .int .i64 a2]
  have hb4 : Below w.heap.size w ((((w.alloc (.cells #[.int .i64 op, .int .i64 kind, .slice A args.length c, .int .i64 vk, .int .u64 vb, .int .i64 pos, .int .i64 a] 27)).alloc (.cells #[.int .i64 op2, .int .i64 kind2, .slice A2 args2.length c2, .int .i64 vk2, .int .u64 vb2, .int .i64 pos2, .int .i64 a2] 27)).alloc (.cells #[.int .i64 op, .int .i64 kind, .slice A args.length c, .int .i64 vk, .int .u64 vb, .int .i64 pos, .int .i64 a] 27)).alloc (.cells #[.int .i64 op2, .int .i64 kind2, .slice A2 args2.length c2, .int .i64 vk2, .int .u64 vb2, .int .i64 pos2, .int .i64 a2] 27)) := (hb2.alloc (by simp; omega) _).alloc (by simp; omega) _
  have hy := Lib.hid (ky.alloc (.cells #[.int .i64 op, .int .i64 kind, .slice A args.length c, .int .i64 vk, .int .u64 vb, .int .i64 pos, .int .i64 a] 27)).at7
  have hsame := same_any d [.mk op kind A c args vk vb pos a] [.mk op2 kind2 A2 c2 args2 vk2 vb2 pos2 a2] (some ⟨w.heap.size + 2, 0, none⟩) (some ⟨w.heap.size + 3, 0, none⟩) 1 1 ((((w.alloc (.cells #[.int .i64 op, .int .i64 kind, .slice A args.length c, .int .i64 vk, .int .u64 vb, .int .i64 pos, .int .i64 a] 27)).alloc (.cells #[.int .i64 op2, .int .i64 kind2, .slice A2 args2.length c2, .int .i64 vk2, .int .u64 vb2, .int .i64 pos2, .int .i64 a2] 27)).alloc (.cells #[.int .i64 op, .int .i64 kind, .slice A args.length c, .int .i64 vk, .int .u64 vb, .int .i64 pos, .int .i64 a] 27)).alloc (.cells #[.int .i64 op2, .int .i64 kind2, .slice A2 args2.length c2, .int .i64 vk2, .int .u64 vb2, .int .i64 pos2, .int .i64 a2] 27))
    (by intro q hq; simp only [List.mem_cons, List.not_mem_nil, or_false] at hq; subst hq; exact h1.old hb4) (by intro q hq; simp only [List.mem_cons, List.not_mem_nil, or_false] at hq; subst hq; exact h2.old hb4)
    (Rd.bk k2 k2.lt) (Rd.bk k3 k3.lt) (by simp) rfl (by
      intro i x y hx hy
      match i, hx, hy with
      | 0, hx, hy =>
        injection hx with hx; injection hy with hy
        subst hx; subst hy
        exact hs
      | i + 1, hx, _ => simp at hx)
  have HS := Lib.hid hsame
  clear h1 h2 hs hsame kx ky k2 k3
  go_enter Try.func7, Try.ntmps7
  go_wp2_with (first | (refine wpList_load7 rfl _ rfl rfl hx.out ?_) | (refine wpList_load7 rfl _ rfl rfl hy.out ?_))
  refine HS.out.mono ?_
  rintro e w' ⟨rfl, hb⟩
  have hbe := hb4.trans (hb.mono (by simp; omega))
  clear HS hx hy hb
  go_wp2_with fail
  go_ret
  exact ⟨rfl, hbe⟩
theorem one_at {d : Nat} {t : T} {v v2 : Value} {w : World} (h : NodeAt d t v w) (h2 : NodeAt d t v2 w) : Calls Try.prog 7 #[v, v2] w fun e w' => e = .returned (.bool true) ∧ Below w.heap.size w w' := by
  obtain ⟨⟨op, kind, A, c, args, vk, vb, pos, a⟩, rfl, rfl, h3⟩ := h
  obtain ⟨⟨op2, kind2, A2, c2, args2, vk2, vb2, pos2, a2⟩, rfl, ht, h4⟩ := h2
  exact oneN_any d op kind A c args vk vb pos a op2 kind2 A2 c2 args2 vk2 vb2 pos2 a2 w h3 h4 (sim_of_tree h3 h4 ht.symm)

def numT (k : Nat) : T := .mk 40 1 [] 1 k 0 0
theorem leaf_at {op kind : Int} {vk : Int} {vb : Nat} {pos a : Int} (w : World) (h : vb < 18446744073709551616) : NodeAt 1 (.mk op kind [] vk vb pos a) (.agg #[.int .i64 op, .int .i64 kind, .slice none 0 0, .int .i64 vk, .int .u64 vb, .int .i64 pos, .int .i64 a]) w :=
  ⟨.mk op kind none 0 [] vk vb pos a, rfl, rfl, .inl rfl, Nat.zero_le _, h, fun _ hx => by cases hx⟩
set_option maxRecDepth 100000 in
set_option maxHeartbeats 1000000 in
theorem num1 (w : World) : Calls Try.prog 12 #[.int .i64 1] w fun e w' => e = .returned (.agg #[.int .i64 40, .int .i64 1, .slice none 0 0, .int .i64 1, .int .u64 1, .int .i64 0, .int .i64 0]) ∧ Below w.heap.size w w' := by 
  go_enter Try.func12, Try.ntmps12
  go_wp2
  exact bodyPost_ret (v := .agg #[.int .i64 40, .int .i64 1, .slice none 0 0, .int .i64 1, .int .u64 1, .int .i64 0, .int .i64 0]) (by simp [results, Try.results12, go_sem]) rfl ⟨rfl, by repeat (first | exact Below.refl _ _ | refine Below.alloc ?_ (by simp) _)⟩
set_option maxRecDepth 100000 in
set_option maxHeartbeats 1000000 in
theorem num2 (w : World) : Calls Try.prog 12 #[.int .i64 2] w fun e w' => e = .returned (.agg #[.int .i64 40, .int .i64 1, .slice none 0 0, .int .i64 1, .int .u64 2, .int .i64 0, .int .i64 0]) ∧ Below w.heap.size w w' := by 
  go_enter Try.func12, Try.ntmps12
  go_wp2
  exact bodyPost_ret (v := .agg #[.int .i64 40, .int .i64 1, .slice none 0 0, .int .i64 1, .int .u64 2, .int .i64 0, .int .i64 0]) (by simp [results, Try.results12, go_sem]) rfl ⟨rfl, by repeat (first | exact Below.refl _ _ | refine Below.alloc ?_ (by simp) _)⟩
set_option maxRecDepth 100000 in
set_option maxHeartbeats 1000000 in
theorem num3 (w : World) : Calls Try.prog 12 #[.int .i64 3] w fun e w' => e = .returned (.agg #[.int .i64 40, .int .i64 1, .slice none 0 0, .int .i64 1, .int .u64 3, .int .i64 0, .int .i64 0]) ∧ Below w.heap.size w w' := by 
  go_enter Try.func12, Try.ntmps12
  go_wp2
  exact bodyPost_ret (v := .agg #[.int .i64 40, .int .i64 1, .slice none 0 0, .int .i64 1, .int .u64 3, .int .i64 0, .int .i64 0]) (by simp [results, Try.results12, go_sem]) rfl ⟨rfl, by repeat (first | exact Below.refl _ _ | refine Below.alloc ?_ (by simp) _)⟩
end Go.Proofs.Ytkfpmoilfillmaa
