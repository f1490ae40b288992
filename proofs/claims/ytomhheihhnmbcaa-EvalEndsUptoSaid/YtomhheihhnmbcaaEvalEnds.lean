/- EvalEnds holds of what is of bounded bulk. No conditions. -/
import Derived.Test.YtomhheihhnmbcaaEvRd
import Derived.Deep.DeepCutAuto
namespace Go.Proofs.Ytomhheihhnmbcaa.evalEnds
open Go.ChangeShapes Go.WideShapes Go.ChangeAt Go.RowKit
open Go.ChangeMaps (open_string shut_string)
set_option linter.unusedSimpArgs false
set_option linter.unusedVariables false


def thereL (n : Nat) : List Int := (List.range n).map fun i : Nat => (i : Int)
def backG (n k : Nat) : List Int := (List.range k).map fun i : Nat => (n : Int) - 1 - (i : Int)
def backL (n : Nat) : List Int := backG n n
def minL : List Int → Int
  | [] => 0
  | x :: l => l.foldl min x
def maxL : List Int → Int
  | [] => 0
  | x :: l => l.foldl max x
theorem foldMin : ∀ (l : List Int) (x : Int), (l.foldl min x = x ∨ l.foldl min x ∈ l) ∧ l.foldl min x ≤ x ∧ ∀ y ∈ l, l.foldl min x ≤ y
  | [], x => ⟨.inl rfl, Int.le_refl _, by simp⟩
  | z :: l, x => by
    obtain ⟨h1, h2, h3⟩ := foldMin l (min x z)
    rw [List.foldl_cons]
    have h4 : min x z = x ∨ min x z = z := by omega
    have h5 : min x z ≤ x ∧ min x z ≤ z := by omega
    refine ⟨?_, by omega, ?_⟩
    · rcases h1 with h1 | h1
      · rw [h1]
        rcases h4 with h | h
        · exact .inl h
        · exact .inr (by rw [h]; simp)
      · exact .inr (by simp [h1])
    · intro y hy
      rcases List.mem_cons.1 hy with rfl | hy
      · omega
      · exact h3 y hy
theorem foldMax : ∀ (l : List Int) (x : Int), (l.foldl max x = x ∨ l.foldl max x ∈ l) ∧ x ≤ l.foldl max x ∧ ∀ y ∈ l, y ≤ l.foldl max x
  | [], x => ⟨.inl rfl, Int.le_refl _, by simp⟩
  | z :: l, x => by
    obtain ⟨h1, h2, h3⟩ := foldMax l (max x z)
    rw [List.foldl_cons]
    have h4 : max x z = x ∨ max x z = z := by omega
    have h5 : x ≤ max x z ∧ z ≤ max x z := by omega
    refine ⟨?_, by omega, ?_⟩
    · rcases h1 with h1 | h1
      · rw [h1]
        rcases h4 with h | h
        · exact .inl h
        · exact .inr (by rw [h]; simp)
      · exact .inr (by simp [h1])
    · intro y hy
      rcases List.mem_cons.1 hy with rfl | hy
      · omega
      · exact h3 y hy
theorem min_spec {l : List Int} (h : l ≠ []) : minL l ∈ l ∧ ∀ y ∈ l, minL l ≤ y := by
  match l, h with
  | x :: l, _ =>
    obtain ⟨h1, h2, h3⟩ := foldMin l x
    refine ⟨?_, ?_⟩
    · show l.foldl min x ∈ x :: l
      rcases h1 with h1 | h1
      · rw [h1]; simp
      · simp [h1]
    · intro y hy
      rcases List.mem_cons.1 hy with rfl | hy
      · exact h2
      · exact h3 y hy
theorem max_spec {l : List Int} (h : l ≠ []) : maxL l ∈ l ∧ ∀ y ∈ l, y ≤ maxL l := by
  match l, h with
  | x :: l, _ =>
    obtain ⟨h1, h2, h3⟩ := foldMax l x
    refine ⟨?_, ?_⟩
    · show l.foldl max x ∈ x :: l
      rcases h1 with h1 | h1
      · rw [h1]; simp
      · simp [h1]
    · intro y hy
      rcases List.mem_cons.1 hy with rfl | hy
      · exact h2
      · exact h3 y hy
theorem min_rev {l : List Int} (h : l ≠ []) : minL l.reverse = minL l := by
  have h1 := min_spec h
  have h2 := min_spec (l := l.reverse) (by simpa using h)
  have a := h1.2 _ (List.mem_reverse.1 h2.1)
  have b := h2.2 _ (List.mem_reverse.2 h1.1)
  omega
theorem max_rev {l : List Int} (h : l ≠ []) : maxL l.reverse = maxL l := by
  have h1 := max_spec h
  have h2 := max_spec (l := l.reverse) (by simpa using h)
  have a := h1.2 _ (List.mem_reverse.1 h2.1)
  have b := h2.2 _ (List.mem_reverse.2 h1.1)
  omega
theorem pick_intV {a b : Int} (ha : I64 a) (hb : I64 b) (most : Bool) : pickV (intV a) (intV b) most = intV (if most = true then max a b else min a b) := by
  unfold pickV
  rw [if_neg (by simp [intV]), if_pos (show (intV a).k = 1 from rfl)]
  show (if decide (wrap64 (un b) < wrap64 (un a)) = most then intV a else intV b) = _
  rw [un_back ha, un_back hb]
  cases most
  · by_cases h : b < a
    · rw [if_neg (by simp [h]), if_neg (by simp)]; congr 1; omega
    · rw [if_pos (by simp [h]), if_neg (by simp)]; congr 1; omega
  · by_cases h : b < a
    · rw [if_pos (by simp [h]), if_pos rfl]; congr 1; omega
    · rw [if_neg (by simp [h]), if_pos rfl]; congr 1; omega
theorem fold_intV (most : Bool) : ∀ (l : List Int) (x : Int), I64 x → (∀ y ∈ l, I64 y) → (l.map intV).foldl (fun a b => pickV a b most) (intV x) = intV (if most = true then l.foldl max x else l.foldl min x)
  | [], x, _, _ => by cases most <;> rfl
  | z :: l, x, hx, hl => by
    rw [List.map_cons, List.foldl_cons, pick_intV hx (hl z (by simp)), fold_intV most l _ (by have := hl z (by simp); unfold I64 at *; cases most <;> simp <;> omega) (fun y hy => hl y (by simp [hy]))]
    cases most <;> rfl
theorem agg_min {l : List Int} (h : l ≠ []) (hi : ∀ y ∈ l, I64 y) : aggV 29 (l.map intV) = intV (minL l) := by
  match l, h with
  | x :: l, _ =>
    rw [List.map_cons, aggV_cons, if_neg (by decide), if_neg (by decide), if_pos (by decide), if_neg (by simp [intV])]
    have := fold_intV (decide ((29 : Int) = 30)) l x (hi x (by simp)) (fun y hy => hi y (by simp [hy]))
    rw [this]; rfl
theorem agg_max {l : List Int} (h : l ≠ []) (hi : ∀ y ∈ l, I64 y) : aggV 30 (l.map intV) = intV (maxL l) := by
  match l, h with
  | x :: l, _ =>
    rw [List.map_cons, aggV_cons, if_neg (by decide), if_neg (by decide), if_pos (by decide), if_neg (by simp [intV])]
    have := fold_intV (decide ((30 : Int) = 30)) l x (hi x (by simp)) (fun y hy => hi y (by simp [hy]))
    rw [this]; rfl
theorem there_map {l : List Int} {es : List EventV} {w : World} {B : Nat} (h : EvIs l es w B) : (thereL l.length).map (fun at_ => attrL es at_ 0) = l.map intV := by
  unfold thereL
  refine List.ext_getElem (by simp) fun i h1 h2 => ?_
  simp only [List.length_map, List.length_range] at h1 h2
  simp only [List.getElem_map, List.getElem_range]
  exact h.attr h1
theorem back_map {l : List Int} {es : List EventV} {w : World} {B : Nat} (h : EvIs l es w B) : (backL l.length).map (fun at_ => attrL es at_ 0) = l.reverse.map intV := by
  unfold backL backG
  refine List.ext_getElem (by simp) fun i h1 h2 => ?_
  simp only [List.length_map, List.length_range] at h1 h2
  simp only [List.getElem_map, List.getElem_range, List.getElem_reverse]
  have e : (l.length : Int) - 1 - (i : Int) = ((l.length - 1 - i : Nat) : Int) := by omega
  rw [e]
  exact h.attr (by omega)
def hitC (m M : Int) (l : List Int) : Nat := (l.filter fun y => decide (y = m) || decide (y = M)).length
theorem hit_snoc (m M y : Int) (l : List Int) : hitC m M (l ++ [y]) = hitC m M l + (if y = m ∨ y = M then 1 else 0) := by
  unfold hitC
  rw [List.filter_append, List.length_append]
  by_cases h : y = m ∨ y = M
  · rw [if_pos h]
    have : (decide (y = m) || decide (y = M)) = true := by simpa using h
    simp [this]
  · rw [if_neg h]
    have : (decide (y = m) || decide (y = M)) = false := by simpa using h
    simp [this]
theorem hit_le (m M : Int) (l : List Int) : hitC m M l ≤ l.length := List.length_filter_le _ _
theorem hit_pos {m M : Int} {l : List Int} (h : m ∈ l) : 0 < hitC m M l := List.length_pos_of_mem (List.mem_filter.2 ⟨h, by simp⟩)
theorem hit_all {m M : Int} {l : List Int} (h : ∀ y ∈ l, y = m) : hitC m M l = l.length := by
  unfold hitC
  rw [List.filter_eq_self.2 (fun y hy => by simp [h y hy])]
theorem infoI9 : (Try.prog.info? 3).map (fun i => (i.zero, i.size, i.bytes)) = some (some (.int .i64 0), 1, 8) := by kernel_rfl

def regE11 (A9 AT AB : Option Addr) (c9 cT cB : Nat) (l : List Int) (m M : Int) (w2 : World) (Bq : Nat) : List Spec := [.is (.agg #[.slice A9 l.length c9, .slice (some ⟨w2.heap.size, 0, none⟩) 2 2, .int .i64 0]),
  .is (.agg #[.int .i64 1, .int .u64 (un m)]),
  .is (.agg #[.slice A9 l.length c9, .slice (some ⟨w2.heap.size, 0, none⟩) 2 2, .int .i64 0]),
  .is (.agg #[.int .i64 1, .int .u64 (un M)]),
  .st (fun v w => ∃ g, v = .pointer (some ⟨g, 0, none⟩) ∧ Bq ≤ g ∧ Bk w g 31 #[.int .i64 0, .int .u64 0]) (fun _ _ _ hb ⟨g, h1, h0, h2⟩ => ⟨g, h1, h0, h2.old hb⟩),
  .st (fun v w => ∃ g, v = .pointer (some ⟨g, 0, none⟩) ∧ Bq ≤ g ∧ Bk w g 31 #[.int .i64 0, .int .u64 0]) (fun _ _ _ hb ⟨g, h1, h0, h2⟩ => ⟨g, h1, h0, h2.old hb⟩)]
def regE12 (A9 AT AB : Option Addr) (c9 cT cB : Nat) (l : List Int) (m M : Int) (w2 : World) (g7 g8 : Nat) : List Spec := [.is (.agg #[.int .i64 1, .int .u64 (un m)]),
  .is (.agg #[.slice A9 l.length c9, .slice (some ⟨w2.heap.size, 0, none⟩) 2 2, .int .i64 0]),
  .is (.agg #[.int .i64 1, .int .u64 (un m)]),
  .is (.bool false),
  .is (.bool false),
  .is (.agg #[.int .i64 1, .int .u64 (un M)]),
  .is (.agg #[.slice A9 l.length c9, .slice (some ⟨w2.heap.size, 0, none⟩) 2 2, .int .i64 0]),
  .is (.agg #[.int .i64 1, .int .u64 (un M)]),
  .is (.bool false),
  .is (.bool false),
  .is (.bool false),
  .is (.pointer (some ⟨g7, 0, none⟩)),
  .is (.int .i64 1),
  .is (.bool false),
  .is (.bool false),
  .is (.bool false),
  .is (.pointer (some ⟨g8, 0, none⟩)),
  .is (.int .i64 1),
  .is (.bool false),
  .is (.bool false)]

set_option maxRecDepth 100000 in
set_option maxHeartbeats 4000000 in
theorem walk (W0 : World) (A : Option Addr) (c : Nat) (l : List Int) (hl : l.length ≤ 1048576) (hr : Rd W0 W0.heap.size A (i64cells l)) (hq : ∀ n ∈ l, I64 n) :
    Calls Try.prog 4 #[.slice A l.length c] W0 fun e W' => e = .returned (.bool true) ∧ Below W0.heap.size W0 W' := by
  obtain ⟨iI, hI, hI0, hI1, hI2⟩ := info_parts infoI9
  have HR := Lib.hid hr
  have HQ := Lib.hid hq
  clear hr hq
  go_enter Try.func4, Try.ntmps4
  go_wp2_with fail
  refine (awake_any _).mono ?_
  rintro e w1 ⟨rfl, hb1⟩
  by_cases h0 : l.length = 0
  · as_aux_lemma =>
    have g0 : ((l.length : Int) == 0) = true := by rw [beq_iff_eq]; omega
    go_wp2_with fail
    refine (awake_any _).mono ?_
    rintro e w2 ⟨rfl, hb2⟩
    go_wp2_with fail
    go_ret
    exact ⟨rfl, hb1.trans (hb2.mono hb1.size)⟩
  have g0 : ((l.length : Int) == 0) = false := by rw [beq_eq_false_iff_ne]; omega
  by_cases h3 : 300 < l.length
  · as_aux_lemma =>
    go_wp2_with fail
    refine (awake_any _).mono ?_
    rintro e w2 ⟨rfl, hb2⟩
    go_wp2_with fail
    go_ret
    exact ⟨rfl, hb1.trans (hb2.mono hb1.size)⟩
  have hne : l ≠ [] := fun e => h0 (by rw [e]; rfl)
  have hz1 := hb1.size
  go_wp2_with fail
  go_loopw [3, 4, 27] (fun vs us i wr => ∃ (k : Nat) (AT AB : Option Addr) (cT cB : Nat), k ≤ l.length ∧ i = .int .i64 k ∧ vs = .slice AT k cT ∧ us = .slice AB k cB ∧ Below w1.heap.size w1 wr ∧
      wr.ownsRow w1.heap.size 3 1 vs k (icells (thereL k)) ∧ wr.ownsRow w1.heap.size 3 1 us k (icells (backG l.length k)) ∧ (vs.ownBlock = none ∨ vs.ownBlock ≠ us.ownBlock) ∧ (us.ownBlock = none ∨ us.ownBlock ≠ vs.ownBlock)) (fun _ _ i _ => l.length - (intOf i).toNat)
  case atStart => exact ⟨0, none, none, 0, 0, Nat.zero_le _, rfl, rfl, rfl, Below.refl _ _, World.ownsRow_nil _ _ _ _, World.ownsRow_nil _ _ _ _, .inl rfl, .inl rfl⟩
  case round =>
    obtain ⟨k, AT, AB, cT, cB, hk, rfl, rfl, rfl, hbel, hT, hB, hd1, hd2⟩ := hrel
    by_cases hlt : k < l.length
    · as_aux_lemma =>
      have hz := hbel.size
      have hws : IntKind.i64.wrap ((l.length : Int) - 1) = (l.length : Int) - 1 := by rw [IntKind.wrap_i64]; omega
      have hws2 : IntKind.i64.wrap ((l.length : Int) - 1 - (k : Int)) = (l.length : Int) - 1 - (k : Int) := by rw [IntKind.wrap_i64]; omega
      go_wp2_with (at_builtin; refine wpList_append_rd rfl _ _ 23 rfl w1.heap.size 3 iI _ 1 8 Try.underlying23 hI hI0 hI1 hI2 rfl (by decide) (.slice AT k cT) k _ rfl (hT.alloc _) (wr.heap.size + 1) (some ⟨wr.heap.size, 0, none⟩) 1 1 [.int .i64 k] rfl (Rd.lit rfl _ _) rfl ?c2 ?c3 ?c4 ?c5 ?_)
      case c2 => intro u hu; simp at hu; subst hu; rfl
      case c3 => unfold maxLen; omega
      case c4 => omega
      case c5 => simp; omega
      intro A2 c2 w2 hT2 hg hwh
      have hB1 := (hB.alloc (.cells #[.int .i64 k] 3)).kept hg hd2
      have hbel2 : Below w1.heap.size w1 w2 := below_own (hbel.alloc hz _) (hT.alloc _) (Nat.le_refl _) hg (by simp; omega)
      have hsz2 := hg.size
      simp at hwh hsz2
      have hd3 : (Value.slice A2 (k + 1) c2).ownBlock = none ∨ (Value.slice A2 (k + 1) c2).ownBlock ≠ (Value.slice AB k cB).ownBlock := by
        rcases hwh with h | h
        · rw [h]; exact hd1
        · right; rw [h]; intro e; have := (hB.lt _ e.symm).2; omega
      have hd4 : (Value.slice AB k cB).ownBlock = none ∨ (Value.slice AB k cB).ownBlock ≠ (Value.slice A2 (k + 1) c2).ownBlock := by
        rcases hd3 with h | h
        · cases hx : (Value.slice AB k cB).ownBlock with
          | none => exact .inl rfl
          | some q => right; rw [h]; simp
        · exact .inr (fun e => h e.symm)
      have hT3 : w2.ownsRow w1.heap.size 3 1 (.slice A2 (k + 1) c2) (k + 1) (icells (thereL (k + 1))) := by
        have e : icells (thereL (k + 1)) = icells (thereL k) ++ [.int .i64 k] := by unfold thereL icells; rw [List.range_succ]; simp
        rw [e]; exact hT2
      have hz2 := hbel2.size
      clear hT2 hg hwh hT hB hbel
      go_wp2_with (at_builtin; refine wpList_append_rd rfl _ _ 23 rfl w1.heap.size 3 iI _ 1 8 Try.underlying23 hI hI0 hI1 hI2 rfl (by decide) (.slice AB k cB) k _ rfl (hB1.alloc _) (w2.heap.size + 1) (some ⟨w2.heap.size, 0, none⟩) 1 1 [.int .i64 ((l.length : Int) - 1 - (k : Int))] rfl (Rd.lit rfl _ _) rfl ?d2 ?d3 ?d4 ?d5 ?_)
      case d2 => intro u hu; simp at hu; subst hu; rfl
      case d3 => unfold maxLen; omega
      case d4 => omega
      case d5 => simp; omega
      intro A3 c3 w3 hB2 hg hwh
      have hT4 := (hT3.alloc (.cells #[.int .i64 ((l.length : Int) - 1 - (k : Int))] 3)).kept hg hd3
      have hbel3 : Below w1.heap.size w1 w3 := below_own (hbel2.alloc hz2 _) (hB1.alloc _) (Nat.le_refl _) hg (by simp; omega)
      try simp at hwh
      have hd5 : (Value.slice A2 (k + 1) c2).ownBlock = none ∨ (Value.slice A2 (k + 1) c2).ownBlock ≠ (Value.slice A3 (k + 1) c3).ownBlock := by
        rcases hwh with h | h
        · rw [h]; exact hd3
        · right; rw [h]; intro e; have := (hT3.lt _ e).2; omega
      have hd6 : (Value.slice A3 (k + 1) c3).ownBlock = none ∨ (Value.slice A3 (k + 1) c3).ownBlock ≠ (Value.slice A2 (k + 1) c2).ownBlock := by
        rcases hd5 with h | h
        · cases hx : (Value.slice A3 (k + 1) c3).ownBlock with
          | none => exact .inl rfl
          | some q => right; rw [h]; simp
        · exact .inr (fun e => h e.symm)
      have hB3 : w3.ownsRow w1.heap.size 3 1 (.slice A3 (k + 1) c3) (k + 1) (icells (backG l.length (k + 1))) := by
        have e : icells (backG l.length (k + 1)) = icells (backG l.length k) ++ [.int .i64 ((l.length : Int) - 1 - (k : Int))] := by unfold backG icells; rw [List.range_succ]; simp
        rw [e]; exact hB2
      clear hg hwh hB2 hT3 hB1 hbel2
      go_wp2
      go_roundw
      case rel => exact ⟨k + 1, A2, A3, c2, c3, by omega, by go_num, rfl, rfl, hbel3, hT4, hB3, hd5, hd6⟩
      case measure => simp [intOf]; omega
    · as_aux_lemma =>
      obtain rfl : k = l.length := by omega
      clear hd1 hd2 hlt hk
      have hbel0 := hb1.trans (hbel.mono hb1.size)
      have hints := ints_any l A c wr ((HR.out.below hbel0).more hbel0.size) (by omega)
      have HIN := Lib.hid hints
      clear hints
      go_wp2_with fail
      refine HIN.out.mono ?_
      rintro e w2 ⟨A9, c9, es, rfl, hes, hE, hb2⟩
      clear HIN
      have hT := own_old hT hb2
      have hB9 := own_old hB hb2
      have hbel2 := hbel0.trans (hb2.mono hbel0.size)
      clear hb2 hbel0 hbel hB
      have hes := hes.keep fun g n h => (h.alloc (.cells #[.slice AT l.length cT, .slice AB l.length cB] 23)).alloc (.cells #[.slice A9 l.length c9, .slice (some ⟨w2.heap.size, 0, none⟩) 2 2, .int .i64 0] 28)
      have hE := (hE.alloc (.cells #[.slice AT l.length cT, .slice AB l.length cB] 23)).alloc (.cells #[.slice A9 l.length c9, .slice (some ⟨w2.heap.size, 0, none⟩) 2 2, .int .i64 0] 28)
      have hT := (hT.alloc (.cells #[.slice AT l.length cT, .slice AB l.length cB] 23)).alloc (.cells #[.slice A9 l.length c9, .slice (some ⟨w2.heap.size, 0, none⟩) 2 2, .int .i64 0] 28)
      have hB9 := (hB9.alloc (.cells #[.slice AT l.length cT, .slice AB l.length cB] 23)).alloc (.cells #[.slice A9 l.length c9, .slice (some ⟨w2.heap.size, 0, none⟩) 2 2, .int .i64 0] 28)
      have kb := (Bk.new w2 23 #[.slice AT l.length cT, .slice AB l.length cB]).alloc (.cells #[.slice A9 l.length c9, .slice (some ⟨w2.heap.size, 0, none⟩) 2 2, .int .i64 0] 28)
      have kl := Bk.newAt (w := w2.alloc (.cells #[.slice AT l.length cT, .slice AB l.length cB] 23)) (g := w2.heap.size + 1) (by simp) 28 #[.slice A9 l.length c9, .slice (some ⟨w2.heap.size, 0, none⟩) 2 2, .int .i64 0]
      have hbW : Below W0.heap.size W0 ((w2.alloc (.cells #[.slice AT l.length cT, .slice AB l.length cB] 23)).alloc (.cells #[.slice A9 l.length c9, .slice (some ⟨w2.heap.size, 0, none⟩) 2 2, .int .i64 0] 28)) := (hbel2.alloc hbel2.size _).alloc (by have := hbel2.size; simp; omega) _
      have lT : (thereL l.length).length = l.length := by simp [thereL]
      have lB : (backL l.length).length = l.length := by simp [backL, backG]
      have hok : LookV.ok ⟨A9, c9, es, some ⟨w2.heap.size, 0, none⟩, 2, [⟨AT, cT, thereL l.length⟩, ⟨AB, cB, backL l.length⟩], 0⟩ ((w2.alloc (.cells #[.slice AT l.length cT, .slice AB l.length cB] 23)).alloc (.cells #[.slice A9 l.length c9, .slice (some ⟨w2.heap.size, 0, none⟩) 2 2, .int .i64 0] 28)) (((w2.alloc (.cells #[.slice AT l.length cT, .slice AB l.length cB] 23)).alloc (.cells #[.slice A9 l.length c9, .slice (some ⟨w2.heap.size, 0, none⟩) 2 2, .int .i64 0] 28))).heap.size := ⟨own_rd hE, by show es.length ≤ _; rw [hes.len]; exact hl, hes.ok, by
        show Rd _ _ _ [Value.slice AT (thereL l.length).length cT, Value.slice AB (backL l.length).length cB]
        rw [lT, lB]; exact bk_rd kb, by show 2 ≤ _; omega, fun e he => by
        simp only [List.mem_cons, List.not_mem_nil, or_false] at he
        rcases he with rfl | rfl
        · exact ⟨own_rd hT, by show (thereL l.length).length ≤ _; rw [lT]; omega⟩
        · exact ⟨own_rd hB9, by show (backL l.length).length ≤ _; rw [lB]; omega⟩⟩
      have hkv : LookV.val ⟨A9, c9, es, some ⟨w2.heap.size, 0, none⟩, 2, [⟨AT, cT, thereL l.length⟩, ⟨AB, cB, backL l.length⟩], 0⟩ = .agg #[.slice A9 l.length c9, .slice (some ⟨w2.heap.size, 0, none⟩) 2 2, .int .i64 0] := by
        unfold LookV.val
        simp only [hes.len, List.length_cons, List.length_nil]
      have HDO : Hid (∀ (op pos a : Int) (w' : World), Below (((w2.alloc (.cells #[.slice AT l.length cT, .slice AB l.length cB] 23)).alloc (.cells #[.slice A9 l.length c9, .slice (some ⟨w2.heap.size, 0, none⟩) 2 2, .int .i64 0] 28))).heap.size ((w2.alloc (.cells #[.slice AT l.length cT, .slice AB l.length cB] 23)).alloc (.cells #[.slice A9 l.length c9, .slice (some ⟨w2.heap.size, 0, none⟩) 2 2, .int .i64 0] 28)) w' → Calls Try.prog 9 #[.int .i64 op, .int .i64 pos, .int .i64 a, .agg #[.slice A9 l.length c9, .slice (some ⟨w2.heap.size, 0, none⟩) 2 2, .int .i64 0]] w' fun e w4 => e = .returned (doV ⟨A9, c9, es, some ⟨w2.heap.size, 0, none⟩, 2, [⟨AT, cT, thereL l.length⟩, ⟨AB, cB, backL l.length⟩], 0⟩ op pos a).v ∧ Below w'.heap.size w' w4) := Lib.hid fun op pos a w' hw => by
        have := do_any ⟨A9, c9, es, some ⟨w2.heap.size, 0, none⟩, 2, [⟨AT, cT, thereL l.length⟩, ⟨AB, cB, backL l.length⟩], 0⟩ op pos a w' (hok.old hw)
        rwa [hkv] at this
      have hmin := min_spec hne
      have hmax := max_spec hne
      have h290 : doV ⟨A9, c9, es, some ⟨w2.heap.size, 0, none⟩, 2, [⟨AT, cT, thereL l.length⟩, ⟨AB, cB, backL l.length⟩], 0⟩ 29 0 0 = intV (minL l) := by
        show aggV 29 ((thereL l.length).map fun at_ => attrL es at_ 0) = _
        rw [there_map hes, agg_min hne HQ.out]
      have h300 : doV ⟨A9, c9, es, some ⟨w2.heap.size, 0, none⟩, 2, [⟨AT, cT, thereL l.length⟩, ⟨AB, cB, backL l.length⟩], 0⟩ 30 0 0 = intV (maxL l) := by
        show aggV 30 ((thereL l.length).map fun at_ => attrL es at_ 0) = _
        rw [there_map hes, agg_max hne HQ.out]
      have h291 : doV ⟨A9, c9, es, some ⟨w2.heap.size, 0, none⟩, 2, [⟨AT, cT, thereL l.length⟩, ⟨AB, cB, backL l.length⟩], 0⟩ 29 1 0 = intV (minL l) := by
        show aggV 29 ((backL l.length).map fun at_ => attrL es at_ 0) = _
        rw [back_map hes, agg_min (by simpa using hne) (fun y hy => HQ.out y (List.mem_reverse.1 hy)), min_rev hne]
      have h301 : doV ⟨A9, c9, es, some ⟨w2.heap.size, 0, none⟩, 2, [⟨AT, cT, thereL l.length⟩, ⟨AB, cB, backL l.length⟩], 0⟩ 30 1 0 = intV (maxL l) := by
        show aggV 30 ((backL l.length).map fun at_ => attrL es at_ 0) = _
        rw [back_map hes, agg_max (by simpa using hne) (fun y hy => HQ.out y (List.mem_reverse.1 hy)), max_rev hne]
      generalize minL l = m at *
      generalize maxL l = M at *
      have H290 := Lib.hid h290
      have H300 := Lib.hid h300
      have H291 := Lib.hid h291
      have H301 := Lib.hid h301
      have HMIN := Lib.hid hmin
      have HMAX := Lib.hid hmax
      have HW := Lib.hid (Below.refl (((w2.alloc (.cells #[.slice AT l.length cT, .slice AB l.length cB] 23)).alloc (.cells #[.slice A9 l.length c9, .slice (some ⟨w2.heap.size, 0, none⟩) 2 2, .int .i64 0] 28))).heap.size ((w2.alloc (.cells #[.slice AT l.length cT, .slice AB l.length cB] 23)).alloc (.cells #[.slice A9 l.length c9, .slice (some ⟨w2.heap.size, 0, none⟩) 2 2, .int .i64 0] 28)))
      have k0 := kl.cell 0
      have k1 := kl.cell 1
      have k2 := kl.cell 2
      clear h290 h300 h291 h301 hmin hmax hok hkv hes hE hT hB9 kb lT lB hbel2
      go_wp2_with fail
      refine wp_region_t 6 (fun k => k == 4 || k == 5) (by kernel_rfl) (fun qk => (regE11 A9 AT AB c9 cT cB l m M w2 ((w2.alloc (.cells #[.slice AT l.length cT, .slice AB l.length cB] 23)).alloc (.cells #[.slice A9 l.length c9, .slice (some ⟨w2.heap.size, 0, none⟩) 2 2, .int .i64 0] 28)).heap.size).getD qk .any) (by kernel_rfl) ?_ ?_
      · refine BOk.cons rfl [] [6] rfl rfl (by kernel_rfl) (by kernel_rfl) (fun qK qa wr hB qO qF hK => ?_) ?_
        · have e6 : qa.tmps[6]? = some (.pointer (some ⟨w2.heap.size + 1, 0, none⟩)) := qO.1.trans rfl
          clear qO qF
          have hk0 := (bcell hB _ _ (World.block_lt_of_cell? _ _ k0)).trans k0
          have hk1 := (bcell hB _ _ (World.block_lt_of_cell? _ _ k1)).trans k1
          have hk2 := (bcell hB _ _ (World.block_lt_of_cell? _ _ k2)).trans k2
          go_simp
          exact hK _ _ (Below.refl _ _) rfl
        refine BOk.cons rfl [0] [] rfl rfl (by kernel_rfl) (by kernel_rfl) (fun qK qa wr hB qO qF hK => ?_) ?_
        · obtain ⟨u49, e49, r0⟩ := qF.1
          have e49 : qa.tmps[49]? = some (.agg #[.slice A9 l.length c9, .slice (some ⟨w2.heap.size, 0, none⟩) 2 2, .int .i64 0]) := (show u49 = .agg #[.slice A9 l.length c9, .slice (some ⟨w2.heap.size, 0, none⟩) 2 2, .int .i64 0] from r0) ▸ e49
          clear r0
          clear qO qF
          go_simp
          go_at_call 9
          refine (HDO.out 29 0 0 _ (HW.out.trans (hB.mono HW.out.size))).mono ?_
          rintro e w3 ⟨rfl, hb3⟩
          rw [H290.out]
          exact hK _ _ hb3 rfl
        refine BOk.cons rfl [] [6] rfl rfl (by kernel_rfl) (by kernel_rfl) (fun qK qa wr hB qO qF hK => ?_) ?_
        · have e6 : qa.tmps[6]? = some (.pointer (some ⟨w2.heap.size + 1, 0, none⟩)) := qO.1.trans rfl
          clear qO qF
          have hk0 := (bcell hB _ _ (World.block_lt_of_cell? _ _ k0)).trans k0
          have hk1 := (bcell hB _ _ (World.block_lt_of_cell? _ _ k1)).trans k1
          have hk2 := (bcell hB _ _ (World.block_lt_of_cell? _ _ k2)).trans k2
          go_simp
          exact hK _ _ (Below.refl _ _) rfl
        refine BOk.cons rfl [2] [] rfl rfl (by kernel_rfl) (by kernel_rfl) (fun qK qa wr hB qO qF hK => ?_) ?_
        · obtain ⟨u51, e51, r2⟩ := qF.1
          have e51 : qa.tmps[51]? = some (.agg #[.slice A9 l.length c9, .slice (some ⟨w2.heap.size, 0, none⟩) 2 2, .int .i64 0]) := (show u51 = .agg #[.slice A9 l.length c9, .slice (some ⟨w2.heap.size, 0, none⟩) 2 2, .int .i64 0] from r2) ▸ e51
          clear r2
          clear qO qF
          go_simp
          go_at_call 9
          refine (HDO.out 30 0 0 _ (HW.out.trans (hB.mono HW.out.size))).mono ?_
          rintro e w3 ⟨rfl, hb3⟩
          rw [H300.out]
          exact hK _ _ hb3 rfl
        refine BOk.fresh rfl [] [] rfl rfl (by kernel_rfl) (by kernel_rfl) (fun qK qa wr hB qO qF hK => ?_) ?_
        · clear qO qF
          go_simp
          exact hK _ _ ((Below.refl _ _).alloc (Nat.le_refl _) _) ⟨_, rfl, hB.size, Bk.new _ _ _⟩ ⟨_, rfl, by simp, by simp⟩
        refine BOk.fresh rfl [] [] rfl rfl (by kernel_rfl) (by kernel_rfl) (fun qK qa wr hB qO qF hK => ?_) ?_
        · clear qO qF
          go_simp
          exact hK _ _ ((Below.refl _ _).alloc (Nat.le_refl _) _) ⟨_, rfl, hB.size, Bk.new _ _ _⟩ ⟨_, rfl, by simp, by simp⟩
        exact BOk.nil
      intro vals wr hl hB hR hS
      match vals, hl with
      | [z49, z50, z51, z52, z7, z8], _ =>
      have r1 : z50 = .agg #[.int .i64 1, .int .u64 (un m)] := hR 1 _ rfl
      subst r1
      have r3 : z52 = .agg #[.int .i64 1, .int .u64 (un M)] := hR 3 _ rfl
      subst r3
      obtain ⟨g7, r4, n7, k7⟩ := (show ∃ g, z7 = .pointer (some ⟨g, 0, none⟩) ∧ ((w2.alloc (.cells #[.slice AT l.length cT, .slice AB l.length cB] 23)).alloc (.cells #[.slice A9 l.length c9, .slice (some ⟨w2.heap.size, 0, none⟩) 2 2, .int .i64 0] 28)).heap.size ≤ g ∧ Bk wr g 31 #[.int .i64 0, .int .u64 0] from hR 4 _ rfl)
      subst r4
      obtain ⟨g8, r5, n8, k8⟩ := (show ∃ g, z8 = .pointer (some ⟨g, 0, none⟩) ∧ ((w2.alloc (.cells #[.slice AT l.length cT, .slice AB l.length cB] 23)).alloc (.cells #[.slice A9 l.length c9, .slice (some ⟨w2.heap.size, 0, none⟩) 2 2, .int .i64 0] 28)).heap.size ≤ g ∧ Bk wr g 31 #[.int .i64 0, .int .u64 0] from hR 5 _ rfl)
      subst r5
      have d7_8 : g7 ≠ g8 := fun e => hS 4 5 _ _ (by decide) rfl rfl rfl rfl (by rw [e])
      clear hS
      clear hR
      simp only [List.take_succ_cons, List.take_zero, List.drop_succ_cons, List.drop_zero, List.toList_toArray, List.cons_append, List.nil_append, putAll, Act.put, List.setIfInBounds_toArray, List.set_cons_zero, List.set_cons_succ]
      have hzW : (((w2.alloc (.cells #[.slice AT l.length cT, .slice AB l.length cB] 23)).alloc (.cells #[.slice A9 l.length c9, .slice (some ⟨w2.heap.size, 0, none⟩) 2 2, .int .i64 0] 28))).heap.size = w2.heap.size + 2 := by simp
      rw [hzW] at n7 n8
      have kl1 := kl.old hB
      have k7p := vput k7 (.int .i64 1) (.int .u64 (un m))
      have k8a := (k8.far (p := ⟨g7, 0, none⟩) (fun e => d7_8 e.symm) (.int .i64 1)).far (p := ⟨g7, 1, none⟩) (fun e => d7_8 e.symm) (.int .u64 (un m))
      have k8p := vput k8a (.int .i64 1) (.int .u64 (un M))
      have k7q := (k7p.far (p := ⟨g8, 0, none⟩) d7_8 (.int .i64 1)).far (p := ⟨g8, 1, none⟩) d7_8 (.int .u64 (un M))
      have klq := (((kl1.far (p := ⟨g7, 0, none⟩) (by show w2.heap.size + 1 ≠ g7; omega) (.int .i64 1)).far (p := ⟨g7, 1, none⟩) (by show w2.heap.size + 1 ≠ g7; omega) (.int .u64 (un m))).far (p := ⟨g8, 0, none⟩) (by show w2.heap.size + 1 ≠ g8; omega) (.int .i64 1)).far (p := ⟨g8, 1, none⟩) (by show w2.heap.size + 1 ≠ g8; omega) (.int .u64 (un M))
      have hWq := ((((hB.setCell (p := ⟨g7, 0, none⟩) (by rw [hzW]; exact n7) (.int .i64 1)).setCell (p := ⟨g7, 1, none⟩) (by rw [hzW]; exact n7) (.int .u64 (un m))).setCell (p := ⟨g8, 0, none⟩) (by rw [hzW]; exact n8) (.int .i64 1)).setCell (p := ⟨g8, 1, none⟩) (by rw [hzW]; exact n8) (.int .u64 (un M)))
      obtain ⟨e70, e71, f70, f71⟩ := vcells k7
      obtain ⟨e80, e81, f80, f81⟩ := vcells k8a
      clear k0 k1 k2 kl kl1 k7p hB HW k7 k8 k8a
      go_upto_region 12 with fail
      clear e70 e71 f70 f71 e80 e81 f80 f81
      generalize (((wr.setCell ⟨g7, 0, none⟩ (.int .i64 1)).setCell ⟨g7, 1, none⟩ (.int .u64 (un m))).setCell ⟨g8, 0, none⟩ (.int .i64 1)).setCell ⟨g8, 1, none⟩ (.int .u64 (un M)) = W5 at *
      have HW := Lib.hid hWq
      have k0 := klq.cell 0
      have k1 := klq.cell 1
      have k2 := klq.cell 2
      have x0 := k7q.cell 0
      have x1 := k7q.cell 1
      have y0 := k8p.cell 0
      have y1 := k8p.cell 1
      clear hWq
      refine wp_region_b (by kernel_rfl) (fun qk => (regE12 A9 AT AB c9 cT cB l m M w2 g7 g8).getD qk .any) (by kernel_rfl) ?_ ?_
      · refine BOk.cons rfl [] [7] rfl rfl (by kernel_rfl) (by kernel_rfl) (fun qK qa wr hB qO qF hK => ?_) ?_
        · have e7 : qa.tmps[7]? = some (.pointer (some ⟨g7, 0, none⟩)) := qO.1.trans rfl
          clear qO qF
          have hx0 := (bcell hB _ _ (World.block_lt_of_cell? _ _ x0)).trans x0
          have hx1 := (bcell hB _ _ (World.block_lt_of_cell? _ _ x1)).trans x1
          go_simp
          exact hK _ _ (Below.refl _ _) rfl
        refine BOk.cons rfl [] [6] rfl rfl (by kernel_rfl) (by kernel_rfl) (fun qK qa wr hB qO qF hK => ?_) ?_
        · have e6 : qa.tmps[6]? = some (.pointer (some ⟨w2.heap.size + 1, 0, none⟩)) := qO.1.trans rfl
          clear qO qF
          have hk0 := (bcell hB _ _ (World.block_lt_of_cell? _ _ k0)).trans k0
          have hk1 := (bcell hB _ _ (World.block_lt_of_cell? _ _ k1)).trans k1
          have hk2 := (bcell hB _ _ (World.block_lt_of_cell? _ _ k2)).trans k2
          go_simp
          exact hK _ _ (Below.refl _ _) rfl
        refine BOk.cons rfl [1] [] rfl rfl (by kernel_rfl) (by kernel_rfl) (fun qK qa wr hB qO qF hK => ?_) ?_
        · obtain ⟨u54, e54, r1⟩ := qF.1
          have e54 : qa.tmps[54]? = some (.agg #[.slice A9 l.length c9, .slice (some ⟨w2.heap.size, 0, none⟩) 2 2, .int .i64 0]) := (show u54 = .agg #[.slice A9 l.length c9, .slice (some ⟨w2.heap.size, 0, none⟩) 2 2, .int .i64 0] from r1) ▸ e54
          clear r1
          clear qO qF
          go_simp
          go_at_call 9
          refine (HDO.out 29 1 0 _ (HW.out.trans (hB.mono HW.out.size))).mono ?_
          rintro e w3 ⟨rfl, hb3⟩
          rw [H291.out]
          exact hK _ _ hb3 rfl
        refine BOk.cons rfl [0, 2] [] rfl rfl (by kernel_rfl) (by kernel_rfl) (fun qK qa wr hB qO qF hK => ?_) ?_
        · obtain ⟨u53, e53, r0⟩ := qF.1
          have e53 : qa.tmps[53]? = some (.agg #[.int .i64 1, .int .u64 (un m)]) := (show u53 = .agg #[.int .i64 1, .int .u64 (un m)] from r0) ▸ e53
          clear r0
          obtain ⟨u55, e55, r2⟩ := qF.2.1
          have e55 : qa.tmps[55]? = some (.agg #[.int .i64 1, .int .u64 (un m)]) := (show u55 = .agg #[.int .i64 1, .int .u64 (un m)] from r2) ▸ e55
          clear r2
          clear qO qF
          go_simp
          refine hK _ _ (Below.refl _ _) ?_
          show (_ : Value) = _
          first | rfl | (simp; done) | (simp; omega)
        refine BOk.cons rfl [3] [] rfl rfl (by kernel_rfl) (by kernel_rfl) (fun qK qa wr hB qO qF hK => ?_) ?_
        · obtain ⟨u56, e56, r3⟩ := qF.1
          have e56 : qa.tmps[56]? = some (.bool false) := (show u56 = .bool false from r3) ▸ e56
          clear r3
          clear qO qF
          go_simp
          exact hK _ _ (Below.refl _ _) rfl
        refine BOk.yes rfl [] [8] rfl 4 false rfl rfl rfl (by kernel_rfl) (by kernel_rfl) (by kernel_rfl) (fun qK qa wr hB qO qF hK => ?_) ?_
        · have e8 : qa.tmps[8]? = some (.pointer (some ⟨g8, 0, none⟩)) := qO.1.trans rfl
          clear qO qF
          have hy0 := (bcell hB _ _ (World.block_lt_of_cell? _ _ y0)).trans y0
          have hy1 := (bcell hB _ _ (World.block_lt_of_cell? _ _ y1)).trans y1
          go_simp
          exact hK _ _ (Below.refl _ _) rfl
        refine BOk.yes rfl [] [6] rfl 4 false rfl rfl rfl (by kernel_rfl) (by kernel_rfl) (by kernel_rfl) (fun qK qa wr hB qO qF hK => ?_) ?_
        · have e6 : qa.tmps[6]? = some (.pointer (some ⟨w2.heap.size + 1, 0, none⟩)) := qO.1.trans rfl
          clear qO qF
          have hk0 := (bcell hB _ _ (World.block_lt_of_cell? _ _ k0)).trans k0
          have hk1 := (bcell hB _ _ (World.block_lt_of_cell? _ _ k1)).trans k1
          have hk2 := (bcell hB _ _ (World.block_lt_of_cell? _ _ k2)).trans k2
          go_simp
          exact hK _ _ (Below.refl _ _) rfl
        refine BOk.yes rfl [6] [] rfl 4 false rfl rfl rfl (by kernel_rfl) (by kernel_rfl) (by kernel_rfl) (fun qK qa wr hB qO qF hK => ?_) ?_
        · obtain ⟨u59, e59, r6⟩ := qF.1
          have e59 : qa.tmps[59]? = some (.agg #[.slice A9 l.length c9, .slice (some ⟨w2.heap.size, 0, none⟩) 2 2, .int .i64 0]) := (show u59 = .agg #[.slice A9 l.length c9, .slice (some ⟨w2.heap.size, 0, none⟩) 2 2, .int .i64 0] from r6) ▸ e59
          clear r6
          clear qO qF
          go_simp
          go_at_call 9
          refine (HDO.out 30 1 0 _ (HW.out.trans (hB.mono HW.out.size))).mono ?_
          rintro e w3 ⟨rfl, hb3⟩
          rw [H301.out]
          exact hK _ _ hb3 rfl
        refine BOk.yes rfl [5, 7] [] rfl 4 false rfl rfl rfl (by kernel_rfl) (by kernel_rfl) (by kernel_rfl) (fun qK qa wr hB qO qF hK => ?_) ?_
        · obtain ⟨u58, e58, r5⟩ := qF.1
          have e58 : qa.tmps[58]? = some (.agg #[.int .i64 1, .int .u64 (un M)]) := (show u58 = .agg #[.int .i64 1, .int .u64 (un M)] from r5) ▸ e58
          clear r5
          obtain ⟨u60, e60, r7⟩ := qF.2.1
          have e60 : qa.tmps[60]? = some (.agg #[.int .i64 1, .int .u64 (un M)]) := (show u60 = .agg #[.int .i64 1, .int .u64 (un M)] from r7) ▸ e60
          clear r7
          clear qO qF
          go_simp
          refine hK _ _ (Below.refl _ _) ?_
          show (_ : Value) = _
          first | rfl | (simp; done) | (simp; omega)
        refine BOk.cons rfl [4, 8] [] rfl rfl (by kernel_rfl) (by kernel_rfl) (fun qK qa wr hB qO qF hK => ?_) ?_
        · obtain ⟨u57, e57, r4⟩ := qF.1
          have e57 : qa.tmps[57]? = some (.bool false) := (show u57 = .bool false from r4) ▸ e57
          clear r4
          obtain ⟨u61, e61, r8⟩ := qF.2.1
          have e61 : qa.tmps[61]? = some (.bool false) := (show u61 = .bool false from r8) ▸ e61
          clear r8
          clear qO qF
          go_simp
          refine hK _ _ (Below.refl _ _) ?_
          show (_ : Value) = _
          first | rfl | (simp; done) | (simp; omega)
        refine BOk.cons rfl [9] [] rfl rfl (by kernel_rfl) (by kernel_rfl) (fun qK qa wr hB qO qF hK => ?_) ?_
        · obtain ⟨u62, e62, r9⟩ := qF.1
          have e62 : qa.tmps[62]? = some (.bool false) := (show u62 = .bool false from r9) ▸ e62
          clear r9
          clear qO qF
          go_simp
          exact hK _ _ (Below.refl _ _) rfl
        refine BOk.yes rfl [] [7] rfl 10 false rfl rfl rfl (by kernel_rfl) (by kernel_rfl) (by kernel_rfl) (fun qK qa wr hB qO qF hK => ?_) ?_
        · have e7 : qa.tmps[7]? = some (.pointer (some ⟨g7, 0, none⟩)) := qO.1.trans rfl
          clear qO qF
          go_simp
          exact hK _ _ (Below.refl _ _) rfl
        refine BOk.yes rfl [11] [] rfl 10 false rfl rfl rfl (by kernel_rfl) (by kernel_rfl) (by kernel_rfl) (fun qK qa wr hB qO qF hK => ?_) ?_
        · obtain ⟨u64, e64, r11⟩ := qF.1
          have e64 : qa.tmps[64]? = some (.pointer (some ⟨g7, 0, none⟩)) := (show u64 = .pointer (some ⟨g7, 0, none⟩) from r11) ▸ e64
          clear r11
          clear qO qF
          have hx0 := (bcell hB _ _ (World.block_lt_of_cell? _ _ x0)).trans x0
          go_simp
          exact hK _ _ (Below.refl _ _) rfl
        refine BOk.yes rfl [12] [] rfl 10 false rfl rfl rfl (by kernel_rfl) (by kernel_rfl) (by kernel_rfl) (fun qK qa wr hB qO qF hK => ?_) ?_
        · obtain ⟨u65, e65, r12⟩ := qF.1
          have e65 : qa.tmps[65]? = some (.int .i64 1) := (show u65 = .int .i64 1 from r12) ▸ e65
          clear r12
          clear qO qF
          go_simp
          refine hK _ _ (Below.refl _ _) ?_
          show (_ : Value) = _
          first | rfl | (simp; done) | (simp; omega)
        refine BOk.cons rfl [10, 13] [] rfl rfl (by kernel_rfl) (by kernel_rfl) (fun qK qa wr hB qO qF hK => ?_) ?_
        · obtain ⟨u63, e63, r10⟩ := qF.1
          have e63 : qa.tmps[63]? = some (.bool false) := (show u63 = .bool false from r10) ▸ e63
          clear r10
          obtain ⟨u66, e66, r13⟩ := qF.2.1
          have e66 : qa.tmps[66]? = some (.bool false) := (show u66 = .bool false from r13) ▸ e66
          clear r13
          clear qO qF
          go_simp
          refine hK _ _ (Below.refl _ _) ?_
          show (_ : Value) = _
          first | rfl | (simp; done) | (simp; omega)
        refine BOk.cons rfl [14] [] rfl rfl (by kernel_rfl) (by kernel_rfl) (fun qK qa wr hB qO qF hK => ?_) ?_
        · obtain ⟨u67, e67, r14⟩ := qF.1
          have e67 : qa.tmps[67]? = some (.bool false) := (show u67 = .bool false from r14) ▸ e67
          clear r14
          clear qO qF
          go_simp
          exact hK _ _ (Below.refl _ _) rfl
        refine BOk.yes rfl [] [8] rfl 15 false rfl rfl rfl (by kernel_rfl) (by kernel_rfl) (by kernel_rfl) (fun qK qa wr hB qO qF hK => ?_) ?_
        · have e8 : qa.tmps[8]? = some (.pointer (some ⟨g8, 0, none⟩)) := qO.1.trans rfl
          clear qO qF
          go_simp
          exact hK _ _ (Below.refl _ _) rfl
        refine BOk.yes rfl [16] [] rfl 15 false rfl rfl rfl (by kernel_rfl) (by kernel_rfl) (by kernel_rfl) (fun qK qa wr hB qO qF hK => ?_) ?_
        · obtain ⟨u69, e69, r16⟩ := qF.1
          have e69 : qa.tmps[69]? = some (.pointer (some ⟨g8, 0, none⟩)) := (show u69 = .pointer (some ⟨g8, 0, none⟩) from r16) ▸ e69
          clear r16
          clear qO qF
          have hy0 := (bcell hB _ _ (World.block_lt_of_cell? _ _ y0)).trans y0
          go_simp
          exact hK _ _ (Below.refl _ _) rfl
        refine BOk.yes rfl [17] [] rfl 15 false rfl rfl rfl (by kernel_rfl) (by kernel_rfl) (by kernel_rfl) (fun qK qa wr hB qO qF hK => ?_) ?_
        · obtain ⟨u70, e70, r17⟩ := qF.1
          have e70 : qa.tmps[70]? = some (.int .i64 1) := (show u70 = .int .i64 1 from r17) ▸ e70
          clear r17
          clear qO qF
          go_simp
          refine hK _ _ (Below.refl _ _) ?_
          show (_ : Value) = _
          first | rfl | (simp; done) | (simp; omega)
        refine BOk.cons rfl [15, 18] [] rfl rfl (by kernel_rfl) (by kernel_rfl) (fun qK qa wr hB qO qF hK => ?_) ?_
        · obtain ⟨u68, e68, r15⟩ := qF.1
          have e68 : qa.tmps[68]? = some (.bool false) := (show u68 = .bool false from r15) ▸ e68
          clear r15
          obtain ⟨u71, e71, r18⟩ := qF.2.1
          have e71 : qa.tmps[71]? = some (.bool false) := (show u71 = .bool false from r18) ▸ e71
          clear r18
          clear qO qF
          go_simp
          refine hK _ _ (Below.refl _ _) ?_
          show (_ : Value) = _
          first | rfl | (simp; done) | (simp; omega)
        exact BOk.nil
      intro vals wr hl hB hR
      match vals, hl with
      | [y53, y54, y55, y56, y57, y58, y59, y60, y61, y62, y63, y64, y65, y66, y67, y68, y69, y70, y71, y72], _ =>
      have r19 : y72 = .bool false := hR 19 _ rfl
      subst r19
      clear hR
      simp only [List.cons_append, List.nil_append, putAll, Act.put, List.setIfInBounds_toArray, List.set_cons_zero, List.set_cons_succ]
      have hbF : Below W0.heap.size W0 wr := hbW.trans ((HW.out.trans (hB.mono HW.out.size)).mono hbW.size)
      have k7 := k7q.old hB
      have k8 := k8p.old hB
      clear hB HW HDO k0 k1 k2 x0 x1 y0 y1 klq k7q k8p H290 H300 H291 H301 hbW
      have x0 : wr.cell? ⟨g7, 0, none⟩ = some (.int .i64 1) := k7.cell 0
      have x1 : wr.cell? ⟨g7, 1, none⟩ = some (.int .u64 (un m)) := k7.cell 1
      have y0 : wr.cell? ⟨g8, 0, none⟩ = some (.int .i64 1) := k8.cell 0
      have y1 : wr.cell? ⟨g8, 1, none⟩ = some (.int .u64 (un M)) := k8.cell 1
      have hwm : IntKind.i64.wrap (un m : Int) = m := by have := HQ.out m HMIN.out.1; unfold I64 at this; rw [IntKind.wrap_i64]; unfold un; omega
      have hwM : IntKind.i64.wrap (un M : Int) = M := by have := HQ.out M HMAX.out.1; unfold I64 at this; rw [IntKind.wrap_i64]; unfold un; omega
      clear k7 k8 n7 n8 hzW
      generalize hWr : wr = W6 at *
      go_wp2_with fail
      go_loopw [9, 75] (fun sm i wz => ∃ k : Nat, k ≤ l.length ∧ i = .int .i64 k ∧ sm = .int .i64 (hitC m M (l.take k)) ∧ wz = W6) (fun _ i _ => l.length - (intOf i).toNat)
      case atStart => exact ⟨0, Nat.zero_le _, rfl, rfl, rfl⟩
      case round =>
        obtain ⟨k, hk, rfl, rfl, rfl⟩ := hrel
        by_cases hlt : k < l.length
        · as_aux_lemma =>
          obtain ⟨b, o, rfl, hb, hc⟩ := (HR.out.below hbF).elem1 (f := fun n : Int => Value.int .i64 n) hlt
          have hym := HMIN.out.2 l[k] (by simp)
          have hyM := HMAX.out.2 l[k] (by simp)
          have hst := hit_snoc m M l[k] (l.take k)
          rw [← List.take_succ_eq_append_getElem hlt] at hst
          have hle := hit_le m M (l.take k)
          rw [List.length_take] at hle
          generalize l[k] = y at *
          generalize hq1 : hitC m M (l.take (k + 1)) = q1 at *
          have HQ1 := Lib.hid hq1
          clear hq1
          generalize hitC m M (l.take k) = q0 at *
          have g1 : (y == m) = decide (y = m) := by by_cases h : y = m <;> simp [h]
          have g2 : (y == M) = decide (y = M) := by by_cases h : y = M <;> simp [h]
          by_cases hy : y = m
          · rw [if_pos (.inl hy)] at hst
            subst hy
            go_wp2_with fail
            go_roundw
            case rel => exact ⟨k + 1, by omega, by go_num, by rw [HQ1.out, hst]; go_num, by first | rfl | trivial⟩
            case measure => simp [intOf]; omega
          · by_cases hy2 : y = M
            · rw [if_pos (.inr hy2)] at hst
              subst hy2
              go_wp2_with fail
              go_roundw
              case rel => exact ⟨k + 1, by omega, by go_num, by rw [HQ1.out, hst]; go_num, by first | rfl | trivial⟩
              case measure => simp [intOf]; omega
            · rw [if_neg (by omega)] at hst
              go_wp2_with fail
              go_roundw
              case rel => exact ⟨k + 1, by omega, by go_num, by rw [HQ1.out, hst]; rfl, by first | rfl | trivial⟩
              case measure => simp [intOf]; omega
        · obtain rfl : k = l.length := by omega
          rw [List.take_length]
          have hpos := hit_pos (M := M) HMIN.out.1
          have hle := hit_le m M l
          have hlt0 : 0 < l.length := by omega
          obtain ⟨b, o, rfl, hb, hc⟩ := (HR.out.below hbF).elem1 (f := fun n : Int => Value.int .i64 n) hlt0
          have hf0 := HMIN.out.2 l[0] (by simp)
          have hf1 := HMAX.out.2 l[0] (by simp)
          have hall : m = M → hitC m M l = l.length ∧ l[0] = m := fun h => ⟨hit_all fun y hy => by have := HMIN.out.2 y hy; have := HMAX.out.2 y hy; omega, by omega⟩
          have heq : ∀ w : World, (binOp .eql 31 (.agg #[.int .i64 1, .int .u64 (un m)]) (.agg #[.int .i64 1, .int .u64 (un M)])).run Try.prog w = .ok (.bool (decide (m = M))) w := by
            intro w
            rw [eql_V]
            have : (((un m : Nat) : Int) == ((un M : Nat) : Int)) = decide (m = M) := by
              have h1 := HQ.out m HMIN.out.1
              have h2 := HQ.out M HMAX.out.1
              unfold I64 at h1 h2
              unfold un
              by_cases h : m = M
              · subst h; simp
              · simp only [h, decide_false]; rw [beq_eq_false_iff_ne]; omega
            rw [this]; simp
          generalize hitC m M l = cnt at *
          generalize l[0] = y at *
          have hgt : decide (0 < (cnt : Int)) = true := decide_eq_true (by omega)
          have hgt0 : 0 < (cnt : Int) := by omega
          have hgn : decide (0 < cnt) = true := decide_eq_true hpos
          have hgn0 : 0 < cnt := hpos
          have hc : wr.cell? ⟨b, o, none⟩ = some (.int .i64 y) := hc
          clear HMIN HMAX HQ HR hb hlt hk hpos
          by_cases hmM : m = M
          · as_aux_lemma =>
            obtain ⟨e1, e2⟩ := hall hmM
            subst hmM
            subst e2
            subst e1
            have e3 : decide (y = y) = true := decide_eq_true rfl
            rw [e3] at heq
            go_wp2_with fail
            go_quiet (fail)
            go_wp2_with fail
            go_ret
            exact ⟨rfl, below_drewN hbF _⟩
          rw [decide_eq_false hmM] at heq
          clear hall
          by_cases hcl : cnt = l.length
          · by_cases hym : y = m
            · as_aux_lemma =>
              subst hcl
              subst hym
              have g2 : (y == M) = false := by rw [beq_eq_false_iff_ne]; exact hmM
              go_wp2_with fail
              go_quiet (fail)
              go_wp2_with fail
              go_ret
              exact ⟨rfl, below_drewN hbF _⟩
            · as_aux_lemma =>
              subst hcl
              have g2 : (y == m) = false := by rw [beq_eq_false_iff_ne]; exact hym
              go_wp2_with fail
              go_quiet (fail)
              go_wp2_with fail
              go_ret
              exact ⟨rfl, below_drewN hbF _⟩
          · as_aux_lemma =>
            have g1 : ((cnt : Int) == (l.length : Int)) = false := by rw [beq_eq_false_iff_ne]; omega
            have g1n : (cnt == l.length) = false := by rw [beq_eq_false_iff_ne]; exact hcl
            have g1d : decide (cnt = l.length) = false := decide_eq_false hcl
            have g1e : decide ((cnt : Int) = (l.length : Int)) = false := decide_eq_false (by omega)
            go_wp2_with fail
            go_quiet (fail)
            go_wp2_with fail
            go_ret
            exact ⟨rfl, below_drewN hbF _⟩

theorem own : ownKnob Try.prog.godebug = none := by kernel_rfl
theorem laidOut : laidOutB Try.prog = true := by kernel_rfl
theorem rec0 : (Try.f4.params.toList.all fun t => Try.prog.readableRec t && decide (t < Try.prog.types.size)) = true := by kernel_rfl
set_option maxRecDepth 100000 in
theorem lifted (os : Os) (started : os.Started) (H : Type) (enc : TypeId × Value → H) (F : Stop.Interp) :
    ReturnsInHanded {} Try.checked os 4 .any ((Rows.OpenSpec.upto Rows.evalEndsSpec).pre6 enc Try.prog Try.f4 Rows.evalEndsUptoRow.domain false) (((Rows.OpenSpec.upto Rows.evalEndsSpec).at F).post enc Try.prog Try.f4 false true false false) := by
  refine law_stepB (C := Try.checked) (s := Rows.evalEndsSpec) (tb := 4) own started (by kernel_rfl) Try.func4
    (OpenSpec.witness (enc := enc) (C := Try.checked) (s := Rows.OpenSpec.upto Rows.evalEndsSpec) (k := Rows.uptoSmall) rfl false ⟨#[], #[.slice none 0 0], []⟩ 8 (by kernel_rfl) (by kernel_rfl) (by kernel_rfl)
      (x := ([.nil], [], [])) (by kernel_rfl) rfl (by kernel_rfl)) laidOut ?_ rfl Try.underlying4 rfl ?_ ?_
  · intro t ht
    have := List.all_eq_true.1 rec0 t ht
    simp only [Bool.and_eq_true, decide_eq_true_eq] at this
    exact this
  · intro ds hd
    match ds, hd with
    | [d0], _ => exact ⟨rfl, rfl, rfl⟩
  intro W base args ds p hval hA hsz hbk
  rw [Try.params4] at hA hval hsz
  obtain ⟨v0, vs0, d0, ds0, p0, q0, hargs, rfl, rfl, h0, r0⟩ := trodAll_cons hA
  obtain ⟨rfl, rfl, rfl⟩ := trodAll_nil r0
  obtain rfl : args = #[v0] := by cases args; simp_all
  obtain ⟨A0, c0, l0, rfl, hl0, hr0, hq0⟩ := openB_i64s (hval 0 36 v0 rfl rfl) h0 (weights_each (i := 0) hsz rfl rfl) (Nat.le_trans (bulk_part (by simp)) hbk)
  exact walk W A0 c0 l0 hl0 hr0 hq0

theorem evalEnds_holds : Rows.EvalEndsUptoSaid :=
  OpenClaim.holds_of_cond 4 Try.f4 rfl rfl rfl rfl rfl rfl rfl ⟨rfl, rfl, rfl, rfl, rfl⟩ rfl rfl rfl rfl rfl (by kernel_rfl) Try.func4 (by kernel_rfl)
    (of_decide_eq_true (by kernel_rfl)) (by unfold Func.isWrapper; first | (rw [if_pos (by decide +kernel)]; kernel_rfl) | (rw [if_neg (by decide +kernel)]; exact ⟨rfl, rfl⟩))
    (fun os started H enc _ F => lifted os started H enc F)
#print axioms evalEnds_holds
end Go.Proofs.Ytomhheihhnmbcaa.evalEnds
