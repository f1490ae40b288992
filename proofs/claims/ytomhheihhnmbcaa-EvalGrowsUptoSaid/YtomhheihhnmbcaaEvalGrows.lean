/- EvalGrows holds of what is of bounded bulk. No conditions. -/
import Derived.Test.YtomhheihhnmbcaaEvRd
namespace Go.Proofs.Ytomhheihhnmbcaa.evalGrows
open Go.ChangeShapes Go.WideShapes Go.ChangeAt Go.RowKit
open Go.ChangeMaps (open_string shut_string)
set_option linter.unusedSimpArgs false
set_option linter.unusedVariables false

def regG7 (A1 : Option Addr) (c1 : Nat) (l1 : List EventV) (l : List Int) (x y : Int) (X F S T : V) (w1 w3 w5 : World) : List Spec := [.is (.int .i64 y),
  .is (.agg #[.slice A1 l1.length c1, .slice (some ⟨w3.heap.size, 0, none⟩) 1 1, .int .i64 x]),
  .is (.agg #[.int .i64 X.k, .int .u64 X.b]),
  .is (.agg #[.int .i64 X.k, .int .u64 X.b]),
  .is (.bool false),
  .is (.bool false),
  .is (.agg #[.slice A1 l1.length c1, .slice (some ⟨w3.heap.size, 0, none⟩) 1 1, .int .i64 x]),
  .is (.agg #[.int .i64 1, .int .u64 ((l.length + 1 : Nat) : Int)]),
  .is (.int .u64 ((l.length + 1 : Nat) : Int)),
  .is (.agg #[.slice A1 l1.length c1, .slice (some ⟨w1.heap.size, 0, none⟩) 1 1, .int .i64 0]),
  .is (.agg #[.int .i64 1, .int .u64 ((l.length : Nat) : Int)]),
  .is (.int .u64 ((l.length : Nat) : Int)),
  .is (.int .u64 ((l.length + 1 : Nat) : Int)),
  .is (.bool false),
  .is (.bool false)]
def regG10 (A1 : Option Addr) (c1 : Nat) (l1 : List EventV) (l : List Int) (x y : Int) (X F S T : V) (w1 w3 w5 : World) : List Spec := [.is (.int .i64 y),
  .is (.agg #[.slice A1 l1.length c1, .slice (some ⟨w3.heap.size, 0, none⟩) 1 1, .int .i64 x]),
  .is (.agg #[.int .i64 X.k, .int .u64 X.b]),
  .is (.agg #[.int .i64 X.k, .int .u64 X.b]),
  .is (.bool true),
  .is (.bool true),
  .is (.int .i64 y),
  .is (.agg #[.slice A1 l1.length c1, .slice (some ⟨w3.heap.size, 0, none⟩) 1 1, .int .i64 x]),
  .is (.agg #[.int .i64 X.k, .int .u64 X.b]),
  .is (.agg #[.int .i64 X.k, .int .u64 X.b]),
  .is (.bool true),
  .is (.bool true),
  .is (.bool true),
  .is (.int .i64 y),
  .is (.agg #[.slice A1 l1.length c1, .slice (some ⟨w1.heap.size, 0, none⟩) 1 1, .int .i64 0]),
  .is (.agg #[.int .i64 0, .int .u64 0]),
  .is (.int .i64 0),
  .is (.bool true),
  .is (.bool true),
  .is (.bool true)]
def regG11 (A1 : Option Addr) (c1 : Nat) (l1 : List EventV) (l : List Int) (x y : Int) (X F S T : V) (w1 w3 w5 : World) : List Spec := [.is (.int .i64 y),
  .is (.agg #[.slice A1 l1.length c1, .slice (some ⟨w3.heap.size, 0, none⟩) 1 1, .int .i64 x]),
  .is (.agg #[.int .i64 F.k, .int .u64 F.b]),
  .is (.int .i64 y),
  .is (.agg #[.slice A1 l1.length c1, .slice (some ⟨w1.heap.size, 0, none⟩) 1 1, .int .i64 0]),
  .is (.agg #[.int .i64 F.k, .int .u64 F.b]),
  .is (.bool true),
  .is (.bool true),
  .is (.int .i64 y),
  .is (.agg #[.slice A1 l1.length c1, .slice (some ⟨w3.heap.size, 0, none⟩) 1 1, .int .i64 x]),
  .is (.agg #[.int .i64 T.k, .int .u64 T.b]),
  .is (.int .i64 y),
  .is (.agg #[.slice A1 l1.length c1, .slice (some ⟨w1.heap.size, 0, none⟩) 1 1, .int .i64 0]),
  .is (.agg #[.int .i64 S.k, .int .u64 S.b]),
  .is (.agg #[.int .i64 X.k, .int .u64 X.b]),
  .st (fun v w => ∃ g, v = .slice (some ⟨g, 0, none⟩) 2 2 ∧ Bk w g 31 #[.int .i64 S.k, .int .u64 S.b, .int .i64 X.k, .int .u64 X.b]) (fun _ _ _ hb ⟨g, h1, h2⟩ => ⟨g, h1, h2.old hb⟩),
  .is (.agg #[.int .i64 T.k, .int .u64 T.b]),
  .is (.bool true),
  .is (.bool true),
  .is (.bool true)]

theorem infoI9 : (Try.prog.info? 3).map (fun i => (i.zero, i.size, i.bytes)) = some (some (.int .i64 0), 1, 8) := by kernel_rfl
theorem agg_last (L : List V) (X : V) : aggV 27 (L ++ [X]) = X := by
  cases L with
  | nil => rfl
  | cons a L => rw [List.cons_append, aggV_cons, if_pos rfl]; exact List.getLast_concat (l := a :: L)
theorem agg_first (a : V) (L : List V) : aggV 26 (a :: L) = a := by
  rw [aggV_cons, if_neg (by decide), if_neg (by decide), if_neg (by decide), if_neg (by decide)]
theorem agg_sum (a : V) (L : List V) : aggV 28 (a :: L) = sumV (a :: L) := by
  rw [aggV_cons, if_neg (by decide), if_pos rfl]
theorem do_agg (kk : LookV) (op pos a : Int) (h : 26 ≤ op ∧ op ≤ 31) : doV kk op pos a = aggV op ((hasL kk.bs pos).map fun at_ => attrL kk.es at_ a) := by
  rw [doV_eq, if_neg (by omega), if_neg (by omega), if_neg (by omega), if_pos (by omega)]
set_option maxRecDepth 100000 in
set_option maxHeartbeats 4000000 in
theorem walk (W0 : World) (A1 : Option Addr) (c1 : Nat) (l1 : List EventV) (hc1 : l1.length ≤ c1) (hl1 : l1.length ≤ 1048576) (hr1 : Rd W0 W0.heap.size A1 (l1.flatMap EventV.cells)) (hq1 : ∀ x ∈ l1, x.ok W0 W0.heap.size)
    (x0 : IntsV) (hl : x0.l.length ≤ x0.c ∧ x0.l.length ≤ 1048576) (hx0 : x0.ok W0 W0.heap.size) (x y : Int) :
    Calls Try.prog 3 #[.slice A1 l1.length c1, .slice x0.A x0.l.length x0.c, .agg #[.int .i64 x, .int .i64 y]] W0 fun e W' => e = .returned (.bool true) ∧ Below W0.heap.size W0 W' := by
  obtain ⟨A0, c0, l⟩ := x0
  have hl := hl.2
  simp only at hl
  obtain ⟨iI, hI, hI0, hI1, hI2⟩ := info_parts infoI9
  have HR1 := Lib.hid hr1
  have HQ1 := Lib.hid hq1
  have HX0 := Lib.hid hx0
  clear hr1 hq1 hx0
  go_enter Try.func3, Try.ntmps3
  go_wp2_with fail
  go_quiet (fail)
  go_wp2_with fail
  refine (awake_any _).mono ?_
  rintro e w1 ⟨rfl, hb1⟩
  have hbel : Below W0.heap.size W0 w1 := (below_drewN ((Below.refl _ _).alloc (Nat.le_refl _) (.cells #[.int .i64 x, .int .i64 y] 24)) nq).trans (hb1.mono (by simp))
  clear hb1
  have hz := hbel.size
  have hown0 := World.ownsRow_lit (base := w1.heap.size + 2) (e := 3) (size := 1) ((w1.alloc (.cells #[.slice A0 l.length c0] 23)).alloc (.cells #[.slice A1 l1.length c1, .slice (some ⟨w1.heap.size, 0, none⟩) 1 1, .int .i64 0] 28)) #[] 0 (by simp) (by unfold maxLen; omega) (by simp)
  have hown : (((w1.alloc (.cells #[.slice A0 l.length c0] 23)).alloc (.cells #[.slice A1 l1.length c1, .slice (some ⟨w1.heap.size, 0, none⟩) 1 1, .int .i64 0] 28)).alloc (.cells #[] 3)).ownsRow (w1.heap.size + 2) 3 1 (.slice (some ⟨w1.heap.size + 2, 0, none⟩) 0 0) 0 [] := by simpa using hown0
  clear hown0
  have hbB := bel3 w1 (.cells #[.slice A0 l.length c0] 23) (.cells #[.slice A1 l1.length c1, .slice (some ⟨w1.heap.size, 0, none⟩) 1 1, .int .i64 0] 28) (.cells #[] 3)
  have kb := ((Bk.new w1 23 #[.slice A0 l.length c0]).alloc (.cells #[.slice A1 l1.length c1, .slice (some ⟨w1.heap.size, 0, none⟩) 1 1, .int .i64 0] 28)).alloc (.cells #[] 3)
  have kl := (Bk.newAt (w := w1.alloc (.cells #[.slice A0 l.length c0] 23)) (g := w1.heap.size + 1) (by simp) 28 #[.slice A1 l1.length c1, .slice (some ⟨w1.heap.size, 0, none⟩) 1 1, .int .i64 0]).alloc (.cells #[] 3)
  go_wp2_with (at_builtin; refine wpList_append_rd (by rfl) _ _ 23 rfl (w1.heap.size + 2) 3 iI _ 1 8 Try.underlying23 hI hI0 hI1 hI2 rfl (by decide) (.slice (some ⟨w1.heap.size + 2, 0, none⟩) 0 0) 0 [] rfl hown W0.heap.size A0 l.length c0 (icells l) rfl (HX0.out.1.below (hbel.trans (hbB.mono hz))) (by simp [icells]) ?c2 ?c3 ?c4 ?c5 ?_)
  case c2 => intro u hu; simp [icells] at hu; obtain ⟨x, _, rfl⟩ := hu; rfl
  case c3 => unfold maxLen; omega
  case c4 => omega
  case c5 => simp
  intro A2 c2 w2 hown2 hg _
  have hb2 : Below w1.heap.size w1 w2 := below_own hbB hown (by omega) hg (by simp; omega)
  have kb := kb.grown hg (own_ne_bk hown kb (by decide))
  have kl := kl.grown hg (own_ne_bk hown kl (by decide))
  have hz2 := kl.lt
  clear hg hown
  go_wp2_with (at_builtin; refine wpList_append_rd (by rfl) _ _ 23 rfl (w1.heap.size + 2) 3 iI _ 1 8 Try.underlying23 hI hI0 hI1 hI2 rfl (by decide) (.slice A2 l.length c2) l.length _ rfl (by have := hown2.alloc (.cells #[.int .i64 x] 3); simpa using this) (w2.heap.size + 1) (some ⟨w2.heap.size, 0, none⟩) 1 1 [.int .i64 x] rfl (Rd.lit rfl _ _) rfl ?d2 ?d3 ?d4 ?d5 ?_)
  case d2 => intro u hu; simp at hu; subst hu; rfl
  case d3 => unfold maxLen; omega
  case d4 => omega
  case d5 => simp; omega
  intro A3 c3 w3 hown3 hg _
  have hown2 : w2.ownsRow (w1.heap.size + 2) 3 1 (.slice A2 l.length c2) l.length (icells l) := by simpa using hown2
  have hb3 : Below w1.heap.size w1 w3 := below_own (hb2.alloc hb2.size _) (hown2.alloc _) (by omega) hg (by simp; omega)
  have kb := (kb.alloc (.cells #[.int .i64 x] 3)).grown hg (own_ne_bk hown2 kb (by decide))
  have kl := (kl.alloc (.cells #[.int .i64 x] 3)).grown hg (own_ne_bk hown2 kl (by decide))
  have hown3 : w3.ownsRow (w1.heap.size + 2) 3 1 (.slice A3 (l.length + 1) c3) (l.length + 1) (icells (l ++ [x])) := by
    have e : icells (l ++ [x]) = icells l ++ [.int .i64 x] := by simp [icells]
    rw [e]; simpa using hown3
  clear hg hown2 hb2
  have kb := (kb.alloc (.cells #[.slice A3 (l.length + 1) c3] 23)).alloc (.cells #[.slice A1 l1.length c1, .slice (some ⟨w3.heap.size, 0, none⟩) 1 1, .int .i64 x] 28)
  have kl := (kl.alloc (.cells #[.slice A3 (l.length + 1) c3] 23)).alloc (.cells #[.slice A1 l1.length c1, .slice (some ⟨w3.heap.size, 0, none⟩) 1 1, .int .i64 x] 28)
  have kb2 := (Bk.new w3 23 #[.slice A3 (l.length + 1) c3]).alloc (.cells #[.slice A1 l1.length c1, .slice (some ⟨w3.heap.size, 0, none⟩) 1 1, .int .i64 x] 28)
  have kl2 := Bk.newAt (w := w3.alloc (.cells #[.slice A3 (l.length + 1) c3] 23)) (g := w3.heap.size + 1) (by simp) 28 #[.slice A1 l1.length c1, .slice (some ⟨w3.heap.size, 0, none⟩) 1 1, .int .i64 x]
  have hb4 : Below w1.heap.size w1 ((w3.alloc (.cells #[.slice A3 (l.length + 1) c3] 23)).alloc (.cells #[.slice A1 l1.length c1, .slice (some ⟨w3.heap.size, 0, none⟩) 1 1, .int .i64 x] 28)) := (hb3.alloc hb3.size _).alloc (by have := hb3.size; simp; omega) _
  have hbW : Below W0.heap.size W0 ((w3.alloc (.cells #[.slice A3 (l.length + 1) c3] 23)).alloc (.cells #[.slice A1 l1.length c1, .slice (some ⟨w3.heap.size, 0, none⟩) 1 1, .int .i64 x] 28)) := hbel.trans (hb4.mono hz)
  have hin1 : IntsV.ok ⟨A0, c0, l⟩ ((w3.alloc (.cells #[.slice A3 (l.length + 1) c3] 23)).alloc (.cells #[.slice A1 l1.length c1, .slice (some ⟨w3.heap.size, 0, none⟩) 1 1, .int .i64 x] 28)) (((w3.alloc (.cells #[.slice A3 (l.length + 1) c3] 23)).alloc (.cells #[.slice A1 l1.length c1, .slice (some ⟨w3.heap.size, 0, none⟩) 1 1, .int .i64 x] 28))).heap.size := (HX0.out.below hbW).more hbW.size
  have hin2 : IntsV.ok ⟨A3, c3, l ++ [x]⟩ ((w3.alloc (.cells #[.slice A3 (l.length + 1) c3] 23)).alloc (.cells #[.slice A1 l1.length c1, .slice (some ⟨w3.heap.size, 0, none⟩) 1 1, .int .i64 x] 28)) (((w3.alloc (.cells #[.slice A3 (l.length + 1) c3] 23)).alloc (.cells #[.slice A1 l1.length c1, .slice (some ⟨w3.heap.size, 0, none⟩) 1 1, .int .i64 x] 28))).heap.size := ⟨own_rd ((hown3.alloc _).alloc _), by show (l ++ [x]).length ≤ _; simp; omega⟩
  have hok1 : LookV.ok ⟨A1, c1, l1, some ⟨w1.heap.size, 0, none⟩, 1, [⟨A0, c0, l⟩], 0⟩ ((w3.alloc (.cells #[.slice A3 (l.length + 1) c3] 23)).alloc (.cells #[.slice A1 l1.length c1, .slice (some ⟨w3.heap.size, 0, none⟩) 1 1, .int .i64 x] 28)) (((w3.alloc (.cells #[.slice A3 (l.length + 1) c3] 23)).alloc (.cells #[.slice A1 l1.length c1, .slice (some ⟨w3.heap.size, 0, none⟩) 1 1, .int .i64 x] 28))).heap.size := ⟨(HR1.out.below hbW).more hbW.size, hl1, fun e he => ((HQ1.out e he).below hbW).more hbW.size, bk_rd kb, by show 1 ≤ _; omega, fun e he => by
    simp only [List.mem_cons, List.not_mem_nil, or_false] at he; subst he; exact hin1⟩
  have hkv2 : LookV.val ⟨A1, c1, l1, some ⟨w3.heap.size, 0, none⟩, 1, [⟨A3, c3, l ++ [x]⟩], x⟩ = .agg #[.slice A1 l1.length c1, .slice (some ⟨w3.heap.size, 0, none⟩) 1 1, .int .i64 x] := by
    unfold LookV.val
    simp only [List.length_cons, List.length_nil]
  have hok2 : LookV.ok ⟨A1, c1, l1, some ⟨w3.heap.size, 0, none⟩, 1, [⟨A3, c3, l ++ [x]⟩], x⟩ ((w3.alloc (.cells #[.slice A3 (l.length + 1) c3] 23)).alloc (.cells #[.slice A1 l1.length c1, .slice (some ⟨w3.heap.size, 0, none⟩) 1 1, .int .i64 x] 28)) (((w3.alloc (.cells #[.slice A3 (l.length + 1) c3] 23)).alloc (.cells #[.slice A1 l1.length c1, .slice (some ⟨w3.heap.size, 0, none⟩) 1 1, .int .i64 x] 28))).heap.size := ⟨(HR1.out.below hbW).more hbW.size, hl1, fun e he => ((HQ1.out e he).below hbW).more hbW.size, by
    have := bk_rd kb2
    have e : (l ++ [x]).length = l.length + 1 := by simp
    show Rd _ _ _ [Value.slice A3 (l ++ [x]).length c3]
    rw [e]; exact this, by show 1 ≤ _; omega, fun e he => by
    simp only [List.mem_cons, List.not_mem_nil, or_false] at he; subst he; exact hin2⟩
  have HDO1 : Hid (∀ (op pos a : Int) (w' : World), Below (((w3.alloc (.cells #[.slice A3 (l.length + 1) c3] 23)).alloc (.cells #[.slice A1 l1.length c1, .slice (some ⟨w3.heap.size, 0, none⟩) 1 1, .int .i64 x] 28))).heap.size ((w3.alloc (.cells #[.slice A3 (l.length + 1) c3] 23)).alloc (.cells #[.slice A1 l1.length c1, .slice (some ⟨w3.heap.size, 0, none⟩) 1 1, .int .i64 x] 28)) w' → Calls Try.prog 9 #[.int .i64 op, .int .i64 pos, .int .i64 a, .agg #[.slice A1 l1.length c1, .slice (some ⟨w1.heap.size, 0, none⟩) 1 1, .int .i64 0]] w' fun e w2 => e = .returned (doV ⟨A1, c1, l1, some ⟨w1.heap.size, 0, none⟩, 1, [⟨A0, c0, l⟩], 0⟩ op pos a).v ∧ Below w'.heap.size w' w2) := Lib.hid fun op pos a w' hw => do_any ⟨A1, c1, l1, some ⟨w1.heap.size, 0, none⟩, 1, [⟨A0, c0, l⟩], 0⟩ op pos a w' (hok1.old hw)
  have HDO2 : Hid (∀ (op pos a : Int) (w' : World), Below (((w3.alloc (.cells #[.slice A3 (l.length + 1) c3] 23)).alloc (.cells #[.slice A1 l1.length c1, .slice (some ⟨w3.heap.size, 0, none⟩) 1 1, .int .i64 x] 28))).heap.size ((w3.alloc (.cells #[.slice A3 (l.length + 1) c3] 23)).alloc (.cells #[.slice A1 l1.length c1, .slice (some ⟨w3.heap.size, 0, none⟩) 1 1, .int .i64 x] 28)) w' → Calls Try.prog 9 #[.int .i64 op, .int .i64 pos, .int .i64 a, .agg #[.slice A1 l1.length c1, .slice (some ⟨w3.heap.size, 0, none⟩) 1 1, .int .i64 x]] w' fun e w2 => e = .returned (doV ⟨A1, c1, l1, some ⟨w3.heap.size, 0, none⟩, 1, [⟨A3, c3, l ++ [x]⟩], x⟩ op pos a).v ∧ Below w'.heap.size w' w2) := Lib.hid fun op pos a w' hw => by
    have := do_any ⟨A1, c1, l1, some ⟨w3.heap.size, 0, none⟩, 1, [⟨A3, c3, l ++ [x]⟩], x⟩ op pos a w' (hok2.old hw)
    rwa [hkv2] at this
  have hXf : (attrL l1 x y).fits := attrL_fits HQ1.out x y
  have hSf : ∀ L : List Int, (sumV (L.map fun at_ => attrL l1 at_ y)).fits := fun L => by
    cases L with
    | nil => exact (by decide : (0 : Nat) < 18446744073709551616)
    | cons q L => exact foldAdd_fits _ _ (attrL_fits HQ1.out q y) (fun z hz => by obtain ⟨p, _, rfl⟩ := List.mem_map.1 hz; exact attrL_fits HQ1.out p y)
  have H41 : Hid (doV ⟨A1, c1, l1, some ⟨w3.heap.size, 0, none⟩, 1, [⟨A3, c3, l ++ [x]⟩], x⟩ 41 0 y = attrL l1 x y) := Lib.hid rfl
  have h27 : doV ⟨A1, c1, l1, some ⟨w3.heap.size, 0, none⟩, 1, [⟨A3, c3, l ++ [x]⟩], x⟩ 27 0 y = attrL l1 x y := by
    rw [do_agg _ _ _ _ (by omega)]
    show aggV 27 ((l ++ [x]).map fun at_ => attrL l1 at_ y) = _
    rw [List.map_append]; exact agg_last _ _
  have h252 : doV ⟨A1, c1, l1, some ⟨w3.heap.size, 0, none⟩, 1, [⟨A3, c3, l ++ [x]⟩], x⟩ 25 0 0 = ⟨1, l.length + 1⟩ := by
    show intV ((l ++ [x]).length : Nat) = _
    rw [List.length_append]; exact intV_nat (by simp; omega)
  have h251 : doV ⟨A1, c1, l1, some ⟨w1.heap.size, 0, none⟩, 1, [⟨A0, c0, l⟩], 0⟩ 25 0 0 = ⟨1, l.length⟩ := intV_nat (show l.length ≤ 1048577 by omega)
  have h262 : ∀ q L, l = q :: L → doV ⟨A1, c1, l1, some ⟨w3.heap.size, 0, none⟩, 1, [⟨A3, c3, l ++ [x]⟩], x⟩ 26 0 y = attrL l1 q y := by
    rintro q L rfl
    rw [do_agg _ _ _ _ (by omega)]
    exact agg_first _ _
  have h261 : ∀ q L, l = q :: L → doV ⟨A1, c1, l1, some ⟨w1.heap.size, 0, none⟩, 1, [⟨A0, c0, l⟩], 0⟩ 26 0 y = attrL l1 q y := by
    rintro q L rfl
    rw [do_agg _ _ _ _ (by omega)]
    exact agg_first _ _
  have h281 : ∀ q L, l = q :: L → doV ⟨A1, c1, l1, some ⟨w1.heap.size, 0, none⟩, 1, [⟨A0, c0, l⟩], 0⟩ 28 0 y = sumV (l.map fun at_ => attrL l1 at_ y) := by
    rintro q L rfl
    rw [do_agg _ _ _ _ (by omega)]
    exact agg_sum _ _
  have h282 : ∀ q L, l = q :: L → doV ⟨A1, c1, l1, some ⟨w3.heap.size, 0, none⟩, 1, [⟨A3, c3, l ++ [x]⟩], x⟩ 28 0 y = addV (sumV (l.map fun at_ => attrL l1 at_ y)) (attrL l1 x y) := by
    rintro q L rfl
    rw [do_agg _ _ _ _ (by omega)]
    have : ((q :: L ++ [x]).map fun at_ => attrL l1 at_ y) = (q :: L).map (fun at_ => attrL l1 at_ y) ++ [attrL l1 x y] := by rw [List.map_append]; rfl
    show aggV 28 ((q :: L ++ [x]).map fun at_ => attrL l1 at_ y) = _
    rw [this, ← sumV_snoc (by simp)]
    exact agg_sum _ _
  have h0 : l = [] → doV ⟨A1, c1, l1, some ⟨w3.heap.size, 0, none⟩, 1, [⟨A3, c3, l ++ [x]⟩], x⟩ 26 0 y = attrL l1 x y ∧ doV ⟨A1, c1, l1, some ⟨w3.heap.size, 0, none⟩, 1, [⟨A3, c3, l ++ [x]⟩], x⟩ 28 0 y = attrL l1 x y ∧ doV ⟨A1, c1, l1, some ⟨w1.heap.size, 0, none⟩, 1, [⟨A0, c0, l⟩], 0⟩ 26 0 y = none0 := by
    rintro rfl
    exact ⟨rfl, rfl, rfl⟩
  have H272 := Lib.hid h27
  have H252 := Lib.hid h252
  have H251 := Lib.hid h251
  have HSF := Lib.hid hSf
  have H262 := Lib.hid h262
  have H261 := Lib.hid h261
  have H281 := Lib.hid h281
  have H282 := Lib.hid h282
  have H0 := Lib.hid h0
  clear h27 h252 h251 hSf h262 h261 h281 h282 h0 hok1 hok2 hkv2 hin1 hin2 hown3 kb kb2 HR1 HX0 hb3 hb4
  generalize attrL l1 x y = X at *
  have b0 := kl2.cell 0
  have b1 := kl2.cell 1
  have b2 := kl2.cell 2
  simp at b0 b1 b2
  go_wp2_with fail
  refine (HDO2.out 41 0 y _ (Below.refl _ _)).mono ?_
  rintro e w5 ⟨rfl, hb5⟩
  rw [H41.out]
  simp only [V.v]
  clear b0 b1 b2
  have HW := Lib.hid (hb5.alloc hb5.size (.cells #[.int .i64 X.k, .int .u64 X.b] 31))
  have kl := (kl.old hb5).alloc (.cells #[.int .i64 X.k, .int .u64 X.b] 31)
  have kl2 := (kl2.old hb5).alloc (.cells #[.int .i64 X.k, .int .u64 X.b] 31)
  have kx := Bk.new w5 31 #[.int .i64 X.k, .int .u64 X.b]
  clear hb5
  have a0 := kl.cell 0
  have a1 := kl.cell 1
  have a2 := kl.cell 2
  have b0 := kl2.cell 0
  have b1 := kl2.cell 1
  have b2 := kl2.cell 2
  have x0 := kx.cell 0
  have x1 := kx.cell 1
  have hws : IntKind.u64.wrap ((l.length : Int) + 1) = (l.length : Int) + 1 := by rw [IntKind.wrap_u64]; omega
  go_wp2_with fail
  obtain ⟨F, hF⟩ : ∃ F : V, F = X := ⟨_, rfl⟩
  clear hF
  refine wp_region_b (by kernel_rfl) (fun qk => (regG7 A1 c1 l1 l x y X X X X w1 w3 w5).getD qk .any) (by kernel_rfl) ?_ ?_
  · refine BOk.cons rfl [] [8] rfl rfl (by kernel_rfl) (by kernel_rfl) (fun qK qa wr hB qO qF hK => ?_) ?_
    · have e8 : qa.tmps[8]? = some (.int .i64 y) := qO.1.trans rfl
      clear qO qF
      go_simp
      exact hK _ _ (Below.refl _ _) rfl
    refine BOk.cons rfl [] [10] rfl rfl (by kernel_rfl) (by kernel_rfl) (fun qK qa wr hB qO qF hK => ?_) ?_
    · have e10 : qa.tmps[10]? = some (.pointer (some ⟨w3.heap.size + 1, 0, none⟩)) := qO.1.trans rfl
      clear qO qF
      have hb0 := (bcell hB _ _ (World.block_lt_of_cell? _ _ b0)).trans b0
      have hb1 := (bcell hB _ _ (World.block_lt_of_cell? _ _ b1)).trans b1
      have hb2 := (bcell hB _ _ (World.block_lt_of_cell? _ _ b2)).trans b2
      go_simp
      exact hK _ _ (Below.refl _ _) rfl
    refine BOk.cons rfl [0, 1] [] rfl rfl (by kernel_rfl) (by kernel_rfl) (fun qK qa wr hB qO qF hK => ?_) ?_
    · obtain ⟨u35, e35, r0⟩ := qF.1
      have e35 : qa.tmps[35]? = some (.int .i64 y) := (show u35 = .int .i64 y from r0) ▸ e35
      clear r0
      obtain ⟨u36, e36, r1⟩ := qF.2.1
      have e36 : qa.tmps[36]? = some (.agg #[.slice A1 l1.length c1, .slice (some ⟨w3.heap.size, 0, none⟩) 1 1, .int .i64 x]) := (show u36 = .agg #[.slice A1 l1.length c1, .slice (some ⟨w3.heap.size, 0, none⟩) 1 1, .int .i64 x] from r1) ▸ e36
      clear r1
      clear qO qF
      go_simp
      go_at_call 9
      refine (HDO2.out 27 0 y _ (HW.out.trans (hB.mono HW.out.size))).mono ?_
      rintro e w2 ⟨rfl, hb2⟩
      rw [H272.out]
      exact hK _ _ hb2 rfl
    refine BOk.cons rfl [] [11] rfl rfl (by kernel_rfl) (by kernel_rfl) (fun qK qa wr hB qO qF hK => ?_) ?_
    · have e11 : qa.tmps[11]? = some (.pointer (some ⟨w5.heap.size, 0, none⟩)) := qO.1.trans rfl
      clear qO qF
      have hx0 := (bcell hB _ _ (World.block_lt_of_cell? _ _ x0)).trans x0
      have hx1 := (bcell hB _ _ (World.block_lt_of_cell? _ _ x1)).trans x1
      go_simp
      exact hK _ _ (Below.refl _ _) rfl
    refine BOk.cons rfl [2, 3] [] rfl rfl (by kernel_rfl) (by kernel_rfl) (fun qK qa wr hB qO qF hK => ?_) ?_
    · obtain ⟨u37, e37, r2⟩ := qF.1
      have e37 : qa.tmps[37]? = some (.agg #[.int .i64 X.k, .int .u64 X.b]) := (show u37 = .agg #[.int .i64 X.k, .int .u64 X.b] from r2) ▸ e37
      clear r2
      obtain ⟨u38, e38, r3⟩ := qF.2.1
      have e38 : qa.tmps[38]? = some (.agg #[.int .i64 X.k, .int .u64 X.b]) := (show u38 = .agg #[.int .i64 X.k, .int .u64 X.b] from r3) ▸ e38
      clear r3
      clear qO qF
      go_simp
      refine hK _ _ (Below.refl _ _) ?_
      show (_ : Value) = _
      first | rfl | (simp; done) | (simp; omega)
    refine BOk.cons rfl [4] [] rfl rfl (by kernel_rfl) (by kernel_rfl) (fun qK qa wr hB qO qF hK => ?_) ?_
    · obtain ⟨u39, e39, r4⟩ := qF.1
      have e39 : qa.tmps[39]? = some (.bool false) := (show u39 = .bool false from r4) ▸ e39
      clear r4
      clear qO qF
      go_simp
      exact hK _ _ (Below.refl _ _) rfl
    refine BOk.yes rfl [] [10] rfl 5 false rfl rfl rfl (by kernel_rfl) (by kernel_rfl) (by kernel_rfl) (fun qK qa wr hB qO qF hK => ?_) ?_
    · have e10 : qa.tmps[10]? = some (.pointer (some ⟨w3.heap.size + 1, 0, none⟩)) := qO.1.trans rfl
      clear qO qF
      have hb0 := (bcell hB _ _ (World.block_lt_of_cell? _ _ b0)).trans b0
      have hb1 := (bcell hB _ _ (World.block_lt_of_cell? _ _ b1)).trans b1
      have hb2 := (bcell hB _ _ (World.block_lt_of_cell? _ _ b2)).trans b2
      go_simp
      exact hK _ _ (Below.refl _ _) rfl
    refine BOk.yes rfl [6] [] rfl 5 false rfl rfl rfl (by kernel_rfl) (by kernel_rfl) (by kernel_rfl) (fun qK qa wr hB qO qF hK => ?_) ?_
    · obtain ⟨u41, e41, r6⟩ := qF.1
      have e41 : qa.tmps[41]? = some (.agg #[.slice A1 l1.length c1, .slice (some ⟨w3.heap.size, 0, none⟩) 1 1, .int .i64 x]) := (show u41 = .agg #[.slice A1 l1.length c1, .slice (some ⟨w3.heap.size, 0, none⟩) 1 1, .int .i64 x] from r6) ▸ e41
      clear r6
      clear qO qF
      go_simp
      go_at_call 9
      refine (HDO2.out 25 0 0 _ (HW.out.trans (hB.mono HW.out.size))).mono ?_
      rintro e w2 ⟨rfl, hb2⟩
      rw [H252.out]
      exact hK _ _ hb2 rfl
    refine BOk.yes rfl [7] [] rfl 5 false rfl rfl rfl (by kernel_rfl) (by kernel_rfl) (by kernel_rfl) (fun qK qa wr hB qO qF hK => ?_) ?_
    · obtain ⟨u42, e42, r7⟩ := qF.1
      have e42 : qa.tmps[42]? = some (.agg #[.int .i64 1, .int .u64 ((l.length + 1 : Nat) : Int)]) := (show u42 = .agg #[.int .i64 1, .int .u64 ((l.length + 1 : Nat) : Int)] from r7) ▸ e42
      clear r7
      clear qO qF
      go_simp
      exact hK _ _ (Below.refl _ _) rfl
    refine BOk.yes rfl [] [9] rfl 5 false rfl rfl rfl (by kernel_rfl) (by kernel_rfl) (by kernel_rfl) (fun qK qa wr hB qO qF hK => ?_) ?_
    · have e9 : qa.tmps[9]? = some (.pointer (some ⟨w1.heap.size + 1, 0, none⟩)) := qO.1.trans rfl
      clear qO qF
      have ha0 := (bcell hB _ _ (World.block_lt_of_cell? _ _ a0)).trans a0
      have ha1 := (bcell hB _ _ (World.block_lt_of_cell? _ _ a1)).trans a1
      have ha2 := (bcell hB _ _ (World.block_lt_of_cell? _ _ a2)).trans a2
      go_simp
      exact hK _ _ (Below.refl _ _) rfl
    refine BOk.yes rfl [9] [] rfl 5 false rfl rfl rfl (by kernel_rfl) (by kernel_rfl) (by kernel_rfl) (fun qK qa wr hB qO qF hK => ?_) ?_
    · obtain ⟨u44, e44, r9⟩ := qF.1
      have e44 : qa.tmps[44]? = some (.agg #[.slice A1 l1.length c1, .slice (some ⟨w1.heap.size, 0, none⟩) 1 1, .int .i64 0]) := (show u44 = .agg #[.slice A1 l1.length c1, .slice (some ⟨w1.heap.size, 0, none⟩) 1 1, .int .i64 0] from r9) ▸ e44
      clear r9
      clear qO qF
      go_simp
      go_at_call 9
      refine (HDO1.out 25 0 0 _ (HW.out.trans (hB.mono HW.out.size))).mono ?_
      rintro e w2 ⟨rfl, hb2⟩
      rw [H251.out]
      exact hK _ _ hb2 rfl
    refine BOk.yes rfl [10] [] rfl 5 false rfl rfl rfl (by kernel_rfl) (by kernel_rfl) (by kernel_rfl) (fun qK qa wr hB qO qF hK => ?_) ?_
    · obtain ⟨u45, e45, r10⟩ := qF.1
      have e45 : qa.tmps[45]? = some (.agg #[.int .i64 1, .int .u64 ((l.length : Nat) : Int)]) := (show u45 = .agg #[.int .i64 1, .int .u64 ((l.length : Nat) : Int)] from r10) ▸ e45
      clear r10
      clear qO qF
      go_simp
      exact hK _ _ (Below.refl _ _) rfl
    refine BOk.yes rfl [11] [] rfl 5 false rfl rfl rfl (by kernel_rfl) (by kernel_rfl) (by kernel_rfl) (fun qK qa wr hB qO qF hK => ?_) ?_
    · obtain ⟨u46, e46, r11⟩ := qF.1
      have e46 : qa.tmps[46]? = some (.int .u64 ((l.length : Nat) : Int)) := (show u46 = .int .u64 ((l.length : Nat) : Int) from r11) ▸ e46
      clear r11
      clear qO qF
      go_simp
      refine hK _ _ (Below.refl _ _) ?_
      show (_ : Value) = _
      first | rfl | (simp [hws]; done)
    refine BOk.yes rfl [8, 12] [] rfl 5 false rfl rfl rfl (by kernel_rfl) (by kernel_rfl) (by kernel_rfl) (fun qK qa wr hB qO qF hK => ?_) ?_
    · obtain ⟨u43, e43, r8⟩ := qF.1
      have e43 : qa.tmps[43]? = some (.int .u64 ((l.length + 1 : Nat) : Int)) := (show u43 = .int .u64 ((l.length + 1 : Nat) : Int) from r8) ▸ e43
      clear r8
      obtain ⟨u47, e47, r12⟩ := qF.2.1
      have e47 : qa.tmps[47]? = some (.int .u64 ((l.length + 1 : Nat) : Int)) := (show u47 = .int .u64 ((l.length + 1 : Nat) : Int) from r12) ▸ e47
      clear r12
      clear qO qF
      go_simp
      refine hK _ _ (Below.refl _ _) ?_
      show (_ : Value) = _
      first | rfl | (simp; done) | (simp; omega)
    refine BOk.cons rfl [5, 13] [] rfl rfl (by kernel_rfl) (by kernel_rfl) (fun qK qa wr hB qO qF hK => ?_) ?_
    · obtain ⟨u40, e40, r5⟩ := qF.1
      have e40 : qa.tmps[40]? = some (.bool false) := (show u40 = .bool false from r5) ▸ e40
      clear r5
      obtain ⟨u48, e48, r13⟩ := qF.2.1
      have e48 : qa.tmps[48]? = some (.bool false) := (show u48 = .bool false from r13) ▸ e48
      clear r13
      clear qO qF
      go_simp
      refine hK _ _ (Below.refl _ _) ?_
      show (_ : Value) = _
      first | rfl | (simp; done) | (simp; omega)
    exact BOk.nil
  intro vals wr hl hB hR
  match vals, hl with
  | [z35, z36, z37, z38, z39, z40, z41, z42, z43, z44, z45, z46, z47, z48, z49], _ =>
  have r14 : z49 = .bool false := hR 14 _ rfl
  subst r14
  clear hR
  simp only [List.cons_append, List.nil_append, putAll, Act.put, List.setIfInBounds_toArray, List.set_cons_zero, List.set_cons_succ]
  have HW := Lib.hid (HW.out.trans (hB.mono HW.out.size))
  have kl := kl.old hB
  have kl2 := kl2.old hB
  have kx := kx.old hB
  clear hB a0 a1 a2 b0 b1 b2 x0 x1
  have a0 := kl.cell 0
  have a1 := kl.cell 1
  have a2 := kl.cell 2
  have b0 := kl2.cell 0
  have b1 := kl2.cell 1
  have b2 := kl2.cell 2
  have x0 := kx.cell 0
  have x1 := kx.cell 1
  rcases l with _ | ⟨q, L⟩
  · as_aux_lemma =>
    obtain ⟨h262, h282, h261⟩ := H0.out rfl
    have H262 := Lib.hid h262
    have H282 := Lib.hid h282
    have H261 := Lib.hid h261
    clear h262 h282 h261 H0
    go_wp2_with fail
    refine wp_region_b (by kernel_rfl) (fun qk => (regG10 A1 c1 l1 [] x y X X X X w1 w3 w5).getD qk .any) (by kernel_rfl) ?_ ?_
    · refine BOk.cons rfl [] [8] rfl rfl (by kernel_rfl) (by kernel_rfl) (fun qK qa wr hB qO qF hK => ?_) ?_
      · have e8 : qa.tmps[8]? = some (.int .i64 y) := qO.1.trans rfl
        clear qO qF
        go_simp
        exact hK _ _ (Below.refl _ _) rfl
      refine BOk.cons rfl [] [10] rfl rfl (by kernel_rfl) (by kernel_rfl) (fun qK qa wr hB qO qF hK => ?_) ?_
      · have e10 : qa.tmps[10]? = some (.pointer (some ⟨w3.heap.size + 1, 0, none⟩)) := qO.1.trans rfl
        clear qO qF
        have hb0 := (bcell hB _ _ (World.block_lt_of_cell? _ _ b0)).trans b0
        have hb1 := (bcell hB _ _ (World.block_lt_of_cell? _ _ b1)).trans b1
        have hb2 := (bcell hB _ _ (World.block_lt_of_cell? _ _ b2)).trans b2
        go_simp
        exact hK _ _ (Below.refl _ _) rfl
      refine BOk.cons rfl [0, 1] [] rfl rfl (by kernel_rfl) (by kernel_rfl) (fun qK qa wr hB qO qF hK => ?_) ?_
      · obtain ⟨u53, e53, r0⟩ := qF.1
        have e53 : qa.tmps[53]? = some (.int .i64 y) := (show u53 = .int .i64 y from r0) ▸ e53
        clear r0
        obtain ⟨u54, e54, r1⟩ := qF.2.1
        have e54 : qa.tmps[54]? = some (.agg #[.slice A1 l1.length c1, .slice (some ⟨w3.heap.size, 0, none⟩) 1 1, .int .i64 x]) := (show u54 = .agg #[.slice A1 l1.length c1, .slice (some ⟨w3.heap.size, 0, none⟩) 1 1, .int .i64 x] from r1) ▸ e54
        clear r1
        clear qO qF
        go_simp
        go_at_call 9
        refine (HDO2.out 26 0 y _ (HW.out.trans (hB.mono HW.out.size))).mono ?_
        rintro e w2 ⟨rfl, hb2⟩
        rw [H262.out]
        exact hK _ _ hb2 rfl
      refine BOk.cons rfl [] [11] rfl rfl (by kernel_rfl) (by kernel_rfl) (fun qK qa wr hB qO qF hK => ?_) ?_
      · have e11 : qa.tmps[11]? = some (.pointer (some ⟨w5.heap.size, 0, none⟩)) := qO.1.trans rfl
        clear qO qF
        have hx0 := (bcell hB _ _ (World.block_lt_of_cell? _ _ x0)).trans x0
        have hx1 := (bcell hB _ _ (World.block_lt_of_cell? _ _ x1)).trans x1
        go_simp
        exact hK _ _ (Below.refl _ _) rfl
      refine BOk.cons rfl [2, 3] [] rfl rfl (by kernel_rfl) (by kernel_rfl) (fun qK qa wr hB qO qF hK => ?_) ?_
      · obtain ⟨u55, e55, r2⟩ := qF.1
        have e55 : qa.tmps[55]? = some (.agg #[.int .i64 X.k, .int .u64 X.b]) := (show u55 = .agg #[.int .i64 X.k, .int .u64 X.b] from r2) ▸ e55
        clear r2
        obtain ⟨u56, e56, r3⟩ := qF.2.1
        have e56 : qa.tmps[56]? = some (.agg #[.int .i64 X.k, .int .u64 X.b]) := (show u56 = .agg #[.int .i64 X.k, .int .u64 X.b] from r3) ▸ e56
        clear r3
        clear qO qF
        go_simp
        refine hK _ _ (Below.refl _ _) ?_
        show (_ : Value) = _
        first | rfl | (simp; done) | (simp; omega)
      refine BOk.cons rfl [4] [] rfl rfl (by kernel_rfl) (by kernel_rfl) (fun qK qa wr hB qO qF hK => ?_) ?_
      · obtain ⟨u57, e57, r4⟩ := qF.1
        have e57 : qa.tmps[57]? = some (.bool true) := (show u57 = .bool true from r4) ▸ e57
        clear r4
        clear qO qF
        go_simp
        exact hK _ _ (Below.refl _ _) rfl
      refine BOk.yes rfl [] [8] rfl 5 true rfl rfl rfl (by kernel_rfl) (by kernel_rfl) (by kernel_rfl) (fun qK qa wr hB qO qF hK => ?_) ?_
      · have e8 : qa.tmps[8]? = some (.int .i64 y) := qO.1.trans rfl
        clear qO qF
        go_simp
        exact hK _ _ (Below.refl _ _) rfl
      refine BOk.yes rfl [] [10] rfl 5 true rfl rfl rfl (by kernel_rfl) (by kernel_rfl) (by kernel_rfl) (fun qK qa wr hB qO qF hK => ?_) ?_
      · have e10 : qa.tmps[10]? = some (.pointer (some ⟨w3.heap.size + 1, 0, none⟩)) := qO.1.trans rfl
        clear qO qF
        have hb0 := (bcell hB _ _ (World.block_lt_of_cell? _ _ b0)).trans b0
        have hb1 := (bcell hB _ _ (World.block_lt_of_cell? _ _ b1)).trans b1
        have hb2 := (bcell hB _ _ (World.block_lt_of_cell? _ _ b2)).trans b2
        go_simp
        exact hK _ _ (Below.refl _ _) rfl
      refine BOk.yes rfl [6, 7] [] rfl 5 true rfl rfl rfl (by kernel_rfl) (by kernel_rfl) (by kernel_rfl) (fun qK qa wr hB qO qF hK => ?_) ?_
      · obtain ⟨u59, e59, r6⟩ := qF.1
        have e59 : qa.tmps[59]? = some (.int .i64 y) := (show u59 = .int .i64 y from r6) ▸ e59
        clear r6
        obtain ⟨u60, e60, r7⟩ := qF.2.1
        have e60 : qa.tmps[60]? = some (.agg #[.slice A1 l1.length c1, .slice (some ⟨w3.heap.size, 0, none⟩) 1 1, .int .i64 x]) := (show u60 = .agg #[.slice A1 l1.length c1, .slice (some ⟨w3.heap.size, 0, none⟩) 1 1, .int .i64 x] from r7) ▸ e60
        clear r7
        clear qO qF
        go_simp
        go_at_call 9
        refine (HDO2.out 28 0 y _ (HW.out.trans (hB.mono HW.out.size))).mono ?_
        rintro e w2 ⟨rfl, hb2⟩
        rw [H282.out]
        exact hK _ _ hb2 rfl
      refine BOk.yes rfl [] [11] rfl 5 true rfl rfl rfl (by kernel_rfl) (by kernel_rfl) (by kernel_rfl) (fun qK qa wr hB qO qF hK => ?_) ?_
      · have e11 : qa.tmps[11]? = some (.pointer (some ⟨w5.heap.size, 0, none⟩)) := qO.1.trans rfl
        clear qO qF
        have hx0 := (bcell hB _ _ (World.block_lt_of_cell? _ _ x0)).trans x0
        have hx1 := (bcell hB _ _ (World.block_lt_of_cell? _ _ x1)).trans x1
        go_simp
        exact hK _ _ (Below.refl _ _) rfl
      refine BOk.yes rfl [8, 9] [] rfl 5 true rfl rfl rfl (by kernel_rfl) (by kernel_rfl) (by kernel_rfl) (fun qK qa wr hB qO qF hK => ?_) ?_
      · obtain ⟨u61, e61, r8⟩ := qF.1
        have e61 : qa.tmps[61]? = some (.agg #[.int .i64 X.k, .int .u64 X.b]) := (show u61 = .agg #[.int .i64 X.k, .int .u64 X.b] from r8) ▸ e61
        clear r8
        obtain ⟨u62, e62, r9⟩ := qF.2.1
        have e62 : qa.tmps[62]? = some (.agg #[.int .i64 X.k, .int .u64 X.b]) := (show u62 = .agg #[.int .i64 X.k, .int .u64 X.b] from r9) ▸ e62
        clear r9
        clear qO qF
        go_simp
        refine hK _ _ (Below.refl _ _) ?_
        show (_ : Value) = _
        first | rfl | (simp; done) | (simp; omega)
      refine BOk.cons rfl [5, 10] [] rfl rfl (by kernel_rfl) (by kernel_rfl) (fun qK qa wr hB qO qF hK => ?_) ?_
      · obtain ⟨u58, e58, r5⟩ := qF.1
        have e58 : qa.tmps[58]? = some (.bool true) := (show u58 = .bool true from r5) ▸ e58
        clear r5
        obtain ⟨u63, e63, r10⟩ := qF.2.1
        have e63 : qa.tmps[63]? = some (.bool true) := (show u63 = .bool true from r10) ▸ e63
        clear r10
        clear qO qF
        go_simp
        refine hK _ _ (Below.refl _ _) ?_
        show (_ : Value) = _
        first | rfl | (simp; done) | (simp; omega)
      refine BOk.cons rfl [11] [] rfl rfl (by kernel_rfl) (by kernel_rfl) (fun qK qa wr hB qO qF hK => ?_) ?_
      · obtain ⟨u64, e64, r11⟩ := qF.1
        have e64 : qa.tmps[64]? = some (.bool true) := (show u64 = .bool true from r11) ▸ e64
        clear r11
        clear qO qF
        go_simp
        exact hK _ _ (Below.refl _ _) rfl
      refine BOk.yes rfl [] [8] rfl 12 true rfl rfl rfl (by kernel_rfl) (by kernel_rfl) (by kernel_rfl) (fun qK qa wr hB qO qF hK => ?_) ?_
      · have e8 : qa.tmps[8]? = some (.int .i64 y) := qO.1.trans rfl
        clear qO qF
        go_simp
        exact hK _ _ (Below.refl _ _) rfl
      refine BOk.yes rfl [] [9] rfl 12 true rfl rfl rfl (by kernel_rfl) (by kernel_rfl) (by kernel_rfl) (fun qK qa wr hB qO qF hK => ?_) ?_
      · have e9 : qa.tmps[9]? = some (.pointer (some ⟨w1.heap.size + 1, 0, none⟩)) := qO.1.trans rfl
        clear qO qF
        have ha0 := (bcell hB _ _ (World.block_lt_of_cell? _ _ a0)).trans a0
        have ha1 := (bcell hB _ _ (World.block_lt_of_cell? _ _ a1)).trans a1
        have ha2 := (bcell hB _ _ (World.block_lt_of_cell? _ _ a2)).trans a2
        go_simp
        exact hK _ _ (Below.refl _ _) rfl
      refine BOk.yes rfl [13, 14] [] rfl 12 true rfl rfl rfl (by kernel_rfl) (by kernel_rfl) (by kernel_rfl) (fun qK qa wr hB qO qF hK => ?_) ?_
      · obtain ⟨u66, e66, r13⟩ := qF.1
        have e66 : qa.tmps[66]? = some (.int .i64 y) := (show u66 = .int .i64 y from r13) ▸ e66
        clear r13
        obtain ⟨u67, e67, r14⟩ := qF.2.1
        have e67 : qa.tmps[67]? = some (.agg #[.slice A1 l1.length c1, .slice (some ⟨w1.heap.size, 0, none⟩) 1 1, .int .i64 0]) := (show u67 = .agg #[.slice A1 l1.length c1, .slice (some ⟨w1.heap.size, 0, none⟩) 1 1, .int .i64 0] from r14) ▸ e67
        clear r14
        clear qO qF
        go_simp
        go_at_call 9
        refine (HDO1.out 26 0 y _ (HW.out.trans (hB.mono HW.out.size))).mono ?_
        rintro e w2 ⟨rfl, hb2⟩
        rw [H261.out]
        exact hK _ _ hb2 rfl
      refine BOk.yes rfl [15] [] rfl 12 true rfl rfl rfl (by kernel_rfl) (by kernel_rfl) (by kernel_rfl) (fun qK qa wr hB qO qF hK => ?_) ?_
      · obtain ⟨u68, e68, r15⟩ := qF.1
        have e68 : qa.tmps[68]? = some (.agg #[.int .i64 0, .int .u64 0]) := (show u68 = .agg #[.int .i64 0, .int .u64 0] from r15) ▸ e68
        clear r15
        clear qO qF
        go_simp
        exact hK _ _ (Below.refl _ _) rfl
      refine BOk.yes rfl [16] [] rfl 12 true rfl rfl rfl (by kernel_rfl) (by kernel_rfl) (by kernel_rfl) (fun qK qa wr hB qO qF hK => ?_) ?_
      · obtain ⟨u69, e69, r16⟩ := qF.1
        have e69 : qa.tmps[69]? = some (.int .i64 0) := (show u69 = .int .i64 0 from r16) ▸ e69
        clear r16
        clear qO qF
        go_simp
        refine hK _ _ (Below.refl _ _) ?_
        show (_ : Value) = _
        first | rfl | (simp; done) | (simp; omega)
      refine BOk.cons rfl [12, 17] [] rfl rfl (by kernel_rfl) (by kernel_rfl) (fun qK qa wr hB qO qF hK => ?_) ?_
      · obtain ⟨u65, e65, r12⟩ := qF.1
        have e65 : qa.tmps[65]? = some (.bool true) := (show u65 = .bool true from r12) ▸ e65
        clear r12
        obtain ⟨u70, e70, r17⟩ := qF.2.1
        have e70 : qa.tmps[70]? = some (.bool true) := (show u70 = .bool true from r17) ▸ e70
        clear r17
        clear qO qF
        go_simp
        refine hK _ _ (Below.refl _ _) ?_
        show (_ : Value) = _
        first | rfl | (simp; done) | (simp; omega)
      refine BOk.cons rfl [18] [] rfl rfl (by kernel_rfl) (by kernel_rfl) (fun qK qa wr hB qO qF hK => ?_) ?_
      · obtain ⟨u71, e71, r18⟩ := qF.1
        have e71 : qa.tmps[71]? = some (.bool true) := (show u71 = .bool true from r18) ▸ e71
        clear r18
        clear qO qF
        go_simp
        exact hK _ _ (Below.refl _ _) rfl
      exact BOk.nil
    intro vals wr hl hB hR
    match vals, hl with
    | [z53, z54, z55, z56, z57, z58, z59, z60, z61, z62, z63, z64, z65, z66, z67, z68, z69, z70, z71, z6], _ =>
    have r19 : z6 = .bool true := hR 19 _ rfl
    subst r19
    clear hR
    simp only [List.cons_append, List.nil_append, putAll, Act.put, List.setIfInBounds_toArray, List.set_cons_zero, List.set_cons_succ]
    go_wp2_with fail
    go_ret
    exact ⟨rfl, hbW.trans ((HW.out.trans (hB.mono HW.out.size)).mono hbW.size)⟩
  · as_aux_lemma =>
    have h262 := H262.out q L rfl
    have h261 := H261.out q L rfl
    have h281 := H281.out q L rfl
    have h282 := H282.out q L rfl
    have hS := HSF.out (q :: L)
    clear H262 H261 H281 H282 H0
    generalize sumV ((q :: L).map fun at_ => attrL l1 at_ y) = S at *
    obtain ⟨T, hT⟩ : ∃ T, addV S X = T := ⟨_, rfl⟩
    rw [hT] at h282
    generalize attrL l1 q y = F at *
    have H262 := Lib.hid h262
    have H282 := Lib.hid h282
    have H261 := Lib.hid h261
    have H281 := Lib.hid h281
    have HT : Hid (applyV 1 [S, X] = T) := Lib.hid hT
    clear h262 h282 h261 h281 hT
    go_wp2_with fail
    refine wp_region_b (by kernel_rfl) (fun qk => (regG11 A1 c1 l1 (q :: L) x y X F S T w1 w3 w5).getD qk .any) (by kernel_rfl) ?_ ?_
    · refine BOk.cons rfl [] [8] rfl rfl (by kernel_rfl) (by kernel_rfl) (fun qK qa wr hB qO qF hK => ?_) ?_
      · have e8 : qa.tmps[8]? = some (.int .i64 y) := qO.1.trans rfl
        clear qO qF
        go_simp
        exact hK _ _ (Below.refl _ _) rfl
      refine BOk.cons rfl [] [10] rfl rfl (by kernel_rfl) (by kernel_rfl) (fun qK qa wr hB qO qF hK => ?_) ?_
      · have e10 : qa.tmps[10]? = some (.pointer (some ⟨w3.heap.size + 1, 0, none⟩)) := qO.1.trans rfl
        clear qO qF
        have hb0 := (bcell hB _ _ (World.block_lt_of_cell? _ _ b0)).trans b0
        have hb1 := (bcell hB _ _ (World.block_lt_of_cell? _ _ b1)).trans b1
        have hb2 := (bcell hB _ _ (World.block_lt_of_cell? _ _ b2)).trans b2
        go_simp
        exact hK _ _ (Below.refl _ _) rfl
      refine BOk.cons rfl [0, 1] [] rfl rfl (by kernel_rfl) (by kernel_rfl) (fun qK qa wr hB qO qF hK => ?_) ?_
      · obtain ⟨u72, e72, r0⟩ := qF.1
        have e72 : qa.tmps[72]? = some (.int .i64 y) := (show u72 = .int .i64 y from r0) ▸ e72
        clear r0
        obtain ⟨u73, e73, r1⟩ := qF.2.1
        have e73 : qa.tmps[73]? = some (.agg #[.slice A1 l1.length c1, .slice (some ⟨w3.heap.size, 0, none⟩) 1 1, .int .i64 x]) := (show u73 = .agg #[.slice A1 l1.length c1, .slice (some ⟨w3.heap.size, 0, none⟩) 1 1, .int .i64 x] from r1) ▸ e73
        clear r1
        clear qO qF
        go_simp
        go_at_call 9
        refine (HDO2.out 26 0 y _ (HW.out.trans (hB.mono HW.out.size))).mono ?_
        rintro e w2 ⟨rfl, hb2⟩
        rw [H262.out]
        exact hK _ _ hb2 rfl
      refine BOk.cons rfl [] [8] rfl rfl (by kernel_rfl) (by kernel_rfl) (fun qK qa wr hB qO qF hK => ?_) ?_
      · have e8 : qa.tmps[8]? = some (.int .i64 y) := qO.1.trans rfl
        clear qO qF
        go_simp
        exact hK _ _ (Below.refl _ _) rfl
      refine BOk.cons rfl [] [9] rfl rfl (by kernel_rfl) (by kernel_rfl) (fun qK qa wr hB qO qF hK => ?_) ?_
      · have e9 : qa.tmps[9]? = some (.pointer (some ⟨w1.heap.size + 1, 0, none⟩)) := qO.1.trans rfl
        clear qO qF
        have ha0 := (bcell hB _ _ (World.block_lt_of_cell? _ _ a0)).trans a0
        have ha1 := (bcell hB _ _ (World.block_lt_of_cell? _ _ a1)).trans a1
        have ha2 := (bcell hB _ _ (World.block_lt_of_cell? _ _ a2)).trans a2
        go_simp
        exact hK _ _ (Below.refl _ _) rfl
      refine BOk.cons rfl [3, 4] [] rfl rfl (by kernel_rfl) (by kernel_rfl) (fun qK qa wr hB qO qF hK => ?_) ?_
      · obtain ⟨u75, e75, r3⟩ := qF.1
        have e75 : qa.tmps[75]? = some (.int .i64 y) := (show u75 = .int .i64 y from r3) ▸ e75
        clear r3
        obtain ⟨u76, e76, r4⟩ := qF.2.1
        have e76 : qa.tmps[76]? = some (.agg #[.slice A1 l1.length c1, .slice (some ⟨w1.heap.size, 0, none⟩) 1 1, .int .i64 0]) := (show u76 = .agg #[.slice A1 l1.length c1, .slice (some ⟨w1.heap.size, 0, none⟩) 1 1, .int .i64 0] from r4) ▸ e76
        clear r4
        clear qO qF
        go_simp
        go_at_call 9
        refine (HDO1.out 26 0 y _ (HW.out.trans (hB.mono HW.out.size))).mono ?_
        rintro e w2 ⟨rfl, hb2⟩
        rw [H261.out]
        exact hK _ _ hb2 rfl
      refine BOk.cons rfl [2, 5] [] rfl rfl (by kernel_rfl) (by kernel_rfl) (fun qK qa wr hB qO qF hK => ?_) ?_
      · obtain ⟨u74, e74, r2⟩ := qF.1
        have e74 : qa.tmps[74]? = some (.agg #[.int .i64 F.k, .int .u64 F.b]) := (show u74 = .agg #[.int .i64 F.k, .int .u64 F.b] from r2) ▸ e74
        clear r2
        obtain ⟨u77, e77, r5⟩ := qF.2.1
        have e77 : qa.tmps[77]? = some (.agg #[.int .i64 F.k, .int .u64 F.b]) := (show u77 = .agg #[.int .i64 F.k, .int .u64 F.b] from r5) ▸ e77
        clear r5
        clear qO qF
        go_simp
        refine hK _ _ (Below.refl _ _) ?_
        show (_ : Value) = _
        first | rfl | (simp; done) | (simp; omega)
      refine BOk.cons rfl [6] [] rfl rfl (by kernel_rfl) (by kernel_rfl) (fun qK qa wr hB qO qF hK => ?_) ?_
      · obtain ⟨u78, e78, r6⟩ := qF.1
        have e78 : qa.tmps[78]? = some (.bool true) := (show u78 = .bool true from r6) ▸ e78
        clear r6
        clear qO qF
        go_simp
        exact hK _ _ (Below.refl _ _) rfl
      refine BOk.yes rfl [] [8] rfl 7 true rfl rfl rfl (by kernel_rfl) (by kernel_rfl) (by kernel_rfl) (fun qK qa wr hB qO qF hK => ?_) ?_
      · have e8 : qa.tmps[8]? = some (.int .i64 y) := qO.1.trans rfl
        clear qO qF
        go_simp
        exact hK _ _ (Below.refl _ _) rfl
      refine BOk.yes rfl [] [10] rfl 7 true rfl rfl rfl (by kernel_rfl) (by kernel_rfl) (by kernel_rfl) (fun qK qa wr hB qO qF hK => ?_) ?_
      · have e10 : qa.tmps[10]? = some (.pointer (some ⟨w3.heap.size + 1, 0, none⟩)) := qO.1.trans rfl
        clear qO qF
        have hb0 := (bcell hB _ _ (World.block_lt_of_cell? _ _ b0)).trans b0
        have hb1 := (bcell hB _ _ (World.block_lt_of_cell? _ _ b1)).trans b1
        have hb2 := (bcell hB _ _ (World.block_lt_of_cell? _ _ b2)).trans b2
        go_simp
        exact hK _ _ (Below.refl _ _) rfl
      refine BOk.yes rfl [8, 9] [] rfl 7 true rfl rfl rfl (by kernel_rfl) (by kernel_rfl) (by kernel_rfl) (fun qK qa wr hB qO qF hK => ?_) ?_
      · obtain ⟨u80, e80, r8⟩ := qF.1
        have e80 : qa.tmps[80]? = some (.int .i64 y) := (show u80 = .int .i64 y from r8) ▸ e80
        clear r8
        obtain ⟨u81, e81, r9⟩ := qF.2.1
        have e81 : qa.tmps[81]? = some (.agg #[.slice A1 l1.length c1, .slice (some ⟨w3.heap.size, 0, none⟩) 1 1, .int .i64 x]) := (show u81 = .agg #[.slice A1 l1.length c1, .slice (some ⟨w3.heap.size, 0, none⟩) 1 1, .int .i64 x] from r9) ▸ e81
        clear r9
        clear qO qF
        go_simp
        go_at_call 9
        refine (HDO2.out 28 0 y _ (HW.out.trans (hB.mono HW.out.size))).mono ?_
        rintro e w2 ⟨rfl, hb2⟩
        rw [H282.out]
        exact hK _ _ hb2 rfl
      refine BOk.yes rfl [] [8] rfl 7 true rfl rfl rfl (by kernel_rfl) (by kernel_rfl) (by kernel_rfl) (fun qK qa wr hB qO qF hK => ?_) ?_
      · have e8 : qa.tmps[8]? = some (.int .i64 y) := qO.1.trans rfl
        clear qO qF
        go_simp
        exact hK _ _ (Below.refl _ _) rfl
      refine BOk.yes rfl [] [9] rfl 7 true rfl rfl rfl (by kernel_rfl) (by kernel_rfl) (by kernel_rfl) (fun qK qa wr hB qO qF hK => ?_) ?_
      · have e9 : qa.tmps[9]? = some (.pointer (some ⟨w1.heap.size + 1, 0, none⟩)) := qO.1.trans rfl
        clear qO qF
        have ha0 := (bcell hB _ _ (World.block_lt_of_cell? _ _ a0)).trans a0
        have ha1 := (bcell hB _ _ (World.block_lt_of_cell? _ _ a1)).trans a1
        have ha2 := (bcell hB _ _ (World.block_lt_of_cell? _ _ a2)).trans a2
        go_simp
        exact hK _ _ (Below.refl _ _) rfl
      refine BOk.yes rfl [11, 12] [] rfl 7 true rfl rfl rfl (by kernel_rfl) (by kernel_rfl) (by kernel_rfl) (fun qK qa wr hB qO qF hK => ?_) ?_
      · obtain ⟨u83, e83, r11⟩ := qF.1
        have e83 : qa.tmps[83]? = some (.int .i64 y) := (show u83 = .int .i64 y from r11) ▸ e83
        clear r11
        obtain ⟨u84, e84, r12⟩ := qF.2.1
        have e84 : qa.tmps[84]? = some (.agg #[.slice A1 l1.length c1, .slice (some ⟨w1.heap.size, 0, none⟩) 1 1, .int .i64 0]) := (show u84 = .agg #[.slice A1 l1.length c1, .slice (some ⟨w1.heap.size, 0, none⟩) 1 1, .int .i64 0] from r12) ▸ e84
        clear r12
        clear qO qF
        go_simp
        go_at_call 9
        refine (HDO1.out 28 0 y _ (HW.out.trans (hB.mono HW.out.size))).mono ?_
        rintro e w2 ⟨rfl, hb2⟩
        rw [H281.out]
        exact hK _ _ hb2 rfl
      refine BOk.yes rfl [] [11] rfl 7 true rfl rfl rfl (by kernel_rfl) (by kernel_rfl) (by kernel_rfl) (fun qK qa wr hB qO qF hK => ?_) ?_
      · have e11 : qa.tmps[11]? = some (.pointer (some ⟨w5.heap.size, 0, none⟩)) := qO.1.trans rfl
        clear qO qF
        have hx0 := (bcell hB _ _ (World.block_lt_of_cell? _ _ x0)).trans x0
        have hx1 := (bcell hB _ _ (World.block_lt_of_cell? _ _ x1)).trans x1
        go_simp
        exact hK _ _ (Below.refl _ _) rfl
      refine BOk.yes rfl [13, 14] [] rfl 7 true rfl rfl rfl (by kernel_rfl) (by kernel_rfl) (by kernel_rfl) (fun qK qa wr hB qO qF hK => ?_) ?_
      · obtain ⟨u85, e85, r13⟩ := qF.1
        have e85 : qa.tmps[85]? = some (.agg #[.int .i64 S.k, .int .u64 S.b]) := (show u85 = .agg #[.int .i64 S.k, .int .u64 S.b] from r13) ▸ e85
        clear r13
        obtain ⟨u86, e86, r14⟩ := qF.2.1
        have e86 : qa.tmps[86]? = some (.agg #[.int .i64 X.k, .int .u64 X.b]) := (show u86 = .agg #[.int .i64 X.k, .int .u64 X.b] from r14) ▸ e86
        clear r14
        clear qO qF
        go_simp
        exact hK _ _ ((Below.refl _ _).alloc (Nat.le_refl _) _) ⟨_, rfl, Bk.new _ _ _⟩
      refine BOk.yes rfl [15] [] rfl 7 true rfl rfl rfl (by kernel_rfl) (by kernel_rfl) (by kernel_rfl) (fun qK qa wr hB qO qF hK => ?_) ?_
      · obtain ⟨u87, e87, r15⟩ := qF.1
        obtain ⟨g87, h87, k87⟩ := (show ∃ g, u87 = .slice (some ⟨g, 0, none⟩) 2 2 ∧ Bk wr g 31 #[.int .i64 S.k, .int .u64 S.b, .int .i64 X.k, .int .u64 X.b] from r15)
        subst h87
        have e87 : qa.tmps[87]? = some (.slice (some ⟨g87, 0, none⟩) 2 2) := e87
        clear qO qF
        go_simp
        go_at_call 10
        refine (apply_any 1 [S, X] _ 2 _ (bk_rd k87) (by intro q hq; simp only [List.mem_cons, List.not_mem_nil, or_false] at hq; rcases hq with rfl | rfl <;> assumption) (by simp)).mono ?_
        rintro e w2 ⟨rfl, hb2⟩
        rw [HT.out]
        exact hK _ _ hb2 rfl
      refine BOk.yes rfl [10, 16] [] rfl 7 true rfl rfl rfl (by kernel_rfl) (by kernel_rfl) (by kernel_rfl) (fun qK qa wr hB qO qF hK => ?_) ?_
      · obtain ⟨u82, e82, r10⟩ := qF.1
        have e82 : qa.tmps[82]? = some (.agg #[.int .i64 T.k, .int .u64 T.b]) := (show u82 = .agg #[.int .i64 T.k, .int .u64 T.b] from r10) ▸ e82
        clear r10
        obtain ⟨u88, e88, r16⟩ := qF.2.1
        have e88 : qa.tmps[88]? = some (.agg #[.int .i64 T.k, .int .u64 T.b]) := (show u88 = .agg #[.int .i64 T.k, .int .u64 T.b] from r16) ▸ e88
        clear r16
        clear qO qF
        go_simp
        refine hK _ _ (Below.refl _ _) ?_
        show (_ : Value) = _
        first | rfl | (simp; done) | (simp; omega)
      refine BOk.cons rfl [7, 17] [] rfl rfl (by kernel_rfl) (by kernel_rfl) (fun qK qa wr hB qO qF hK => ?_) ?_
      · obtain ⟨u79, e79, r7⟩ := qF.1
        have e79 : qa.tmps[79]? = some (.bool true) := (show u79 = .bool true from r7) ▸ e79
        clear r7
        obtain ⟨u89, e89, r17⟩ := qF.2.1
        have e89 : qa.tmps[89]? = some (.bool true) := (show u89 = .bool true from r17) ▸ e89
        clear r17
        clear qO qF
        go_simp
        refine hK _ _ (Below.refl _ _) ?_
        show (_ : Value) = _
        first | rfl | (simp; done) | (simp; omega)
      refine BOk.cons rfl [18] [] rfl rfl (by kernel_rfl) (by kernel_rfl) (fun qK qa wr hB qO qF hK => ?_) ?_
      · obtain ⟨u90, e90, r18⟩ := qF.1
        have e90 : qa.tmps[90]? = some (.bool true) := (show u90 = .bool true from r18) ▸ e90
        clear r18
        clear qO qF
        go_simp
        exact hK _ _ (Below.refl _ _) rfl
      exact BOk.nil
    intro vals wr hl hB hR
    match vals, hl with
    | [z72, z73, z74, z75, z76, z77, z78, z79, z80, z81, z82, z83, z84, z85, z86, z87, z88, z89, z90, z6], _ =>
    have r19 : z6 = .bool true := hR 19 _ rfl
    subst r19
    clear hR
    simp only [List.cons_append, List.nil_append, putAll, Act.put, List.setIfInBounds_toArray, List.set_cons_zero, List.set_cons_succ]
    go_wp2_with fail
    go_ret
    exact ⟨rfl, hbW.trans ((HW.out.trans (hB.mono HW.out.size)).mono hbW.size)⟩

theorem own : ownKnob Try.prog.godebug = none := by kernel_rfl
theorem laidOut : laidOutB Try.prog = true := by kernel_rfl
theorem rec0 : (Try.f3.params.toList.all fun t => Try.prog.readableRec t && decide (t < Try.prog.types.size)) = true := by kernel_rfl
set_option maxRecDepth 100000 in
theorem lifted (os : Os) (started : os.Started) (H : Type) (enc : TypeId × Value → H) (F : Stop.Interp) :
    ReturnsInHanded {} Try.checked os 3 .any ((Rows.OpenSpec.upto Rows.evalGrowsSpec).pre6 enc Try.prog Try.f3 Rows.evalGrowsUptoRow.domain false) (((Rows.OpenSpec.upto Rows.evalGrowsSpec).at F).post enc Try.prog Try.f3 false true false false) := by
  refine law_stepB (C := Try.checked) (s := Rows.evalGrowsSpec) (tb := 4) own started (by kernel_rfl) Try.func3
    (OpenSpec.witness (enc := enc) (C := Try.checked) (s := Rows.OpenSpec.upto Rows.evalGrowsSpec) (k := Rows.uptoSmall) rfl false ⟨#[], #[.slice none 0 0, .slice none 0 0, .agg #[.int .i64 0, .int .i64 0]], []⟩ 8 (by kernel_rfl) (by kernel_rfl) (by kernel_rfl)
      (x := ([.nil, .nil, .agg [.lit (.int .i64 0), .lit (.int .i64 0)]], [], [])) (by kernel_rfl) rfl (by kernel_rfl)) laidOut ?_ rfl Try.underlying4 rfl ?_ ?_
  · intro t ht
    have := List.all_eq_true.1 rec0 t ht
    simp only [Bool.and_eq_true, decide_eq_true_eq] at this
    exact this
  · intro ds hd
    match ds, hd with
    | [d0, d1, d2], _ => exact ⟨rfl, rfl, rfl⟩
  intro W base args ds p hval hA hsz hbk
  rw [Try.params3] at hA hval hsz
  obtain ⟨v0, vs0, d0, ds0, p0, q0, hargs, rfl, rfl, h0, r0⟩ := trodAll_cons hA
  obtain ⟨v1, vs1, d1, ds1, p1, q1, rfl, rfl, rfl, h1, r1⟩ := trodAll_cons r0
  obtain ⟨v2, vs2, d2, ds2, p2, q2, rfl, rfl, rfl, h2, r2⟩ := trodAll_cons r1
  obtain ⟨rfl, rfl, rfl⟩ := trodAll_nil r2
  obtain rfl : args = #[v0, v1, v2] := by cases args; simp_all
  obtain ⟨A0, c0, l0, rfl, hc0, hl0, hr0, hq0⟩ := openB_events (hval 0 22 v0 rfl rfl) h0 (weights_each (i := 0) hsz rfl rfl) (Nat.le_trans (bulk_part (by simp)) hbk)
  obtain ⟨x1, rfl, hl1, hq1⟩ := openB_ints (hval 1 23 v1 rfl rfl) h1 (weights_each (i := 1) hsz rfl rfl) (Nat.le_trans (bulk_part (by simp)) hbk)
  obtain ⟨x2, y2, rfl⟩ := openB_pair (hval 2 24 v2 rfl rfl) h2 (weights_each (i := 2) hsz rfl rfl) (Nat.le_trans (bulk_part (by simp)) hbk)
  exact walk W A0 c0 l0 hc0 hl0 hr0 hq0 x1 hl1 hq1 x2 y2

theorem evalGrows_holds : Rows.EvalGrowsUptoSaid :=
  OpenClaim.holds_of_cond 3 Try.f3 rfl rfl rfl rfl rfl rfl rfl ⟨rfl, rfl, rfl, rfl, rfl⟩ rfl rfl rfl rfl rfl (by kernel_rfl) Try.func3 (by kernel_rfl)
    (of_decide_eq_true (by kernel_rfl)) (by unfold Func.isWrapper; first | (rw [if_pos (by decide +kernel)]; kernel_rfl) | (rw [if_neg (by decide +kernel)]; exact ⟨rfl, rfl⟩))
    (fun os started H enc _ F => lifted os started H enc F)
#print axioms evalGrows_holds
end Go.Proofs.Ytomhheihhnmbcaa.evalGrows
