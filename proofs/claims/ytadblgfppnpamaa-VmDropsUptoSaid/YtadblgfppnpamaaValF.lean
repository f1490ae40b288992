/- The program's Apply. No conditions. -/
import Derived.Test.YtadblgfppnpamaaValG
import Derived.Deep.RegionHeld3
import Derived.Deep.AppendLies
import Derived.Defers
import Derived.Recover
import Derived.Tactics2
namespace Go.Proofs.Ytadblgfppnpamaa
open Go.RowKit
set_option linter.unusedSimpArgs false
set_option linter.unusedVariables false

theorem infoV : (Try.prog.info? 31).map (fun i => (i.zero, i.size, i.bytes)) = some (some (.agg #[.int .i64 0, .int .u64 0]), 2, 16) := by kernel_rfl
theorem infoI : (Try.prog.info? 3).map (fun i => (i.zero, i.size, i.bytes)) = some (some (.int .i64 0), 1, 8) := by kernel_rfl

def logicV (op : Int) (x y : V) : Option V := toldV (if (op == 14) = true then max (truthI x) (truthI y) else min (truthI x) (truthI y))
def restV (op : Int) (l : List V) : Option V :=
  if resK op (l.map fun x => (clean x).k) = 0 then none
  else match l with
    | [x] => if (clean x).k = 4 then some (realsV op (clean x) (clean x)) else intsV op (clean x) (clean x)
    | [x, y] => if (clean x).k = 4 then some (realsV op (clean x) (clean y)) else intsV op (clean x) (clean y)
    | _ => none
def applyV (op : Int) (l : List V) : V :=
  match l with
  | [x, y] => if op = 13 ∨ op = 14 then (logicV op x y).getD none0 else (restV op l).getD none0
  | _ => (restV op l).getD none0

theorem keep_alloc {w0 w : World} {g g9 : Nat} {t t9 : TypeId} {cs c9 : Array Value} {R : Prop} {o : Obj} (h : (Below w0.heap.size w0 w ∧ Bk w g t cs ∧ Bk w g9 t9 c9) ∧ R) : Below w0.heap.size w0 (w.alloc o) ∧ Bk (w.alloc o) g t cs ∧ Bk (w.alloc o) g9 t9 c9 :=
  ⟨h.1.1.alloc h.1.1.size _, h.1.2.1.alloc _, h.1.2.2.alloc _⟩
theorem keep_alloc_drew {w0 w : World} {g g9 : Nat} {t t9 : TypeId} {cs c9 : Array Value} {R : Prop} {o : Obj} (h : (Below w0.heap.size w0 w.drew ∧ Bk w.drew g t cs ∧ Bk w.drew g9 t9 c9) ∧ R) : Below w0.heap.size w0 (w.alloc o).drew ∧ Bk (w.alloc o).drew g t cs ∧ Bk (w.alloc o).drew g9 t9 c9 :=
  ⟨h.1.1.alloc h.1.1.size o, h.1.2.1.alloc o, h.1.2.2.alloc o⟩
theorem own_drew {w : World} {base : Nat} {e : TypeId} {size n : Nat} {v : Value} {xs : List Value} (h : w.ownsRow base e size v n xs) : w.drew.ownsRow base e size v n xs := h
theorem keep_grown {w0 w w' : World} {g g9 : Nat} {t t9 e : TypeId} {cs c9 : Array Value} {R : Prop} {size n : Nat} {v : Value} {xs : List Value} (hg : w.grownBy w' v.ownBlock) (hV : w.ownsRow (w0.heap.size + 1) e size v n xs) (n0 : some g ≠ v.ownBlock) (n9 : some g9 ≠ v.ownBlock)
    (h : (Below w0.heap.size w0 w ∧ Bk w g t cs ∧ Bk w g9 t9 c9) ∧ R) : Below w0.heap.size w0 w' ∧ Bk w' g t cs ∧ Bk w' g9 t9 c9 :=
  ⟨below_own h.1.1 hV (by omega) hg h.1.1.size, h.1.2.1.grown hg n0, h.1.2.2.grown hg n9⟩

set_option maxHeartbeats 1000000 in
theorem apply_one (op : Int) (l : List V) (A : Option Addr) (c : Nat) (w : World) (hr : Rd w w.heap.size A (l.flatMap V.cells)) (hf : ∀ x ∈ l, x.fits) (hl : l.length * 16 ≤ 140737488351232) (h2 : l.length ≠ 2) :
    Calls Try.prog 48 #[.int .i64 op, .slice A l.length c] w fun e w' => e = .returned ((restV op l).getD none0).v ∧ Below w.heap.size w w' := by
  have hmf : ∀ (fn : Fn) (first cap : Array Value) (w : World), (Instr.makeFunc fn first cap).run Try.prog w = .ok (.func fn first cap) w := fun _ _ _ _ => rfl
  obtain ⟨iV, hV, hV0, hV1, hV2⟩ := info_parts infoV
  obtain ⟨iI, hI, hI0, hI1, hI2⟩ := info_parts infoI
  have HF := Lib.hid hf
  clear hf
  generalize hR : restV op l = R
  have h2' : ((l.length : Int) == 2) = false := by rw [beq_eq_false_iff_ne]; omega
  go_enter_defers Try.func48, Try.ntmps48
  go_wp2
  go_loopw [5, 6, 36] (fun ks vs i wr => ∃ (k : Nat) (Ak Av : Option Addr) (ck cv : Nat), k ≤ l.length ∧ i = .int .i64 k ∧ ks = .slice Ak k ck ∧ vs = .slice Av k cv ∧ Below w.heap.size w wr ∧
      Bk wr w.heap.size 31 #[.int .i64 0, .int .u64 0] ∧
      wr.ownsRow (w.heap.size + 1) 3 1 ks k ((l.take k).map fun x => .int .i64 (clean x).k) ∧
      wr.ownsRow (w.heap.size + 1) 31 2 vs k ((l.take k).flatMap fun x => (clean x).cells)) (fun _ _ i _ => l.length - (intOf i).toNat)
  case atStart => exact ⟨0, none, none, 0, 0, Nat.zero_le _, rfl, rfl, rfl, (Below.refl _ _).alloc (Nat.le_refl _) _, Bk.new _ _ _, World.ownsRow_nil _ _ _ _, World.ownsRow_nil _ _ _ _⟩
  case round =>
    obtain ⟨k, Ak, Av, ck, cv, hk, rfl, rfl, rfl, hbel, hb0, hK, hVr⟩ := hrel
    by_cases hlt : k < l.length
    · obtain ⟨b, o, rfl, hb, hc⟩ := (hr.below hbel).elem (f := V.cells) (n := 2) (fun _ => rfl) (by omega) hlt
      have hc0 : wr.cell? ⟨b, o + k * 2, none⟩ = some (.int .i64 l[k].k) := hc 0 _ rfl
      have hc1 : wr.cell? ⟨b, o + k * 2 + 1, none⟩ = some (.int .u64 l[k].b) := hc 1 _ rfl
      have hfit : l[k].fits := HF.out _ (List.getElem_mem hlt)
      clear hc
      go_wp2_with fail
      refine (pclean_any l[k] hfit _).mono ?_
      rintro e w1 ⟨rfl, hb1⟩
      have hb0 := (hb0.alloc _).old hb1
      have hK := own_old (hK.alloc _) hb1
      have hVr := own_old (hVr.alloc _) hb1
      have hB : Below w.heap.size w w1 := (hbel.alloc hbel.size _).trans (hb1.mono (by have := hbel.size; simp; omega))
      have hz := hB.size
      simp only [V.v]
      clear hc0 hc1 hb1 hbel
      go_wp2
      have ne0 : some w.heap.size ≠ (Value.slice Av k cv).ownBlock := fun e => by have := (hVr.lt _ e.symm).1; omega
      have nk0 : some w.heap.size ≠ (Value.slice Ak k ck).ownBlock := fun e => by have := (hK.lt _ e.symm).1; omega
      have ne9 : ∀ g, w1.heap.size ≤ g → some g ≠ (Value.slice Av k cv).ownBlock := fun g hg e => by have := (hVr.lt _ e.symm).2; omega
      have nk9 : ∀ g, w1.heap.size ≤ g → some g ≠ (Value.slice Ak k ck).ownBlock := fun g hg e => by have := (hK.lt _ e.symm).2; omega
      have hVW := hVr.alloc (.cells #[.int .i64 (clean l[k]).k, .int .u64 (clean l[k]).b] 31)
      have hKW := hK.alloc (.cells #[.int .i64 (clean l[k]).k, .int .u64 (clean l[k]).b] 31)
      have hbW := hB.alloc hz (.cells #[.int .i64 (clean l[k]).k, .int .u64 (clean l[k]).b] 31)
      have hb0W := hb0.alloc (.cells #[.int .i64 (clean l[k]).k, .int .u64 (clean l[k]).b] 31)
      have h9W := Bk.new w1 31 #[.int .i64 (clean l[k]).k, .int .u64 (clean l[k]).b]
      have hWs : (w1.alloc (.cells #[.int .i64 (clean l[k]).k, .int .u64 (clean l[k]).b] 31)).heap.size = w1.heap.size + 1 := by simp
      have hz0 := hb0.lt
      have hl9 : l.length ≤ 8796093021952 := by omega
      generalize w1.alloc (.cells #[.int .i64 (clean l[k]).k, .int .u64 (clean l[k]).b] 31) = W at *
      have HS : Hid (∀ w' : World, Below w.heap.size w w' ∧ Bk w' w.heap.size 31 #[.int .i64 0, .int .u64 0] ∧ Bk w' w1.heap.size 31 #[.int .i64 (clean l[k]).k, .int .u64 (clean l[k]).b] → 
        (Below w.heap.size w w' ∧ Bk w' w.heap.size 31 #[.int .i64 0, .int .u64 0] ∧ Bk w' w1.heap.size 31 #[.int .i64 (clean l[k]).k, .int .u64 (clean l[k]).b]) ∧ w'.cell? ⟨w1.heap.size, 0, none⟩ = some (.int .i64 (clean l[k]).k) ∧ w'.cell? ⟨w1.heap.size, 1, none⟩ = some (.int .u64 (clean l[k]).b)) := Lib.hid fun w' h => ⟨h, h.2.2.cell 0, h.2.2.cell 1⟩
      clear hB hb0 hK hVr
      generalize hx : clean l[k] = x at *
      go_region_held3 (fun w' => (Below w.heap.size w w' ∧ Bk w' w.heap.size 31 #[.int .i64 0, .int .u64 0] ∧ Bk w' w1.heap.size 31 #[.int .i64 x.k, .int .u64 x.b]) ∧ w'.cell? ⟨w1.heap.size, 0, none⟩ = some (.int .i64 x.k) ∧ w'.cell? ⟨w1.heap.size, 1, none⟩ = some (.int .u64 x.b))
        (first | exact HS.out _ ⟨hbW, hb0W, h9W⟩ | exact HS.out _ ⟨hbW.drew, hb0W, h9W⟩ | exact HS.out _ hS3 | exact HS.out _ hS4 | (apply HS.out; apply keep_alloc_drew; assumption) | (apply HS.out; apply keep_alloc; assumption))
        (first
          | (refine step_append_lies _ (by rfl) _ _ 23 (by rfl) (w.heap.size + 1) 31 iV _ 2 16 Try.underlying23 hV hV0 hV1 hV2 rfl (by decide) (.slice Av k cv) k ((l.take k).flatMap fun x => (clean x).cells) (by rfl) (by first | exact own_drew (hVW.alloc _) | exact own_drew ((hVW.alloc _).alloc _)) _ 1 1 [.int .i64 x.k, .int .u64 x.b] (by rfl) (by rfl) (by first | exact World.news_of_block (Bk.newAt (by first | omega | (simp; omega)) _ _).drew | exact World.news_of_block ((Bk.newAt (by first | omega | (simp; omega)) _ _).alloc _).drew) (by intro u hu; simp at hu; rcases hu with rfl | rfl <;> rfl) (by omega) (by unfold maxLen; omega) (by omega) (by simp; omega) _ rfl ?_
             intro g cap w3 hVn hgrow hat hlt3
             have hKn := own_keep (by first | exact own_drew (hKW.alloc _) | exact own_drew ((hKW.alloc _).alloc _)) (by first | exact own_drew (hVW.alloc _) | exact own_drew ((hVW.alloc _).alloc _)) (by decide) hgrow
             have hS3 : Below w.heap.size w w3 ∧ Bk w3 w.heap.size 31 #[.int .i64 0, .int .u64 0] ∧ Bk w3 w1.heap.size 31 #[.int .i64 x.k, .int .u64 x.b] := (by apply keep_grown (hg := hgrow) (hV := by first | exact own_drew (hVW.alloc _) | exact own_drew ((hVW.alloc _).alloc _)) (n0 := ne0) (n9 := ne9 _ (Nat.le_refl _)); assumption)
             (first
               | have hbk := (Bk.newAt (w := W.alloc (.cells #[.int .i64 x.k, .int .u64 x.b] 31)) (g := w1.heap.size + 1 + 1) (by first | omega | (simp; omega)) 3 #[.int .i64 x.k]).drew.grown hgrow (ne9 _ (by omega))
               | have hbk := ((Bk.newAt (w := W) (g := w1.heap.size + 1) (by omega) 3 #[.int .i64 x.k]).alloc (.cells #[.int .i64 x.k, .int .u64 x.b] 31)).drew.grown hgrow (ne9 _ (by omega))
               | skip))
          | (refine step_append_lies _ (by rfl) _ _ 64 (by rfl) (w.heap.size + 1) 3 iI _ 1 8 Try.underlying64 hI hI0 hI1 hI2 rfl (by decide) (.slice Ak k ck) k ((l.take k).map fun x => .int .i64 (clean x).k) (by rfl) (by first | exact hKn | exact hKn.alloc _) _ 1 1 [.int .i64 x.k] (by rfl) (by rfl) (by first | exact World.news_of_block (Bk.new _ _ _) | exact World.news_of_block hbk) (by intro u hu; simp at hu; subst hu; rfl) (by omega) (by unfold maxLen; omega) (by omega) (by have := hS3.2.1.lt; (try simp); omega) _ rfl ?_
             intro g' cap' w4 hKf hgrow' hat' hlt4
             have hVf := own_keep (by first | exact hVn | exact hVn.alloc _) (by first | exact hKn | exact hKn.alloc _) (by decide) hgrow'
             have hS4 : Below w.heap.size w w4 ∧ Bk w4 w.heap.size 31 #[.int .i64 0, .int .u64 0] ∧ Bk w4 w1.heap.size 31 #[.int .i64 x.k, .int .u64 x.b] := (by apply keep_grown (hg := hgrow') (hV := by first | exact hKn | exact hKn.alloc _) (n0 := nk0) (n9 := nk9 _ (Nat.le_refl _)); assumption)))
      all_goals go_wp2
      all_goals go_roundw
      all_goals first
        | (refine ⟨k + 1, _, _, _, _, by omega, by go_num, rfl, rfl, hS4.1, hS4.2.1, ?_, ?_⟩
           · rw [List.take_succ_eq_append_getElem hlt, List.map_append, List.map_cons, List.map_nil, hx]; exact hKf
           · rw [← flat_snoc _ l k hlt, hx]; exact hVf)
        | (simp [intOf]; omega)
    · obtain rfl : k = l.length := by omega
      clear hlt hk
      rw [List.take_length] at hK hVr
      go_wp2_with fail
      have hkr : Rd wr wr.heap.size Ak (kcells (l.map fun x => (clean x).k)) := by have := own_rd hK; rw [kcells, List.map_map]; exact this
      have hrr := result_any op (l.map fun x => (clean x).k) Ak ck wr (by rw [List.length_map]; omega) hkr
      rw [List.length_map] at hrr
      refine hrr.mono ?_
      rintro e w1 ⟨rfl, hb1⟩
      have hb0 := hb0.old hb1
      have hVr := own_old hVr hb1
      have hbel : Below w.heap.size w w1 := hbel.trans (hb1.mono hbel.size)
      clear hb1 hK hkr hrr
      have hz := hb0.lt
      by_cases h0 : resK op (l.map fun x => (clean x).k) = 0
      · have e : R = none := by rw [← hR]; unfold restV; rw [if_pos h0]
        subst e
        clear hR
        rw [h0]
        go_wp2
        refine leaves_cons (f := 57) (args := #[.pointer (some ⟨w.heap.size, 0, none⟩)]) (by simp) (by simp [go_sem]) ?_
        refine (catch_panicking w.heap.size _ _ _ hb0).mono ?_
        rintro e u' w'' ⟨rfl, rfl, hk, hbb⟩
        obtain ⟨d0, d1, _, _⟩ := vcells hk
        have hB := hbb w.heap.size w hbel (Nat.le_refl _) hbel.size
        simp [Leaves, settle, results, Try.results48, go_sem, d0, d1]
        exact ⟨rfl, hB⟩
      · have h0r := h0
        obtain ⟨x, rfl⟩ : ∃ x, l = [x] := by
          match l, h0, h2 with
          | [], h0, _ => exact absurd rfl h0
          | [x], _, _ => exact ⟨x, rfl⟩
          | [_, _], _, h2 => exact absurd rfl h2
          | _ :: _ :: _ :: _, h0, _ => exact absurd rfl h0
        have hx : (clean x).fits := clean_fits _ (HF.out x (by simp))
        obtain ⟨b, o, hA, hb, hc⟩ := (own_rd hVr).at_ (j := 0) (by simp [V.cells])
        subst hA
        have hcv : 1 ≤ cv := by obtain ⟨A', c', hh, hle⟩ := own_form hVr; cases hh; simpa using hle
        have hc0 : w1.cell? ⟨b, o, none⟩ = some (.int .i64 (clean x).k) := hc 0 _ rfl
        have hc1 : w1.cell? ⟨b, o + 1, none⟩ = some (.int .u64 (clean x).b) := hc 1 _ rfl
        clear hc hVr
        generalize resK op (List.map (fun x => (clean x).k) [x]) = rk at h0 ⊢
        have h0' : (rk == 0) = false := by rw [beq_eq_false_iff_ne]; exact h0
        simp only [List.length_cons, List.length_nil, Nat.zero_add, Nat.reduceAdd, Int.natCast_one, Int.cast_ofNat_Int] at *
        by_cases h4 : (clean x).k = 4
        · obtain ⟨r, hr'⟩ : ∃ r, realsV op (clean x) (clean x) = r := ⟨_, rfl⟩
          have e : R = some r := by
            rw [← hR]; unfold restV; rw [if_neg h0r, ← hr']; exact if_pos h4
          have hrl := reals_any1 op (clean x) b o cv w1 hcv hx hc1
          rw [hr'] at hrl
          clear hr' hR
          subst e
          have h4' : ((clean x).k == 4) = true := by rw [h4]; rfl
          go_wp2_with fail
          refine hrl.mono ?_
          rintro e w2 ⟨rfl, hb2⟩
          clear hrl
          obtain ⟨rk, rb⟩ := r
          have kr := hb0.old hb2
          obtain ⟨c0, c1, f0, f1⟩ := vcells kr
          obtain ⟨d0, d1, _, _⟩ := vcells (vput kr (.int .i64 rk) (.int .u64 rb))
          have hB : Below w.heap.size w ((w2.setCell ⟨w.heap.size, 0, none⟩ (.int .i64 rk)).setCell ⟨w.heap.size, 1, none⟩ (.int .u64 rb)) := ((hbel.trans (hb2.mono hbel.size)).setCell (Nat.le_refl _) _).setCell (Nat.le_refl _) _
          simp only [V.v]
          clear kr hb2 hc0 hc1
          go_wp2
          refine leaves_cons (f := 57) (args := #[.pointer (some ⟨w.heap.size, 0, none⟩)]) (by simp) (by simp [go_sem]) ?_
          refine (catch_idle w.heap.size _).mono ?_
          rintro e u' w'' ⟨rfl, rfl, rfl⟩
          simp [Leaves, settle, results, Try.results48, go_sem, d0, d1]
          exact ⟨rfl, hB⟩
        · have e : R = intsV op (clean x) (clean x) := by
            rw [← hR]; unfold restV; rw [if_neg h0r]; exact if_neg h4
          have h4' : ((clean x).k == 4) = false := by rw [beq_eq_false_iff_ne]; exact h4
          have hi := ints_any1 op (clean x) b o cv w1 hcv hc1
          rw [← e] at hi
          clear e hR
          go_wp2_with fail
          refine hi.mono ?_
          rintro e w2 ⟨rfl, hb2⟩
          have hb0 := hb0.old hb2
          have hbel := hbel.trans (hb2.mono hbel.size)
          clear hb2 hc0 hc1 hi
          cases R with
          | none =>
            simp only [endsV, thrown]
            go_wp2
            refine leaves_cons (f := 57) (args := #[.pointer (some ⟨w.heap.size, 0, none⟩)]) (by simp) (by simp [go_sem]) ?_
            refine (catch_panicking w.heap.size _ _ _ hb0).mono ?_
            rintro e u' w'' ⟨rfl, rfl, hk, hbb⟩
            obtain ⟨d0, d1, _, _⟩ := vcells hk
            have hB := hbb w.heap.size w hbel (Nat.le_refl _) hbel.size
            simp [Leaves, settle, results, Try.results48, go_sem, d0, d1]
            exact ⟨rfl, hB⟩
          | some r =>
            obtain ⟨rk, rb⟩ := r
            obtain ⟨c0, c1, f0, f1⟩ := vcells hb0
            obtain ⟨d0, d1, _, _⟩ := vcells (vput hb0 (.int .i64 rk) (.int .u64 rb))
            have hB : Below w.heap.size w ((w2.setCell ⟨w.heap.size, 0, none⟩ (.int .i64 rk)).setCell ⟨w.heap.size, 1, none⟩ (.int .u64 rb)) := (hbel.setCell (Nat.le_refl _) _).setCell (Nat.le_refl _) _
            simp only [endsV, V.v]
            clear hb0 hbel
            go_wp2
            refine leaves_cons (f := 57) (args := #[.pointer (some ⟨w.heap.size, 0, none⟩)]) (by simp) (by simp [go_sem]) ?_
            refine (catch_idle w.heap.size _).mono ?_
            rintro e u' w'' ⟨rfl, rfl, rfl⟩
            simp [Leaves, settle, results, Try.results48, go_sem, d0, d1]
            exact ⟨rfl, hB⟩

set_option maxHeartbeats 1000000 in
theorem apply_two (op : Int) (l : List V) (A : Option Addr) (c : Nat) (w : World) (hr : Rd w w.heap.size A (l.flatMap V.cells)) (hf : ∀ x ∈ l, x.fits) (hl : l.length * 16 ≤ 140737488351232) (h2 : l.length = 2) (h13 : (op == 13) = false) (h14 : (op == 14) = false) :
    Calls Try.prog 48 #[.int .i64 op, .slice A l.length c] w fun e w' => e = .returned ((restV op l).getD none0).v ∧ Below w.heap.size w w' := by
  have hmf : ∀ (fn : Fn) (first cap : Array Value) (w : World), (Instr.makeFunc fn first cap).run Try.prog w = .ok (.func fn first cap) w := fun _ _ _ _ => rfl
  obtain ⟨iV, hV, hV0, hV1, hV2⟩ := info_parts infoV
  obtain ⟨iI, hI, hI0, hI1, hI2⟩ := info_parts infoI
  have HF := Lib.hid hf
  clear hf
  generalize hR : restV op l = R
  have h2' : ((l.length : Int) == 2) = true := by rw [h2]; rfl
  have HL := Lib.hid h2
  clear h2
  go_enter_defers Try.func48, Try.ntmps48
  go_wp2
  go_loopw [5, 6, 36] (fun ks vs i wr => ∃ (k : Nat) (Ak Av : Option Addr) (ck cv : Nat), k ≤ l.length ∧ i = .int .i64 k ∧ ks = .slice Ak k ck ∧ vs = .slice Av k cv ∧ Below w.heap.size w wr ∧
      Bk wr w.heap.size 31 #[.int .i64 0, .int .u64 0] ∧
      wr.ownsRow (w.heap.size + 1) 3 1 ks k ((l.take k).map fun x => .int .i64 (clean x).k) ∧
      wr.ownsRow (w.heap.size + 1) 31 2 vs k ((l.take k).flatMap fun x => (clean x).cells)) (fun _ _ i _ => l.length - (intOf i).toNat)
  case atStart => exact ⟨0, none, none, 0, 0, Nat.zero_le _, rfl, rfl, rfl, (Below.refl _ _).alloc (Nat.le_refl _) _, Bk.new _ _ _, World.ownsRow_nil _ _ _ _, World.ownsRow_nil _ _ _ _⟩
  case round =>
    obtain ⟨k, Ak, Av, ck, cv, hk, rfl, rfl, rfl, hbel, hb0, hK, hVr⟩ := hrel
    by_cases hlt : k < l.length
    · obtain ⟨b, o, rfl, hb, hc⟩ := (hr.below hbel).elem (f := V.cells) (n := 2) (fun _ => rfl) (by omega) hlt
      have hc0 : wr.cell? ⟨b, o + k * 2, none⟩ = some (.int .i64 l[k].k) := hc 0 _ rfl
      have hc1 : wr.cell? ⟨b, o + k * 2 + 1, none⟩ = some (.int .u64 l[k].b) := hc 1 _ rfl
      have hfit : l[k].fits := HF.out _ (List.getElem_mem hlt)
      clear hc
      go_wp2_with fail
      refine (pclean_any l[k] hfit _).mono ?_
      rintro e w1 ⟨rfl, hb1⟩
      have hb0 := (hb0.alloc _).old hb1
      have hK := own_old (hK.alloc _) hb1
      have hVr := own_old (hVr.alloc _) hb1
      have hB : Below w.heap.size w w1 := (hbel.alloc hbel.size _).trans (hb1.mono (by have := hbel.size; simp; omega))
      have hz := hB.size
      simp only [V.v]
      clear hc0 hc1 hb1 hbel
      go_wp2
      have ne0 : some w.heap.size ≠ (Value.slice Av k cv).ownBlock := fun e => by have := (hVr.lt _ e.symm).1; omega
      have nk0 : some w.heap.size ≠ (Value.slice Ak k ck).ownBlock := fun e => by have := (hK.lt _ e.symm).1; omega
      have ne9 : ∀ g, w1.heap.size ≤ g → some g ≠ (Value.slice Av k cv).ownBlock := fun g hg e => by have := (hVr.lt _ e.symm).2; omega
      have nk9 : ∀ g, w1.heap.size ≤ g → some g ≠ (Value.slice Ak k ck).ownBlock := fun g hg e => by have := (hK.lt _ e.symm).2; omega
      have hVW := hVr.alloc (.cells #[.int .i64 (clean l[k]).k, .int .u64 (clean l[k]).b] 31)
      have hKW := hK.alloc (.cells #[.int .i64 (clean l[k]).k, .int .u64 (clean l[k]).b] 31)
      have hbW := hB.alloc hz (.cells #[.int .i64 (clean l[k]).k, .int .u64 (clean l[k]).b] 31)
      have hb0W := hb0.alloc (.cells #[.int .i64 (clean l[k]).k, .int .u64 (clean l[k]).b] 31)
      have h9W := Bk.new w1 31 #[.int .i64 (clean l[k]).k, .int .u64 (clean l[k]).b]
      have hWs : (w1.alloc (.cells #[.int .i64 (clean l[k]).k, .int .u64 (clean l[k]).b] 31)).heap.size = w1.heap.size + 1 := by simp
      have hz0 := hb0.lt
      have hl9 : l.length ≤ 8796093021952 := by omega
      generalize w1.alloc (.cells #[.int .i64 (clean l[k]).k, .int .u64 (clean l[k]).b] 31) = W at *
      have HS : Hid (∀ w' : World, Below w.heap.size w w' ∧ Bk w' w.heap.size 31 #[.int .i64 0, .int .u64 0] ∧ Bk w' w1.heap.size 31 #[.int .i64 (clean l[k]).k, .int .u64 (clean l[k]).b] → 
        (Below w.heap.size w w' ∧ Bk w' w.heap.size 31 #[.int .i64 0, .int .u64 0] ∧ Bk w' w1.heap.size 31 #[.int .i64 (clean l[k]).k, .int .u64 (clean l[k]).b]) ∧ w'.cell? ⟨w1.heap.size, 0, none⟩ = some (.int .i64 (clean l[k]).k) ∧ w'.cell? ⟨w1.heap.size, 1, none⟩ = some (.int .u64 (clean l[k]).b)) := Lib.hid fun w' h => ⟨h, h.2.2.cell 0, h.2.2.cell 1⟩
      clear hB hb0 hK hVr
      generalize hx : clean l[k] = x at *
      go_region_held3 (fun w' => (Below w.heap.size w w' ∧ Bk w' w.heap.size 31 #[.int .i64 0, .int .u64 0] ∧ Bk w' w1.heap.size 31 #[.int .i64 x.k, .int .u64 x.b]) ∧ w'.cell? ⟨w1.heap.size, 0, none⟩ = some (.int .i64 x.k) ∧ w'.cell? ⟨w1.heap.size, 1, none⟩ = some (.int .u64 x.b))
        (first | exact HS.out _ ⟨hbW, hb0W, h9W⟩ | exact HS.out _ ⟨hbW.drew, hb0W, h9W⟩ | exact HS.out _ hS3 | exact HS.out _ hS4 | (apply HS.out; apply keep_alloc_drew; assumption) | (apply HS.out; apply keep_alloc; assumption))
        (first
          | (refine step_append_lies _ (by rfl) _ _ 23 (by rfl) (w.heap.size + 1) 31 iV _ 2 16 Try.underlying23 hV hV0 hV1 hV2 rfl (by decide) (.slice Av k cv) k ((l.take k).flatMap fun x => (clean x).cells) (by rfl) (by first | exact own_drew (hVW.alloc _) | exact own_drew ((hVW.alloc _).alloc _)) _ 1 1 [.int .i64 x.k, .int .u64 x.b] (by rfl) (by rfl) (by first | exact World.news_of_block (Bk.newAt (by first | omega | (simp; omega)) _ _).drew | exact World.news_of_block ((Bk.newAt (by first | omega | (simp; omega)) _ _).alloc _).drew) (by intro u hu; simp at hu; rcases hu with rfl | rfl <;> rfl) (by omega) (by unfold maxLen; omega) (by omega) (by simp; omega) _ rfl ?_
             intro g cap w3 hVn hgrow hat hlt3
             have hKn := own_keep (by first | exact own_drew (hKW.alloc _) | exact own_drew ((hKW.alloc _).alloc _)) (by first | exact own_drew (hVW.alloc _) | exact own_drew ((hVW.alloc _).alloc _)) (by decide) hgrow
             have hS3 : Below w.heap.size w w3 ∧ Bk w3 w.heap.size 31 #[.int .i64 0, .int .u64 0] ∧ Bk w3 w1.heap.size 31 #[.int .i64 x.k, .int .u64 x.b] := (by apply keep_grown (hg := hgrow) (hV := by first | exact own_drew (hVW.alloc _) | exact own_drew ((hVW.alloc _).alloc _)) (n0 := ne0) (n9 := ne9 _ (Nat.le_refl _)); assumption)
             (first
               | have hbk := (Bk.newAt (w := W.alloc (.cells #[.int .i64 x.k, .int .u64 x.b] 31)) (g := w1.heap.size + 1 + 1) (by first | omega | (simp; omega)) 3 #[.int .i64 x.k]).drew.grown hgrow (ne9 _ (by omega))
               | have hbk := ((Bk.newAt (w := W) (g := w1.heap.size + 1) (by omega) 3 #[.int .i64 x.k]).alloc (.cells #[.int .i64 x.k, .int .u64 x.b] 31)).drew.grown hgrow (ne9 _ (by omega))
               | skip))
          | (refine step_append_lies _ (by rfl) _ _ 64 (by rfl) (w.heap.size + 1) 3 iI _ 1 8 Try.underlying64 hI hI0 hI1 hI2 rfl (by decide) (.slice Ak k ck) k ((l.take k).map fun x => .int .i64 (clean x).k) (by rfl) (by first | exact hKn | exact hKn.alloc _) _ 1 1 [.int .i64 x.k] (by rfl) (by rfl) (by first | exact World.news_of_block (Bk.new _ _ _) | exact World.news_of_block hbk) (by intro u hu; simp at hu; subst hu; rfl) (by omega) (by unfold maxLen; omega) (by omega) (by have := hS3.2.1.lt; (try simp); omega) _ rfl ?_
             intro g' cap' w4 hKf hgrow' hat' hlt4
             have hVf := own_keep (by first | exact hVn | exact hVn.alloc _) (by first | exact hKn | exact hKn.alloc _) (by decide) hgrow'
             have hS4 : Below w.heap.size w w4 ∧ Bk w4 w.heap.size 31 #[.int .i64 0, .int .u64 0] ∧ Bk w4 w1.heap.size 31 #[.int .i64 x.k, .int .u64 x.b] := (by apply keep_grown (hg := hgrow') (hV := by first | exact hKn | exact hKn.alloc _) (n0 := nk0) (n9 := nk9 _ (Nat.le_refl _)); assumption)))
      all_goals go_wp2
      all_goals go_roundw
      all_goals first
        | (refine ⟨k + 1, _, _, _, _, by omega, by go_num, rfl, rfl, hS4.1, hS4.2.1, ?_, ?_⟩
           · rw [List.take_succ_eq_append_getElem hlt, List.map_append, List.map_cons, List.map_nil, hx]; exact hKf
           · rw [← flat_snoc _ l k hlt, hx]; exact hVf)
        | (simp [intOf]; omega)
    · obtain rfl : k = l.length := by omega
      clear hlt hk
      rw [List.take_length] at hK hVr
      go_wp2_with fail
      have hkr : Rd wr wr.heap.size Ak (kcells (l.map fun x => (clean x).k)) := by have := own_rd hK; rw [kcells, List.map_map]; exact this
      have hrr := result_any op (l.map fun x => (clean x).k) Ak ck wr (by rw [List.length_map]; omega) hkr
      rw [List.length_map] at hrr
      refine hrr.mono ?_
      rintro e w1 ⟨rfl, hb1⟩
      have hb0 := hb0.old hb1
      have hVr := own_old hVr hb1
      have hbel : Below w.heap.size w w1 := hbel.trans (hb1.mono hbel.size)
      clear hb1 hK hkr hrr
      have hz := hb0.lt
      by_cases h0 : resK op (l.map fun x => (clean x).k) = 0
      · have e : R = none := by rw [← hR]; unfold restV; rw [if_pos h0]
        subst e
        clear hR
        rw [h0]
        go_wp2
        refine leaves_cons (f := 57) (args := #[.pointer (some ⟨w.heap.size, 0, none⟩)]) (by simp) (by simp [go_sem]) ?_
        refine (catch_panicking w.heap.size _ _ _ hb0).mono ?_
        rintro e u' w'' ⟨rfl, rfl, hk, hbb⟩
        obtain ⟨d0, d1, _, _⟩ := vcells hk
        have hB := hbb w.heap.size w hbel (Nat.le_refl _) hbel.size
        simp [Leaves, settle, results, Try.results48, go_sem, d0, d1]
        exact ⟨rfl, hB⟩
      · have h0r := h0
        obtain ⟨x, y, rfl⟩ : ∃ x y, l = [x, y] := by
          match l, HL.out with
          | [x, y], _ => exact ⟨x, y, rfl⟩
        have hx : (clean x).fits := clean_fits _ (HF.out x (by simp))
        have hy : (clean y).fits := clean_fits _ (HF.out y (by simp))
        obtain ⟨b, o, hA, hb, hc⟩ := (own_rd hVr).at_ (j := 0) (by simp [V.cells])
        subst hA
        have hcv : 2 ≤ cv := by obtain ⟨A', c', hh, hle⟩ := own_form hVr; cases hh; simpa using hle
        have hc0 : w1.cell? ⟨b, o, none⟩ = some (.int .i64 (clean x).k) := hc 0 _ rfl
        have hc1 : w1.cell? ⟨b, o + 1, none⟩ = some (.int .u64 (clean x).b) := hc 1 _ rfl
        have hc3 : w1.cell? ⟨b, o + 3, none⟩ = some (.int .u64 (clean y).b) := hc 3 _ rfl
        clear hc hVr
        generalize resK op (List.map (fun x => (clean x).k) [x, y]) = rk at h0 ⊢
        have h0' : (rk == 0) = false := by rw [beq_eq_false_iff_ne]; exact h0
        simp only [List.length_cons, List.length_nil, Nat.zero_add, Nat.reduceAdd, Int.natCast_one, Int.cast_ofNat_Int] at *
        by_cases h4 : (clean x).k = 4
        · obtain ⟨r, hr'⟩ : ∃ r, realsV op (clean x) (clean y) = r := ⟨_, rfl⟩
          have e : R = some r := by
            rw [← hR]; unfold restV; rw [if_neg h0r, ← hr']; exact if_pos h4
          have hrl := reals_any2 op (clean x) (clean y) b o cv w1 hcv hx hc1 hy hc3
          rw [hr'] at hrl
          clear hr' hR
          subst e
          have h4' : ((clean x).k == 4) = true := by rw [h4]; rfl
          go_wp2_with fail
          refine hrl.mono ?_
          rintro e w2 ⟨rfl, hb2⟩
          clear hrl
          obtain ⟨rk, rb⟩ := r
          have kr := hb0.old hb2
          obtain ⟨c0, c1, f0, f1⟩ := vcells kr
          obtain ⟨d0, d1, _, _⟩ := vcells (vput kr (.int .i64 rk) (.int .u64 rb))
          have hB : Below w.heap.size w ((w2.setCell ⟨w.heap.size, 0, none⟩ (.int .i64 rk)).setCell ⟨w.heap.size, 1, none⟩ (.int .u64 rb)) := ((hbel.trans (hb2.mono hbel.size)).setCell (Nat.le_refl _) _).setCell (Nat.le_refl _) _
          simp only [V.v]
          clear kr hb2 hc0 hc1
          go_wp2
          refine leaves_cons (f := 57) (args := #[.pointer (some ⟨w.heap.size, 0, none⟩)]) (by simp) (by simp [go_sem]) ?_
          refine (catch_idle w.heap.size _).mono ?_
          rintro e u' w'' ⟨rfl, rfl, rfl⟩
          simp [Leaves, settle, results, Try.results48, go_sem, d0, d1]
          exact ⟨rfl, hB⟩
        · have e : R = intsV op (clean x) (clean y) := by
            rw [← hR]; unfold restV; rw [if_neg h0r]; exact if_neg h4
          have h4' : ((clean x).k == 4) = false := by rw [beq_eq_false_iff_ne]; exact h4
          have hi := ints_any2 op (clean x) (clean y) b o cv w1 hcv hc1 hc3
          rw [← e] at hi
          clear e hR
          go_wp2_with fail
          refine hi.mono ?_
          rintro e w2 ⟨rfl, hb2⟩
          have hb0 := hb0.old hb2
          have hbel := hbel.trans (hb2.mono hbel.size)
          clear hb2 hc0 hc1 hi
          cases R with
          | none =>
            simp only [endsV, thrown]
            go_wp2
            refine leaves_cons (f := 57) (args := #[.pointer (some ⟨w.heap.size, 0, none⟩)]) (by simp) (by simp [go_sem]) ?_
            refine (catch_panicking w.heap.size _ _ _ hb0).mono ?_
            rintro e u' w'' ⟨rfl, rfl, hk, hbb⟩
            obtain ⟨d0, d1, _, _⟩ := vcells hk
            have hB := hbb w.heap.size w hbel (Nat.le_refl _) hbel.size
            simp [Leaves, settle, results, Try.results48, go_sem, d0, d1]
            exact ⟨rfl, hB⟩
          | some r =>
            obtain ⟨rk, rb⟩ := r
            obtain ⟨c0, c1, f0, f1⟩ := vcells hb0
            obtain ⟨d0, d1, _, _⟩ := vcells (vput hb0 (.int .i64 rk) (.int .u64 rb))
            have hB : Below w.heap.size w ((w2.setCell ⟨w.heap.size, 0, none⟩ (.int .i64 rk)).setCell ⟨w.heap.size, 1, none⟩ (.int .u64 rb)) := (hbel.setCell (Nat.le_refl _) _).setCell (Nat.le_refl _) _
            simp only [endsV, V.v]
            clear hb0 hbel
            go_wp2
            refine leaves_cons (f := 57) (args := #[.pointer (some ⟨w.heap.size, 0, none⟩)]) (by simp) (by simp [go_sem]) ?_
            refine (catch_idle w.heap.size _).mono ?_
            rintro e u' w'' ⟨rfl, rfl, rfl⟩
            simp [Leaves, settle, results, Try.results48, go_sem, d0, d1]
            exact ⟨rfl, hB⟩
end Go.Proofs.Ytadblgfppnpamaa
