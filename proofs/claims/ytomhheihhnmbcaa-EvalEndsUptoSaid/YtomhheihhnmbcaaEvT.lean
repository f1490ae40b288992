/- Layer 9: the document's Node and All. No conditions. -/
import Derived.Test.YtomhheihhnmbcaaEvQ
namespace Go.Proofs.Ytomhheihhnmbcaa
open Go.RowKit
set_option linter.unusedVariables false
set_option linter.unusedSimpArgs false

set_option maxRecDepth 100000 in
theorem rnode_const (kk : LookV) (kind : Int) (A : Option Addr) (args : List NodeV) (c : Nat) (vk : Int) (vb : Nat) (pos a : Int) (R : V) (w : World) (hR : clean ⟨vk, vb⟩ = R) (hv : vb < 18446744073709551616) :
    Calls Try.prog 14 #[.agg #[.int .i64 40, .int .i64 kind, .slice A args.length c, .int .i64 vk, .int .u64 vb, .int .i64 pos, .int .i64 a], .slice kk.EA kk.es.length kk.ec, .slice kk.BA kk.bs.length kk.bc, .int .i64 kk.cur] w fun e w' => e = .returned R.v ∧ Below w.heap.size w w' := by
  have HR := Lib.hid hR
  clear hR
  go_enter Try.func14, Try.ntmps14
  go_wp2_with fail
  refine (rclean_any ⟨vk, vb⟩ hv _).mono ?_
  rintro e w1 ⟨rfl, hb1⟩
  rw [HR.out]
  simp only [V.v]
  have kr := (Bk.newAt (w := w.alloc (.cells #[.int .i64 40, .int .i64 kind, .slice A args.length c, .int .i64 vk, .int .u64 vb, .int .i64 pos, .int .i64 a] 41)) (g := w.heap.size + 1) (by simp) 46 #[.int .i64 0, .int .u64 0]).old hb1
  have hbe : Below w.heap.size w w1 := (bel2 _ _ _).trans (hb1.mono (by simp; omega))
  clear hb1
  obtain ⟨c0, c1, f0, f1⟩ := vcells kr
  obtain ⟨d0, d1, _, _⟩ := vcells (vput kr (.int .i64 R.k) (.int .u64 R.b))
  clear kr
  go_wp2_with fail
  exact bodyPost_ret (v := .agg #[.int .i64 R.k, .int .u64 R.b]) (by simp [results, Try.results14, go_sem, d0, d1]) rfl ⟨rfl, (hbe.setCell (by first | (simp; done) | (simp; omega)) _).setCell (by first | (simp; done) | (simp; omega)) _⟩

set_option maxRecDepth 100000 in
theorem rnode_cur (kk : LookV) (kind : Int) (A : Option Addr) (args : List NodeV) (c : Nat) (vk : Int) (vb : Nat) (pos a : Int) (R : V) (w : World) (hR : attrL kk.es kk.cur a = R) (hk : kk.ok w w.heap.size) :
    Calls Try.prog 14 #[.agg #[.int .i64 41, .int .i64 kind, .slice A args.length c, .int .i64 vk, .int .u64 vb, .int .i64 pos, .int .i64 a], .slice kk.EA kk.es.length kk.ec, .slice kk.BA kk.bs.length kk.bc, .int .i64 kk.cur] w fun e w' => e = .returned R.v ∧ Below w.heap.size w w' := by
  have HR := Lib.hid hR
  have HK := Lib.hid hk
  clear hR hk
  go_enter Try.func14, Try.ntmps14
  go_wp2_with fail
  refine (rattr_any kk kk.cur a _ (HK.out.old (bel2 _ _ _))).mono ?_
  rintro e w1 ⟨rfl, hb1⟩
  rw [HR.out]
  simp only [V.v]
  have kr := (Bk.newAt (w := w.alloc (.cells #[.int .i64 41, .int .i64 kind, .slice A args.length c, .int .i64 vk, .int .u64 vb, .int .i64 pos, .int .i64 a] 41)) (g := w.heap.size + 1) (by simp) 46 #[.int .i64 0, .int .u64 0]).old hb1
  have hbe : Below w.heap.size w w1 := (bel2 _ _ _).trans (hb1.mono (by simp; omega))
  clear hb1
  obtain ⟨c0, c1, f0, f1⟩ := vcells kr
  obtain ⟨d0, d1, _, _⟩ := vcells (vput kr (.int .i64 R.k) (.int .u64 R.b))
  clear kr
  go_wp2_with fail
  exact bodyPost_ret (v := .agg #[.int .i64 R.k, .int .u64 R.b]) (by simp [results, Try.results14, go_sem, d0, d1]) rfl ⟨rfl, (hbe.setCell (by first | (simp; done) | (simp; omega)) _).setCell (by first | (simp; done) | (simp; omega)) _⟩

set_option maxRecDepth 100000 in
set_option maxHeartbeats 2000000 in
theorem rnode_of (kk : LookV) (kind : Int) (A : Option Addr) (args : List NodeV) (c : Nat) (vk : Int) (vb : Nat) (pos a : Int) (R : V) (w : World) (hR : overB 42 ((hasL kk.bs pos).map fun at_ => attrL kk.es at_ a) = R) (hk : kk.ok w w.heap.size) :
    Calls Try.prog 14 #[.agg #[.int .i64 42, .int .i64 kind, .slice A args.length c, .int .i64 vk, .int .u64 vb, .int .i64 pos, .int .i64 a], .slice kk.EA kk.es.length kk.ec, .slice kk.BA kk.bs.length kk.bc, .int .i64 kk.cur] w fun e w' => e = .returned R.v ∧ Below w.heap.size w w' := by
  have HR := Lib.hid hR
  have HK := Lib.hid hk
  obtain ⟨iV, hV, hV0, hV1, hV2⟩ := info_parts infoRV
  clear hR hk
  by_cases hp0 : 0 ≤ pos
  · obtain ⟨n, rfl⟩ : ∃ n : Nat, pos = n := ⟨pos.toNat, by omega⟩
    by_cases hp1 : n < kk.bs.length
    · as_aux_lemma =>
      have hl0 : hasL kk.bs n = kk.bs[n].l := by unfold hasL; rw [dif_pos ⟨hp0, by simpa using hp1⟩]; rfl
      obtain ⟨bB, oB, hBA, hbB, hcB⟩ := HK.out.brd.elem (n := 1) (fun _ => rfl) (by omega) hp1
      have hcB0 : w.cell? ⟨bB, oB + n * 1, none⟩ = some (.slice kk.bs[n].A kk.bs[n].l.length kk.bs[n].c) := hcB 0 _ rfl
      rw [Nat.mul_one] at hcB0
      have hin := HK.out.beach kk.bs[n] (by simp)
      have hlb := HK.out.blen
      have HRD := Lib.hid hin.1
      have hlen := hin.2
      have hR2 := HR.out
      rw [hl0] at hR2
      clear hcB hin hl0 HR
      generalize kk.bs[n] = IV at *
      obtain ⟨A9, c9, l⟩ := IV
      simp only at hcB0 HRD hlen hR2
      have qB : ∀ x1 x2 : Obj, ((w.alloc x1).alloc x2).cell? ⟨bB, oB + n, none⟩ = some (.slice A9 l.length c9) := fun _ _ => (bcell (bel2 _ _ _) _ _ hbB).trans hcB0
      have HR := Lib.hid hR2
      have hlt1 : (n : Int) < kk.bs.length := by omega
      clear hR2 hcB0
      rw [hBA]
      go_enter Try.func14, Try.ntmps14
      go_wp2_with fail
      go_loopw [9, 57] (fun vs i wr => ∃ (k : Nat) (Av : Option Addr) (cv : Nat), k ≤ l.length ∧ i = .int .i64 k ∧ vs = .slice Av k cv ∧ Below w.heap.size w wr ∧ Bk wr w.heap.size 41 #[.int .i64 42, .int .i64 kind, .slice A args.length c, .int .i64 vk, .int .u64 vb, .int .i64 (n : Nat), .int .i64 a] ∧ Bk wr (w.heap.size + 1) 46 #[.int .i64 0, .int .u64 0] ∧
          wr.ownsRow (w.heap.size + 2) 46 2 vs k ((l.take k).flatMap fun at_ => (attrL kk.es at_ a).cells)) (fun _ i _ => l.length - (intOf i).toNat)
      case atStart =>
        refine ⟨0, none, 0, Nat.zero_le _, rfl, rfl, bel2 _ _ _, (Bk.new _ _ _).alloc _, ?_, World.ownsRow_nil _ _ _ _⟩
        exact Bk.newAt (by simp) _ _
      case round =>
        obtain ⟨k, Av, cv, hk, rfl, rfl, hbel, kn, kr, hown⟩ := hrel
        by_cases hlt : k < l.length
        · as_aux_lemma =>
            obtain ⟨b, o, rfl, hb, hc⟩ := (HRD.out.below hbel).elem1 (f := fun n : Int => Value.int .i64 n) hlt
            have hatt := rattr_any kk l[k] a wr (HK.out.old hbel)
            have hfs := flat_snoc (fun at_ => (attrL kk.es at_ a).cells) l k hlt
            generalize l[k] = at_ at *
            generalize attrL kk.es at_ a = X at *
            have HAT := Lib.hid hatt
            have HFS := Lib.hid hfs
            have n6 : wr.cell? ⟨w.heap.size, 6, none⟩ = some (.int .i64 a) := kn.cell 6
            clear hatt hfs
            go_wp2_with fail
            refine HAT.out.mono ?_
            rintro e w1 ⟨rfl, hb1⟩
            clear HAT n6
            have kn := kn.old hb1
            have kr := kr.old hb1
            have hown := own_old hown hb1
            have hbel : Below w.heap.size w w1 := hbel.trans (hb1.mono hbel.size)
            have hz := kr.lt
            clear hb1
            simp only [V.v]
            go_wp2_with (at_builtin; refine wpList_append_rd rfl _ _ 68 rfl (w.heap.size + 2) 46 iV _ 2 16 Try.underlying68 hV hV0 hV1 hV2 rfl (by decide) (.slice Av k cv) k _ rfl (hown.alloc _) (w1.heap.size + 1) (some ⟨w1.heap.size, 0, none⟩) 1 1 X.cells rfl (Rd.lit rfl _ _) rfl ?c2 ?c3 ?c4 ?c5 ?_)
            case c2 => intro u hu; simp [V.cells] at hu; rcases hu with rfl | rfl <;> rfl
            case c3 => unfold maxLen; omega
            case c4 => omega
            case c5 => simp; omega
            intro A3 c3 w2 hown2 hg _
            have kn2 := (kn.alloc _).grown hg (own_ne_bk hown kn (by decide))
            have kr2 := (kr.alloc _).grown hg (fun e => by have := (hown.lt _ e.symm).1; omega)
            have hbel2 : Below w.heap.size w w2 := below_own (hbel.alloc hbel.size _) (hown.alloc _) (by omega) hg (by simp; omega)
            rw [HFS.out] at hown2
            clear hg hown kn kr hbel
            go_wp2
            go_roundw
            case rel => exact ⟨k + 1, A3, c3, by omega, by go_num, rfl, hbel2, kn2, kr2, hown2⟩
            case measure => simp [intOf]; omega
        · as_aux_lemma =>
            obtain rfl : k = l.length := by omega
            rw [List.take_length] at hown
            have hfm : (l.flatMap fun at_ => (attrL kk.es at_ a).cells) = (l.map fun at_ => attrL kk.es at_ a).flatMap V.cells := by rw [List.flatMap_map]
            rw [hfm] at hown
            have hov := rover_any 42 (l.map fun at_ => attrL kk.es at_ a) Av cv wr (own_rd hown) (by intro y hy; obtain ⟨q, _, rfl⟩ := List.mem_map.1 hy; exact attrL_fits HK.out.each _ _) (by rw [List.length_map]; exact hlen) (by rw [List.length_map]; obtain ⟨A', c', he, hle⟩ := own_form hown; injection he with h1 h2 h3; omega)
            rw [HR.out, List.length_map] at hov
            have HOV := Lib.hid hov
            have n0 : wr.cell? ⟨w.heap.size, 0, none⟩ = some (.int .i64 42) := kn.cell 0
            clear hov hown hfm HRD HK HR hlt
            go_wp2_with fail
            refine HOV.out.mono ?_
            rintro e w1 ⟨rfl, hb1⟩
            simp only [V.v]
            have kr := kr.old hb1
            have hbe : Below w.heap.size w w1 := hbel.trans (hb1.mono hbel.size)
            clear hb1
            obtain ⟨c0, c1, f0, f1⟩ := vcells kr
            obtain ⟨d0, d1, _, _⟩ := vcells (vput kr (.int .i64 R.k) (.int .u64 R.b))
            clear kr
            go_wp2_with fail
            exact bodyPost_ret (v := .agg #[.int .i64 R.k, .int .u64 R.b]) (by simp [results, Try.results14, go_sem, d0, d1]) rfl ⟨rfl, (hbe.setCell (by first | (simp; done) | (simp; omega)) _).setCell (by first | (simp; done) | (simp; omega)) _⟩
    · as_aux_lemma =>
      have hl0 : hasL kk.bs n = [] := by unfold hasL; rw [dif_neg (by simp; omega)]
      have hR2 := HR.out
      rw [hl0] at hR2
      have hlb := HK.out.blen
      have hov := rover_any 42 [] none 0 ((w.alloc (.cells #[.int .i64 42, .int .i64 kind, .slice A args.length c, .int .i64 vk, .int .u64 vb, .int .i64 (n : Nat), .int .i64 a] 41)).alloc (.cells #[.int .i64 0, .int .u64 0] 46)) Rd.nil (by simp) (by simp) (by simp)
      rw [show overB 42 [] = R from hR2] at hov
      have HOV := Lib.hid hov
      clear hov hR2 hl0 HR HK
      go_enter Try.func14, Try.ntmps14
      go_wp2_with fail
      refine HOV.out.mono ?_
      rintro e w1 ⟨rfl, hb1⟩
      simp only [V.v]
      have kr := (Bk.newAt (w := w.alloc (.cells #[.int .i64 42, .int .i64 kind, .slice A args.length c, .int .i64 vk, .int .u64 vb, .int .i64 (n : Nat), .int .i64 a] 41)) (g := w.heap.size + 1) (by simp) 46 #[.int .i64 0, .int .u64 0]).old hb1
      have hbe : Below w.heap.size w w1 := (bel2 _ _ _).trans (hb1.mono (by simp; omega))
      clear hb1
      obtain ⟨c0, c1, f0, f1⟩ := vcells kr
      obtain ⟨d0, d1, _, _⟩ := vcells (vput kr (.int .i64 R.k) (.int .u64 R.b))
      clear kr
      go_wp2_with fail
      exact bodyPost_ret (v := .agg #[.int .i64 R.k, .int .u64 R.b]) (by simp [results, Try.results14, go_sem, d0, d1]) rfl ⟨rfl, (hbe.setCell (by first | (simp; done) | (simp; omega)) _).setCell (by first | (simp; done) | (simp; omega)) _⟩
  · as_aux_lemma =>
      have hl0 : hasL kk.bs pos = [] := by unfold hasL; rw [dif_neg (fun h => hp0 h.1)]
      have hR2 := HR.out
      rw [hl0] at hR2
      have hov := rover_any 42 [] none 0 ((w.alloc (.cells #[.int .i64 42, .int .i64 kind, .slice A args.length c, .int .i64 vk, .int .u64 vb, .int .i64 pos, .int .i64 a] 41)).alloc (.cells #[.int .i64 0, .int .u64 0] 46)) Rd.nil (by simp) (by simp) (by simp)
      rw [show overB 42 [] = R from hR2] at hov
      have HOV := Lib.hid hov
      clear hov hR2 hl0 HR HK
      go_enter Try.func14, Try.ntmps14
      go_wp2_with fail
      refine HOV.out.mono ?_
      rintro e w1 ⟨rfl, hb1⟩
      simp only [V.v]
      have kr := (Bk.newAt (w := w.alloc (.cells #[.int .i64 42, .int .i64 kind, .slice A args.length c, .int .i64 vk, .int .u64 vb, .int .i64 pos, .int .i64 a] 41)) (g := w.heap.size + 1) (by simp) 46 #[.int .i64 0, .int .u64 0]).old hb1
      have hbe : Below w.heap.size w w1 := (bel2 _ _ _).trans (hb1.mono (by simp; omega))
      clear hb1
      obtain ⟨c0, c1, f0, f1⟩ := vcells kr
      obtain ⟨d0, d1, _, _⟩ := vcells (vput kr (.int .i64 R.k) (.int .u64 R.b))
      clear kr
      go_wp2_with fail
      exact bodyPost_ret (v := .agg #[.int .i64 R.k, .int .u64 R.b]) (by simp [results, Try.results14, go_sem, d0, d1]) rfl ⟨rfl, (hbe.setCell (by first | (simp; done) | (simp; omega)) _).setCell (by first | (simp; done) | (simp; omega)) _⟩

set_option maxRecDepth 100000 in
set_option maxHeartbeats 2000000 in
theorem rnode_agg (kk : LookV) (op : Int) (h25 : 25 ≤ op) (h31 : op ≤ 31) (kind : Int) (A : Option Addr) (args : List NodeV) (c : Nat) (vk : Int) (vb : Nat) (pos a : Int) (R : V) (w : World) (hR : overB op ((hasL kk.bs pos).map fun at_ => attrL kk.es at_ a) = R) (hk : kk.ok w w.heap.size) :
    Calls Try.prog 14 #[.agg #[.int .i64 op, .int .i64 kind, .slice A args.length c, .int .i64 vk, .int .u64 vb, .int .i64 pos, .int .i64 a], .slice kk.EA kk.es.length kk.ec, .slice kk.BA kk.bs.length kk.bc, .int .i64 kk.cur] w fun e w' => e = .returned R.v ∧ Below w.heap.size w w' := by
  have HR := Lib.hid hR
  have HK := Lib.hid hk
  obtain ⟨iV, hV, hV0, hV1, hV2⟩ := info_parts infoRV
  have g40 : (op == 40) = false := by rw [beq_eq_false_iff_ne]; omega
  have g41 : (op == 41) = false := by rw [beq_eq_false_iff_ne]; omega
  have g42 : (op == 42) = false := by rw [beq_eq_false_iff_ne]; omega
  clear hR hk
  by_cases hp0 : 0 ≤ pos
  · obtain ⟨n, rfl⟩ : ∃ n : Nat, pos = n := ⟨pos.toNat, by omega⟩
    by_cases hp1 : n < kk.bs.length
    · as_aux_lemma =>
      have hl0 : hasL kk.bs n = kk.bs[n].l := by unfold hasL; rw [dif_pos ⟨hp0, by simpa using hp1⟩]; rfl
      obtain ⟨bB, oB, hBA, hbB, hcB⟩ := HK.out.brd.elem (n := 1) (fun _ => rfl) (by omega) hp1
      have hcB0 : w.cell? ⟨bB, oB + n * 1, none⟩ = some (.slice kk.bs[n].A kk.bs[n].l.length kk.bs[n].c) := hcB 0 _ rfl
      rw [Nat.mul_one] at hcB0
      have hin := HK.out.beach kk.bs[n] (by simp)
      have hlb := HK.out.blen
      have HRD := Lib.hid hin.1
      have hlen := hin.2
      have hR2 := HR.out
      rw [hl0] at hR2
      clear hcB hin hl0 HR
      generalize kk.bs[n] = IV at *
      obtain ⟨A9, c9, l⟩ := IV
      simp only at hcB0 HRD hlen hR2
      have qB : ∀ x1 x2 : Obj, ((w.alloc x1).alloc x2).cell? ⟨bB, oB + n, none⟩ = some (.slice A9 l.length c9) := fun _ _ => (bcell (bel2 _ _ _) _ _ hbB).trans hcB0
      have HR := Lib.hid hR2
      have hlt1 : (n : Int) < kk.bs.length := by omega
      clear hR2 hcB0
      rw [hBA]
      go_enter Try.func14, Try.ntmps14
      go_wp2_with fail
      go_loopw [9, 57] (fun vs i wr => ∃ (k : Nat) (Av : Option Addr) (cv : Nat), k ≤ l.length ∧ i = .int .i64 k ∧ vs = .slice Av k cv ∧ Below w.heap.size w wr ∧ Bk wr w.heap.size 41 #[.int .i64 op, .int .i64 kind, .slice A args.length c, .int .i64 vk, .int .u64 vb, .int .i64 (n : Nat), .int .i64 a] ∧ Bk wr (w.heap.size + 1) 46 #[.int .i64 0, .int .u64 0] ∧
          wr.ownsRow (w.heap.size + 2) 46 2 vs k ((l.take k).flatMap fun at_ => (attrL kk.es at_ a).cells)) (fun _ i _ => l.length - (intOf i).toNat)
      case atStart =>
        refine ⟨0, none, 0, Nat.zero_le _, rfl, rfl, bel2 _ _ _, (Bk.new _ _ _).alloc _, ?_, World.ownsRow_nil _ _ _ _⟩
        exact Bk.newAt (by simp) _ _
      case round =>
        obtain ⟨k, Av, cv, hk, rfl, rfl, hbel, kn, kr, hown⟩ := hrel
        by_cases hlt : k < l.length
        · as_aux_lemma =>
            obtain ⟨b, o, rfl, hb, hc⟩ := (HRD.out.below hbel).elem1 (f := fun n : Int => Value.int .i64 n) hlt
            have hatt := rattr_any kk l[k] a wr (HK.out.old hbel)
            have hfs := flat_snoc (fun at_ => (attrL kk.es at_ a).cells) l k hlt
            generalize l[k] = at_ at *
            generalize attrL kk.es at_ a = X at *
            have HAT := Lib.hid hatt
            have HFS := Lib.hid hfs
            have n6 : wr.cell? ⟨w.heap.size, 6, none⟩ = some (.int .i64 a) := kn.cell 6
            clear hatt hfs
            go_wp2_with fail
            refine HAT.out.mono ?_
            rintro e w1 ⟨rfl, hb1⟩
            clear HAT n6
            have kn := kn.old hb1
            have kr := kr.old hb1
            have hown := own_old hown hb1
            have hbel : Below w.heap.size w w1 := hbel.trans (hb1.mono hbel.size)
            have hz := kr.lt
            clear hb1
            simp only [V.v]
            go_wp2_with (at_builtin; refine wpList_append_rd rfl _ _ 68 rfl (w.heap.size + 2) 46 iV _ 2 16 Try.underlying68 hV hV0 hV1 hV2 rfl (by decide) (.slice Av k cv) k _ rfl (hown.alloc _) (w1.heap.size + 1) (some ⟨w1.heap.size, 0, none⟩) 1 1 X.cells rfl (Rd.lit rfl _ _) rfl ?c2 ?c3 ?c4 ?c5 ?_)
            case c2 => intro u hu; simp [V.cells] at hu; rcases hu with rfl | rfl <;> rfl
            case c3 => unfold maxLen; omega
            case c4 => omega
            case c5 => simp; omega
            intro A3 c3 w2 hown2 hg _
            have kn2 := (kn.alloc _).grown hg (own_ne_bk hown kn (by decide))
            have kr2 := (kr.alloc _).grown hg (fun e => by have := (hown.lt _ e.symm).1; omega)
            have hbel2 : Below w.heap.size w w2 := below_own (hbel.alloc hbel.size _) (hown.alloc _) (by omega) hg (by simp; omega)
            rw [HFS.out] at hown2
            clear hg hown kn kr hbel
            go_wp2
            go_roundw
            case rel => exact ⟨k + 1, A3, c3, by omega, by go_num, rfl, hbel2, kn2, kr2, hown2⟩
            case measure => simp [intOf]; omega
        · as_aux_lemma =>
            obtain rfl : k = l.length := by omega
            rw [List.take_length] at hown
            have hfm : (l.flatMap fun at_ => (attrL kk.es at_ a).cells) = (l.map fun at_ => attrL kk.es at_ a).flatMap V.cells := by rw [List.flatMap_map]
            rw [hfm] at hown
            have hov := rover_any op (l.map fun at_ => attrL kk.es at_ a) Av cv wr (own_rd hown) (by intro y hy; obtain ⟨q, _, rfl⟩ := List.mem_map.1 hy; exact attrL_fits HK.out.each _ _) (by rw [List.length_map]; exact hlen) (by rw [List.length_map]; obtain ⟨A', c', he, hle⟩ := own_form hown; injection he with h1 h2 h3; omega)
            rw [HR.out, List.length_map] at hov
            have HOV := Lib.hid hov
            have n0 : wr.cell? ⟨w.heap.size, 0, none⟩ = some (.int .i64 op) := kn.cell 0
            clear hov hown hfm HRD HK HR hlt
            go_wp2_with fail
            refine HOV.out.mono ?_
            rintro e w1 ⟨rfl, hb1⟩
            simp only [V.v]
            have kr := kr.old hb1
            have hbe : Below w.heap.size w w1 := hbel.trans (hb1.mono hbel.size)
            clear hb1
            obtain ⟨c0, c1, f0, f1⟩ := vcells kr
            obtain ⟨d0, d1, _, _⟩ := vcells (vput kr (.int .i64 R.k) (.int .u64 R.b))
            clear kr
            go_wp2_with fail
            exact bodyPost_ret (v := .agg #[.int .i64 R.k, .int .u64 R.b]) (by simp [results, Try.results14, go_sem, d0, d1]) rfl ⟨rfl, (hbe.setCell (by first | (simp; done) | (simp; omega)) _).setCell (by first | (simp; done) | (simp; omega)) _⟩
    · as_aux_lemma =>
      have hl0 : hasL kk.bs n = [] := by unfold hasL; rw [dif_neg (by simp; omega)]
      have hR2 := HR.out
      rw [hl0] at hR2
      have hlb := HK.out.blen
      have hov := rover_any op [] none 0 ((w.alloc (.cells #[.int .i64 op, .int .i64 kind, .slice A args.length c, .int .i64 vk, .int .u64 vb, .int .i64 (n : Nat), .int .i64 a] 41)).alloc (.cells #[.int .i64 0, .int .u64 0] 46)) Rd.nil (by simp) (by simp) (by simp)
      rw [show overB op [] = R from hR2] at hov
      have HOV := Lib.hid hov
      clear hov hR2 hl0 HR HK
      go_enter Try.func14, Try.ntmps14
      go_wp2_with fail
      refine HOV.out.mono ?_
      rintro e w1 ⟨rfl, hb1⟩
      simp only [V.v]
      have kr := (Bk.newAt (w := w.alloc (.cells #[.int .i64 op, .int .i64 kind, .slice A args.length c, .int .i64 vk, .int .u64 vb, .int .i64 (n : Nat), .int .i64 a] 41)) (g := w.heap.size + 1) (by simp) 46 #[.int .i64 0, .int .u64 0]).old hb1
      have hbe : Below w.heap.size w w1 := (bel2 _ _ _).trans (hb1.mono (by simp; omega))
      clear hb1
      obtain ⟨c0, c1, f0, f1⟩ := vcells kr
      obtain ⟨d0, d1, _, _⟩ := vcells (vput kr (.int .i64 R.k) (.int .u64 R.b))
      clear kr
      go_wp2_with fail
      exact bodyPost_ret (v := .agg #[.int .i64 R.k, .int .u64 R.b]) (by simp [results, Try.results14, go_sem, d0, d1]) rfl ⟨rfl, (hbe.setCell (by first | (simp; done) | (simp; omega)) _).setCell (by first | (simp; done) | (simp; omega)) _⟩
  · as_aux_lemma =>
      have hl0 : hasL kk.bs pos = [] := by unfold hasL; rw [dif_neg (fun h => hp0 h.1)]
      have hR2 := HR.out
      rw [hl0] at hR2
      have hov := rover_any op [] none 0 ((w.alloc (.cells #[.int .i64 op, .int .i64 kind, .slice A args.length c, .int .i64 vk, .int .u64 vb, .int .i64 pos, .int .i64 a] 41)).alloc (.cells #[.int .i64 0, .int .u64 0] 46)) Rd.nil (by simp) (by simp) (by simp)
      rw [show overB op [] = R from hR2] at hov
      have HOV := Lib.hid hov
      clear hov hR2 hl0 HR HK
      go_enter Try.func14, Try.ntmps14
      go_wp2_with fail
      refine HOV.out.mono ?_
      rintro e w1 ⟨rfl, hb1⟩
      simp only [V.v]
      have kr := (Bk.newAt (w := w.alloc (.cells #[.int .i64 op, .int .i64 kind, .slice A args.length c, .int .i64 vk, .int .u64 vb, .int .i64 pos, .int .i64 a] 41)) (g := w.heap.size + 1) (by simp) 46 #[.int .i64 0, .int .u64 0]).old hb1
      have hbe : Below w.heap.size w w1 := (bel2 _ _ _).trans (hb1.mono (by simp; omega))
      clear hb1
      obtain ⟨c0, c1, f0, f1⟩ := vcells kr
      obtain ⟨d0, d1, _, _⟩ := vcells (vput kr (.int .i64 R.k) (.int .u64 R.b))
      clear kr
      go_wp2_with fail
      exact bodyPost_ret (v := .agg #[.int .i64 R.k, .int .u64 R.b]) (by simp [results, Try.results14, go_sem, d0, d1]) rfl ⟨rfl, (hbe.setCell (by first | (simp; done) | (simp; omega)) _).setCell (by first | (simp; done) | (simp; omega)) _⟩

set_option maxRecDepth 100000 in
set_option maxHeartbeats 2000000 in
theorem rnode_op (kk : LookV) (d : Nat) (ih : ∀ (n : NodeV) (w : World), okN d n w w.heap.size → kk.ok w w.heap.size → Calls Try.prog 14 #[n.val, .slice kk.EA kk.es.length kk.ec, .slice kk.BA kk.bs.length kk.bc, .int .i64 kk.cur] w fun e w' => e = .returned (refN kk d n).v ∧ Below w.heap.size w w')
    (op : Int) (h40 : op ≠ 40) (h41 : op ≠ 41) (hop : ¬ (op = 42 ∨ (25 ≤ op ∧ op ≤ 31))) (kind : Int) (A : Option Addr) (args : List NodeV) (c : Nat) (vk : Int) (vb : Nat) (pos a : Int) (R : V) (w : World) (hR : applyV op (args.map (refN kk d)) = R) (hk : kk.ok w w.heap.size)
    (hr : Rd w w.heap.size A (args.flatMap NodeV.cells)) (hlen : args.length ≤ 1048576) (hall : ∀ x ∈ args, okN d x w w.heap.size) :
    Calls Try.prog 14 #[.agg #[.int .i64 op, .int .i64 kind, .slice A args.length c, .int .i64 vk, .int .u64 vb, .int .i64 pos, .int .i64 a], .slice kk.EA kk.es.length kk.ec, .slice kk.BA kk.bs.length kk.bc, .int .i64 kk.cur] w fun e w' => e = .returned R.v ∧ Below w.heap.size w w' := by
  have HR := Lib.hid hR
  have HK := Lib.hid hk
  have HA := Lib.hid hall
  have HF : Hid (∀ y ∈ args.map (refN kk d), y.fits) := Lib.hid (by intro y hy; obtain ⟨q, hq, rfl⟩ := List.mem_map.1 hy; rw [← eval_ref hk]; exact evalN_fits hk (hall q hq))
  have HI := Lib.hid ih
  have HRD := Lib.hid hr
  obtain ⟨iV, hV, hV0, hV1, hV2⟩ := info_parts infoRV
  have g40 : (op == 40) = false := by rw [beq_eq_false_iff_ne]; exact h40
  have g41 : (op == 41) = false := by rw [beq_eq_false_iff_ne]; exact h41
  have g42 : (op == 42) = false := by rw [beq_eq_false_iff_ne]; exact fun h => hop (.inl h)
  have g26 : op < 25 ∨ ¬ op ≤ 31 := by omega
  clear hR hk hall ih hr h40 h41 hop
  by_cases h25 : 25 ≤ op
  · have h31 : ¬ op ≤ 31 := by omega
    clear g26
    go_enter Try.func14, Try.ntmps14
    go_wp2_with fail
    go_loopw [12, 77] (fun vs i wr => ∃ (k : Nat) (Av : Option Addr) (cv : Nat), k ≤ args.length ∧ i = .int .i64 k ∧ vs = .slice Av k cv ∧ Below w.heap.size w wr ∧ Bk wr w.heap.size 41 #[.int .i64 op, .int .i64 kind, .slice A args.length c, .int .i64 vk, .int .u64 vb, .int .i64 pos, .int .i64 a] ∧ Bk wr (w.heap.size + 1) 46 #[.int .i64 0, .int .u64 0] ∧
        wr.ownsRow (w.heap.size + 2) 46 2 vs k (((args.take k).map (refN kk d)).flatMap V.cells)) (fun _ i _ => args.length - (intOf i).toNat)
    case atStart =>
      refine ⟨0, none, 0, Nat.zero_le _, rfl, rfl, bel2 _ _ _, (Bk.new _ _ _).alloc _, ?_, World.ownsRow_nil _ _ _ _⟩
      exact Bk.newAt (by simp) _ _
    case round =>
      obtain ⟨k, Av, cv, hk, rfl, rfl, hbel, kn, kr, hown⟩ := hrel
      by_cases hlt : k < args.length
      · as_aux_lemma =>
          obtain ⟨b, o, rfl, hb, hc⟩ := (HRD.out.below hbel).elem (f := NodeV.cells) (n := 7) NodeV.len (by omega) hlt
          have hx := HA.out args[k] (by simp)
          have hfs := flat_snoc V.cells (args.map (refN kk d)) k (by simpa using hlt)
          rw [List.getElem_map] at hfs
          generalize args[k] = x at *
          obtain ⟨op2, kind2, A2, c2, args2, vk2, vb2, pos2, a2⟩ := x
          have hc0 : wr.cell? ⟨b, o + k * 7, none⟩ = some (.int .i64 op2) := hc 0 _ rfl
          have hc1 : wr.cell? ⟨b, o + k * 7 + 1, none⟩ = some (.int .i64 kind2) := hc 1 _ rfl
          have hc2 : wr.cell? ⟨b, o + k * 7 + 2, none⟩ = some (.slice A2 args2.length c2) := hc 2 _ rfl
          have hc3 : wr.cell? ⟨b, o + k * 7 + 3, none⟩ = some (.int .i64 vk2) := hc 3 _ rfl
          have hc4 : wr.cell? ⟨b, o + k * 7 + 4, none⟩ = some (.int .u64 vb2) := hc 4 _ rfl
          have hc5 : wr.cell? ⟨b, o + k * 7 + 5, none⟩ = some (.int .i64 pos2) := hc 5 _ rfl
          have hc6 : wr.cell? ⟨b, o + k * 7 + 6, none⟩ = some (.int .i64 a2) := hc 6 _ rfl
          have n2 : wr.cell? ⟨w.heap.size, 2, none⟩ = some (.slice (some ⟨b, o, none⟩) args.length c) := kn.cell 2
          have hrec := HI.out _ _ (hx.old hbel) (HK.out.old hbel)
          generalize refN kk d (.mk op2 kind2 A2 c2 args2 vk2 vb2 pos2 a2) = X at *
          have HREC := Lib.hid hrec
          have HFS := Lib.hid hfs
          clear hc hrec hfs hx
          go_wp2_with fail
          refine HREC.out.mono ?_
          rintro e w1 ⟨rfl, hb1⟩
          clear HREC n2 hc0 hc1 hc2 hc3 hc4 hc5 hc6
          have kn := kn.old hb1
          have kr := kr.old hb1
          have hown := own_old hown hb1
          have hbel : Below w.heap.size w w1 := hbel.trans (hb1.mono hbel.size)
          have hz := kr.lt
          clear hb1
          simp only [V.v]
          go_wp2_with (at_builtin; refine wpList_append_rd rfl _ _ 68 rfl (w.heap.size + 2) 46 iV _ 2 16 Try.underlying68 hV hV0 hV1 hV2 rfl (by decide) (.slice Av k cv) k _ rfl (hown.alloc _) (w1.heap.size + 1) (some ⟨w1.heap.size, 0, none⟩) 1 1 X.cells rfl (Rd.lit rfl _ _) rfl ?c2 ?c3 ?c4 ?c5 ?_)
          case c2 => intro u hu; simp [V.cells] at hu; rcases hu with rfl | rfl <;> rfl
          case c3 => unfold maxLen; omega
          case c4 => omega
          case c5 => simp; omega
          intro A3 c3 w2 hown2 hg _
          have kn2 := (kn.alloc _).grown hg (own_ne_bk hown kn (by decide))
          have kr2 := (kr.alloc _).grown hg (fun e => by have := (hown.lt _ e.symm).1; omega)
          have hbel2 : Below w.heap.size w w2 := below_own (hbel.alloc hbel.size _) (hown.alloc _) (by omega) hg (by simp; omega)
          rw [HFS.out] at hown2
          clear hg hown kn kr hbel
          go_wp2
          go_roundw
          case rel => exact ⟨k + 1, A3, c3, by omega, by go_num, rfl, hbel2, kn2, kr2, by rw [List.map_take]; exact hown2⟩
          case measure => simp [intOf]; omega
      · as_aux_lemma =>
          obtain rfl : k = args.length := by omega
          rw [List.take_length] at hown
          have happ := rapply_any op (args.map (refN kk d)) Av cv wr (own_rd hown) HF.out (by rw [List.length_map]; omega)
          rw [HR.out, List.length_map] at happ
          have HAP := Lib.hid happ
          have n0 : wr.cell? ⟨w.heap.size, 0, none⟩ = some (.int .i64 op) := kn.cell 0
          clear happ hown HF HA HI HRD HK HR
          go_wp2_with fail
          refine HAP.out.mono ?_
          rintro e w1 ⟨rfl, hb1⟩
          simp only [V.v]
          have kr := kr.old hb1
          have hbe : Below w.heap.size w w1 := hbel.trans (hb1.mono hbel.size)
          clear hb1
          obtain ⟨c0, c1, f0, f1⟩ := vcells kr
          obtain ⟨d0, d1, _, _⟩ := vcells (vput kr (.int .i64 R.k) (.int .u64 R.b))
          clear kr
          go_wp2_with fail
          exact bodyPost_ret (v := .agg #[.int .i64 R.k, .int .u64 R.b]) (by simp [results, Try.results14, go_sem, d0, d1]) rfl ⟨rfl, (hbe.setCell (by first | (simp; done) | (simp; omega)) _).setCell (by first | (simp; done) | (simp; omega)) _⟩
  · have h25 : op < 25 := by omega
    clear g26
    go_enter Try.func14, Try.ntmps14
    go_wp2_with fail
    go_loopw [12, 77] (fun vs i wr => ∃ (k : Nat) (Av : Option Addr) (cv : Nat), k ≤ args.length ∧ i = .int .i64 k ∧ vs = .slice Av k cv ∧ Below w.heap.size w wr ∧ Bk wr w.heap.size 41 #[.int .i64 op, .int .i64 kind, .slice A args.length c, .int .i64 vk, .int .u64 vb, .int .i64 pos, .int .i64 a] ∧ Bk wr (w.heap.size + 1) 46 #[.int .i64 0, .int .u64 0] ∧
        wr.ownsRow (w.heap.size + 2) 46 2 vs k (((args.take k).map (refN kk d)).flatMap V.cells)) (fun _ i _ => args.length - (intOf i).toNat)
    case atStart =>
      refine ⟨0, none, 0, Nat.zero_le _, rfl, rfl, bel2 _ _ _, (Bk.new _ _ _).alloc _, ?_, World.ownsRow_nil _ _ _ _⟩
      exact Bk.newAt (by simp) _ _
    case round =>
      obtain ⟨k, Av, cv, hk, rfl, rfl, hbel, kn, kr, hown⟩ := hrel
      by_cases hlt : k < args.length
      · as_aux_lemma =>
          obtain ⟨b, o, rfl, hb, hc⟩ := (HRD.out.below hbel).elem (f := NodeV.cells) (n := 7) NodeV.len (by omega) hlt
          have hx := HA.out args[k] (by simp)
          have hfs := flat_snoc V.cells (args.map (refN kk d)) k (by simpa using hlt)
          rw [List.getElem_map] at hfs
          generalize args[k] = x at *
          obtain ⟨op2, kind2, A2, c2, args2, vk2, vb2, pos2, a2⟩ := x
          have hc0 : wr.cell? ⟨b, o + k * 7, none⟩ = some (.int .i64 op2) := hc 0 _ rfl
          have hc1 : wr.cell? ⟨b, o + k * 7 + 1, none⟩ = some (.int .i64 kind2) := hc 1 _ rfl
          have hc2 : wr.cell? ⟨b, o + k * 7 + 2, none⟩ = some (.slice A2 args2.length c2) := hc 2 _ rfl
          have hc3 : wr.cell? ⟨b, o + k * 7 + 3, none⟩ = some (.int .i64 vk2) := hc 3 _ rfl
          have hc4 : wr.cell? ⟨b, o + k * 7 + 4, none⟩ = some (.int .u64 vb2) := hc 4 _ rfl
          have hc5 : wr.cell? ⟨b, o + k * 7 + 5, none⟩ = some (.int .i64 pos2) := hc 5 _ rfl
          have hc6 : wr.cell? ⟨b, o + k * 7 + 6, none⟩ = some (.int .i64 a2) := hc 6 _ rfl
          have n2 : wr.cell? ⟨w.heap.size, 2, none⟩ = some (.slice (some ⟨b, o, none⟩) args.length c) := kn.cell 2
          have hrec := HI.out _ _ (hx.old hbel) (HK.out.old hbel)
          generalize refN kk d (.mk op2 kind2 A2 c2 args2 vk2 vb2 pos2 a2) = X at *
          have HREC := Lib.hid hrec
          have HFS := Lib.hid hfs
          clear hc hrec hfs hx
          go_wp2_with fail
          refine HREC.out.mono ?_
          rintro e w1 ⟨rfl, hb1⟩
          clear HREC n2 hc0 hc1 hc2 hc3 hc4 hc5 hc6
          have kn := kn.old hb1
          have kr := kr.old hb1
          have hown := own_old hown hb1
          have hbel : Below w.heap.size w w1 := hbel.trans (hb1.mono hbel.size)
          have hz := kr.lt
          clear hb1
          simp only [V.v]
          go_wp2_with (at_builtin; refine wpList_append_rd rfl _ _ 68 rfl (w.heap.size + 2) 46 iV _ 2 16 Try.underlying68 hV hV0 hV1 hV2 rfl (by decide) (.slice Av k cv) k _ rfl (hown.alloc _) (w1.heap.size + 1) (some ⟨w1.heap.size, 0, none⟩) 1 1 X.cells rfl (Rd.lit rfl _ _) rfl ?c2 ?c3 ?c4 ?c5 ?_)
          case c2 => intro u hu; simp [V.cells] at hu; rcases hu with rfl | rfl <;> rfl
          case c3 => unfold maxLen; omega
          case c4 => omega
          case c5 => simp; omega
          intro A3 c3 w2 hown2 hg _
          have kn2 := (kn.alloc _).grown hg (own_ne_bk hown kn (by decide))
          have kr2 := (kr.alloc _).grown hg (fun e => by have := (hown.lt _ e.symm).1; omega)
          have hbel2 : Below w.heap.size w w2 := below_own (hbel.alloc hbel.size _) (hown.alloc _) (by omega) hg (by simp; omega)
          rw [HFS.out] at hown2
          clear hg hown kn kr hbel
          go_wp2
          go_roundw
          case rel => exact ⟨k + 1, A3, c3, by omega, by go_num, rfl, hbel2, kn2, kr2, by rw [List.map_take]; exact hown2⟩
          case measure => simp [intOf]; omega
      · as_aux_lemma =>
          obtain rfl : k = args.length := by omega
          rw [List.take_length] at hown
          have happ := rapply_any op (args.map (refN kk d)) Av cv wr (own_rd hown) HF.out (by rw [List.length_map]; omega)
          rw [HR.out, List.length_map] at happ
          have HAP := Lib.hid happ
          have n0 : wr.cell? ⟨w.heap.size, 0, none⟩ = some (.int .i64 op) := kn.cell 0
          clear happ hown HF HA HI HRD HK HR
          go_wp2_with fail
          refine HAP.out.mono ?_
          rintro e w1 ⟨rfl, hb1⟩
          simp only [V.v]
          have kr := kr.old hb1
          have hbe : Below w.heap.size w w1 := hbel.trans (hb1.mono hbel.size)
          clear hb1
          obtain ⟨c0, c1, f0, f1⟩ := vcells kr
          obtain ⟨d0, d1, _, _⟩ := vcells (vput kr (.int .i64 R.k) (.int .u64 R.b))
          clear kr
          go_wp2_with fail
          exact bodyPost_ret (v := .agg #[.int .i64 R.k, .int .u64 R.b]) (by simp [results, Try.results14, go_sem, d0, d1]) rfl ⟨rfl, (hbe.setCell (by first | (simp; done) | (simp; omega)) _).setCell (by first | (simp; done) | (simp; omega)) _⟩

theorem rnode_any (kk : LookV) : ∀ (d : Nat) (n : NodeV) (w : World), okN d n w w.heap.size → kk.ok w w.heap.size → Calls Try.prog 14 #[n.val, .slice kk.EA kk.es.length kk.ec, .slice kk.BA kk.bs.length kk.bc, .int .i64 kk.cur] w fun e w' => e = .returned (refN kk d n).v ∧ Below w.heap.size w w'
  | 0, _, _, h, _ => h.elim
  | d + 1, .mk op kind A c args vk vb pos a, w, h, hk => by
    have e : refN kk (d + 1) (.mk op kind A c args vk vb pos a) = (if op = 40 then clean ⟨vk, vb⟩ else if op = 41 then attrL kk.es kk.cur a
      else if op = 42 ∨ (25 ≤ op ∧ op ≤ 31) then overB op ((hasL kk.bs pos).map fun at_ => attrL kk.es at_ a) else applyV op (args.map (refN kk d))) := rfl
    rw [e]
    clear e
    show Calls Try.prog 14 #[.agg #[.int .i64 op, .int .i64 kind, .slice A args.length c, .int .i64 vk, .int .u64 vb, .int .i64 pos, .int .i64 a], .slice kk.EA kk.es.length kk.ec, .slice kk.BA kk.bs.length kk.bc, .int .i64 kk.cur] w _
    by_cases h40 : op = 40
    · subst h40; rw [if_pos rfl]; exact rnode_const kk kind A args c vk vb pos a _ w rfl h.2.2.1
    rw [if_neg h40]
    by_cases h41 : op = 41
    · subst h41; rw [if_pos rfl]; exact rnode_cur kk kind A args c vk vb pos a _ w rfl hk
    rw [if_neg h41]
    by_cases hop : op = 42 ∨ (25 ≤ op ∧ op ≤ 31)
    · rw [if_pos hop]
      by_cases h42 : op = 42
      · subst h42; exact rnode_of kk kind A args c vk vb pos a _ w rfl hk
      · exact rnode_agg kk op (by omega) (by omega) kind A args c vk vb pos a _ w rfl hk
    rw [if_neg hop]
    exact rnode_op kk d (rnode_any kk d) op h40 h41 hop kind A args c vk vb pos a _ w rfl hk h.1 h.2.1 h.2.2.2

set_option maxRecDepth 100000 in
theorem rall_any (kk : LookV) (d : Nat) (l : List NodeV) (A : Option Addr) (c : Nat) (w : World) (hr : Rd w w.heap.size A (l.flatMap NodeV.cells)) (hl : l.length ≤ 1048577) (hall : ∀ x ∈ l, okN d x w w.heap.size) (hk : kk.ok w w.heap.size) :
    Calls Try.prog 18 #[.slice A l.length c, .slice kk.EA kk.es.length kk.ec, .slice kk.BA kk.bs.length kk.bc, .int .i64 kk.cur] w fun e w' => e = .returned (.bool (l.all fun n => isYes (refN kk d n))) ∧ Below w.heap.size w w' := by
  have HK := Lib.hid hk
  have HA := Lib.hid hall
  have HRD := Lib.hid hr
  generalize hR : (l.all fun n => isYes (refN kk d n)) = R
  have HR := Lib.hid hR
  have hneq := neq_R
  clear hR hk hall hr
  go_enter Try.func18, Try.ntmps18
  go_wp2_with fail
  go_loopw [12] (fun i wr => ∃ (k : Nat), k ≤ l.length ∧ i = .int .i64 k ∧ Below w.heap.size w wr ∧ Hid ((l.take k).all fun n => isYes (refN kk d n))) (fun i _ => l.length - (intOf i).toNat)
  case atStart => exact ⟨0, Nat.zero_le _, rfl, Below.refl _ _, Lib.hid (by simp)⟩
  case round =>
    obtain ⟨k, hk, rfl, hbel, hyes⟩ := hrel
    by_cases hlt : k < l.length
    · obtain ⟨b, o, rfl, hb, hc⟩ := (HRD.out.below hbel).elem (f := NodeV.cells) (n := 7) NodeV.len (by omega) hlt
      have hx := HA.out l[k] (by simp)
      have hnext : (l.take (k + 1)).all (fun n => isYes (refN kk d n)) = isYes (refN kk d l[k]) := by
        rw [List.take_succ_eq_append_getElem hlt, List.all_append, hyes.out]; simp
      have hno : isYes (refN kk d l[k]) = false → R = false := by
        intro h
        rw [← HR.out]
        by_cases ha : (l.all fun n => isYes (refN kk d n)) = true
        · have := List.all_eq_true.1 ha l[k] (by simp)
          rw [h] at this; cases this
        · simpa using ha
      generalize l[k] = x at *
      obtain ⟨op2, kind2, A2, c2, args2, vk2, vb2, pos2, a2⟩ := x
      have hc0 : wr.cell? ⟨b, o + k * 7, none⟩ = some (.int .i64 op2) := hc 0 _ rfl
      have hc1 : wr.cell? ⟨b, o + k * 7 + 1, none⟩ = some (.int .i64 kind2) := hc 1 _ rfl
      have hc2 : wr.cell? ⟨b, o + k * 7 + 2, none⟩ = some (.slice A2 args2.length c2) := hc 2 _ rfl
      have hc3 : wr.cell? ⟨b, o + k * 7 + 3, none⟩ = some (.int .i64 vk2) := hc 3 _ rfl
      have hc4 : wr.cell? ⟨b, o + k * 7 + 4, none⟩ = some (.int .u64 vb2) := hc 4 _ rfl
      have hc5 : wr.cell? ⟨b, o + k * 7 + 5, none⟩ = some (.int .i64 pos2) := hc 5 _ rfl
      have hc6 : wr.cell? ⟨b, o + k * 7 + 6, none⟩ = some (.int .i64 a2) := hc 6 _ rfl
      have hrec := rnode_any kk d _ _ (hx.old hbel) (HK.out.old hbel)
      generalize refN kk d (.mk op2 kind2 A2 c2 args2 vk2 vb2 pos2 a2) = X at *
      have HREC := Lib.hid hrec
      have HN := Lib.hid hnext
      have HNO := Lib.hid hno
      clear hc hrec hnext hno hx hyes
      go_wp2_with fail
      refine HREC.out.mono ?_
      rintro e w1 ⟨rfl, hb1⟩
      clear HREC hc0 hc1 hc2 hc3 hc4 hc5 hc6
      have hbel : Below w.heap.size w w1 := hbel.trans (hb1.mono hbel.size)
      clear hb1
      simp only [V.v]
      go_wp2_with fail
      refine (rtruth_any true _).mono ?_
      rintro e w2 ⟨rfl, hb2⟩
      have hbel : Below w.heap.size w w2 := hbel.trans (hb2.mono hbel.size)
      clear hb2
      simp only [V.v, yesV, Bool.toNat_true]
      by_cases hy : isYes X = true
      · as_aux_lemma =>
        have hy2 : (X.k == 2 && (X.b : Int) == 1) = true := hy
        go_wp2_with fail
        go_roundw
        case rel => exact ⟨k + 1, by omega, by go_num, hbel, Lib.hid (by rw [HN.out]; exact hy)⟩
        case measure => simp [intOf]; omega
      · as_aux_lemma =>
        have hy1 : isYes X = false := by simpa using hy
        have hy2 : (X.k == 2 && (X.b : Int) == 1) = false := hy1
        have hRf := HNO.out hy1
        subst hRf
        clear hy hy1
        go_wp2_with fail
        go_ret
        exact ⟨rfl, hbel⟩
    · as_aux_lemma =>
      obtain rfl : k = l.length := by omega
      have hRt : R = true := by rw [← HR.out]; have := hyes.out; rwa [List.take_length] at this
      subst hRt
      clear HR hyes
      go_wp2_with fail
      go_ret
      exact ⟨rfl, hbel⟩
end Go.Proofs.Ytomhheihhnmbcaa
