/- Layer 10: the program's list of matches put in order. No conditions. -/
import Derived.Test.YtbopndepklafgaaDoorSrtX
namespace Go.Proofs.YtbopndepklafgaaDoor
open Go.RowKit
set_option maxRecDepth 10000
set_option linter.unusedVariables false
set_option linter.unusedSimpArgs false

set_option maxRecDepth 100000 in
set_option maxHeartbeats 4000000 in
theorem sstable_any (base n c : Nat) (A : Option Addr) (ts : List MatV) (w : World) (hown : w.ownsRow base 27 3 (.slice A n c) n (ts.flatMap MatV.cells)) (ho : ∀ t ∈ ts, ∀ w', w.grownBy w' (Value.ownBlock (.slice A n c)) → t.ok w' w'.heap.size) (hn : n ≤ 3518437208880) :
    Calls Tryd.prog 15 #[.slice A n c, .func (.func 13) #[] #[]] w fun r w' => r = .returned (.tuple #[]) ∧ ∃ ts', Moved ts ts' 0 n ∧ Srt (Le ltM) ts' 0 n ∧ w'.ownsRow base 27 3 (.slice A n c) n (ts'.flatMap MatV.cells) ∧ w.grownBy w' (Value.ownBlock (.slice A n c)) := by
  rcases Nat.eq_zero_or_pos n with rfl | hpos
  · have HO := Lib.hid hown
    clear hown
    go_enter Tryd.func15, Tryd.ntmps15
    go_wp2_with fail
    refine (stable_zero _ w).mono ?_
    rintro r w2 ⟨rfl, hw2⟩
    rw [hw2]
    go_wp2
    go_end0
    exact ⟨rfl, ts, Moved.refl _ _ _, Srt.nil (by omega), HO.out, World.grownBy.refl _ _⟩
  · obtain ⟨g, cap, hv⟩ : ∃ g cap, Value.slice A n c = .slice (some ⟨g, 0, none⟩) n cap := by
      rcases hown.2 with ⟨_, h0⟩ | ⟨g', cap, cur, hv, _⟩
      · omega
      · exact ⟨g', cap, hv⟩
    injection hv with e1 e2 e3
    subst e1; subst e3
    have HR : Hid (Row base g c n ts w) := Lib.hid ⟨hown, ho⟩
    clear hown ho
    go_enter Tryd.func15, Tryd.ntmps15
    go_wp2_with fail
    refine (stable_any base g c n ts w HR.out hn).mono ?_
    rintro r w2 ⟨rfl, ts', h1, h2, h3, h4⟩
    go_wp2
    go_end0
    exact ⟨rfl, ts', h1, h2, h3.own, h4⟩

set_option maxRecDepth 100000 in
set_option maxHeartbeats 4000000 in
theorem msort_any (ms : List MatV) (A0 : Option Addr) (c0 : Nat) (w : World) (hrd : Rd w w.heap.size A0 (ms.flatMap MatV.cells)) (hok : ∀ m ∈ ms, m.ok w w.heap.size) (hlen : ms.length ≤ 3518437208880) :
    Calls Tryd.prog 6 #[.slice A0 ms.length c0] w fun r w' => ∃ (A : Option Addr) (c : Nat) (ts : List MatV), r = .returned (.slice A ms.length c) ∧ (ts.map (·.key)).Perm (ms.map (·.key)) ∧ Srt (Le ltM) ts 0 ms.length ∧
      w'.ownsRow w.heap.size 27 3 (.slice A ms.length c) ms.length (ts.flatMap MatV.cells) ∧ (∀ t ∈ ts, OwnM w' w.heap.size t) ∧ Below w.heap.size w w' := by
  obtain ⟨iM, hM, hM0, hM1, hM2⟩ := info_parts infoMr
  have HRD := Lib.hid hrd
  have HOK := Lib.hid hok
  clear hrd hok
  go_enter Tryd.func6, Tryd.ntmps6
  go_wp2
  go_loopw [3, 8] (fun o i wr => ∃ (k : Nat) (A : Option Addr) (c : Nat) (ts : List MatV), k ≤ ms.length ∧ o = .slice A k c ∧ i = .int .i64 k ∧ Below w.heap.size w wr ∧ Hid (ts.map (·.key) = (ms.take k).map (·.key)) ∧
    wr.ownsRow w.heap.size 27 3 (.slice A k c) k (ts.flatMap MatV.cells) ∧ Hid (∀ t ∈ ts, OwnM wr w.heap.size t)) (fun _ i _ => ms.length - (intOf i).toNat)
  case atStart => exact ⟨0, none, 0, [], Nat.zero_le _, rfl, rfl, Below.refl _ _, Lib.hid rfl, World.ownsRow_nil _ _ _ _, Lib.hid (by simp)⟩
  case round =>
    obtain ⟨k, A, c, ts, hk, rfl, rfl, hbel, hsig, hown, heach⟩ := hrel
    obtain ⟨wo, rfl⟩ : ∃ wo : World, wo = wr := ⟨_, rfl⟩
    by_cases hlt : k < ms.length
    · as_aux_lemma =>
      obtain ⟨b, o, hA, hb, hc⟩ := (HRD.out.below hbel).elem (n := 3) mat_len (by omega) hlt
      have r0 : wo.cell? ⟨b, o + k * 3, none⟩ = some (.int .i64 ms[k].step) := hc 0 _ rfl
      have r1 : wo.cell? ⟨b, o + k * 3 + 1, none⟩ = some (.int .i64 ms[k].branch) := hc 1 _ rfl
      have r2 : wo.cell? ⟨b, o + k * 3 + 2, none⟩ = some (.slice ms[k].A ms[k].rows.length ms[k].c) := hc 2 _ rfl
      have HMO := Lib.hid (HOK.out ms[k] (List.getElem_mem _))
      have HNX : Hid ((ms.take (k + 1)).map (·.key) = (ms.take k).map (·.key) ++ [ms[k].key]) := Lib.hid (by rw [List.take_succ_eq_append_getElem hlt, List.map_append]; rfl)
      clear hc
      generalize ms[k] = m at *
      rw [hA]
      clear hA
      have hws := hbel.size
      have q0 := Bk.new wo 27 #[.int .i64 m.step, .int .i64 m.branch, .slice m.A m.rows.length m.c]
      have hbA : Below wo.heap.size wo (wo.alloc (.cells #[.int .i64 m.step, .int .i64 m.branch, .slice m.A m.rows.length m.c] 27)) := (Below.refl _ _).alloc (Nat.le_refl _) _
      have q2 := q0.cell 2
      have q1 := q0.cell 1
      have q3 := q0.cell 0
      go_upto_region 5 with fail
      generalize wo.alloc (.cells #[.int .i64 m.step, .int .i64 m.branch, .slice m.A m.rows.length m.c] 27) = W1 at *
      clear r0 r1 r2
      have hw1 : wo.heap.size < W1.heap.size := q0.lt
      have hbel1 := hbel.trans (hbA.mono hws)
      have HM1 := Lib.hid ((HMO.out.keep hbel1 hbel1.size))
      go_wp2_with fail
      refine (mtwin_any m W1 HM1.out).mono ?_
      rintro r w2 ⟨t, rfl, hkey, hot, hb2⟩
      have hbel2 := hbel1.trans (hb2.mono hbel1.size)
      have hown2 := own_old (own_old hown hbA) hb2
      have HT2 : Hid (∀ t ∈ ts, OwnM w2 w.heap.size t) := Lib.hid fun t ht => ((heach.out t ht).old hbA).old hb2
      have hw2 : w.heap.size ≤ w2.heap.size := hbel2.size
      have HKEY := Lib.hid hkey
      have HOT := Lib.hid hot
      clear hown heach hbA hbel hb2 q0 q1 q2 q3 hkey hot HMO HM1
      have hzF : w.heap.size ≤ (w2.alloc (.cells #[.int .i64 t.step, .int .i64 t.branch, .slice t.A t.rows.length t.c] 27)).heap.size := by simp; omega
      unfold MatV.val
      go_wp2_with (at_builtin; refine wpList_append_rd (by rfl) _ _ 22 (by rfl) w.heap.size 27 iM _ 3 40 Tryd.underlying22 hM hM0 hM1 hM2 rfl (by decide) (.slice A k c) k _ (by rfl) (hown2.alloc _) (w2.heap.size + 1) (some ⟨w2.heap.size, 0, none⟩) 1 1 [.int .i64 t.step, .int .i64 t.branch, .slice t.A t.rows.length t.c] (by rfl) (Rd.lit rfl _ _) (by rfl) ?c2 ?c3 ?c4 hzF ?_)
      case c2 => intro u hu; simp at hu; rcases hu with rfl | rfl | rfl <;> rfl
      case c3 => unfold maxLen; omega
      case c4 => omega
      intro A6 c6 w6 hown6 hg6 _
      have hbel6 : Below w.heap.size w w6 := below_own (hbel2.alloc hw2 _) (hown2.alloc _) (Nat.le_refl _) hg6 hzF
      have HT6 : Hid (∀ t' ∈ ts ++ [t], OwnM w6 w.heap.size t') := by
        refine Lib.hid fun t' ht => ?_
        rcases List.mem_append.1 ht with ht | ht
        · exact ⟨own_keep ((HT2.out t' ht).rows.alloc _) (hown2.alloc _) (by decide) hg6, fun r hr => own_keep (((HT2.out t' ht).each r hr).alloc _) (hown2.alloc _) (by decide) hg6⟩
        · obtain rfl := List.mem_singleton.1 ht
          exact ⟨own_mono (own_keep (HOT.out.rows.alloc _) (hown2.alloc _) (by decide) hg6) (by omega), fun r hr => own_mono (own_keep ((HOT.out.each r hr).alloc _) (hown2.alloc _) (by decide) hg6) (by omega)⟩
      have hown7 : w6.ownsRow w.heap.size 27 3 (.slice A6 (k + 1) c6) (k + 1) ((ts ++ [t]).flatMap MatV.cells) := by
        rw [List.flatMap_append]
        exact hown6
      have HS : Hid ((ts ++ [t]).map (·.key) = (ms.take (k + 1)).map (·.key)) := Lib.hid (by
        rw [List.map_append, hsig.out, HNX.out]
        show _ ++ [t.key] = _
        rw [HKEY.out])
      clear hown6 hg6 hown2 HT2 hbel2 hzF hsig HNX HKEY HOT
      go_wp2
      go_roundw
      case rel => exact ⟨k + 1, A6, c6, ts ++ [t], by omega, by first | rfl | trivial, by go_num, hbel6, HS, hown7, HT6⟩
      case measure => simp [intOf]; omega
    · as_aux_lemma =>
      obtain rfl : k = ms.length := by omega
      rw [List.take_length] at hsig
      have hws := hbel.size
      have HGO : Hid (∀ t ∈ ts, ∀ w', wo.grownBy w' (Value.ownBlock (.slice A ms.length c)) → t.ok w' w'.heap.size) := Lib.hid fun t ht w' hg => by
        have hk : t.key ∈ ms.map (·.key) := by rw [← hsig.out]; exact List.mem_map_of_mem ht
        obtain ⟨m, hm, e⟩ := List.mem_map.1 hk
        exact ((heach.out t ht).grown hown hg).ok e.symm (HOK.out m hm)
      go_wp2_with fail
      refine (sstable_any w.heap.size ms.length c A ts wo hown HGO.out hlen).mono ?_
      rintro r w2 ⟨rfl, ts', hmv, hs, hown2, hg⟩
      have hb2 : Below w.heap.size w w2 := below_own hbel hown (Nat.le_refl _) hg hws
      have hperm := hmv.perm
      have HT : Hid (∀ t ∈ ts', OwnM w2 w.heap.size t) := Lib.hid fun t ht => (heach.out t (hperm.subset ht)).grown hown hg
      have HPK : Hid ((ts'.map (·.key)).Perm (ms.map (·.key))) := Lib.hid (by rw [← hsig.out]; exact hperm.map _)
      clear hmv hperm hown hg heach hsig HGO hbel
      go_wp2
      go_ret
      first | exact ⟨A, c, ts', rfl, HPK.out, hs, hown2, HT.out, hb2⟩ | exact ⟨A, c, rfl, ts', HPK.out, hs, hown2, HT.out, hb2⟩ | exact ⟨A, c, rfl, ⟨ts', HPK.out, hs, hown2, HT.out⟩, hb2⟩
end Go.Proofs.YtbopndepklafgaaDoor
