/- MatchSorts holds. No conditions. -/
import Derived.Test.YtbopndepklafgaaDoorMatT
import Derived.Test.YtbopndepklafgaaDoorSrtZ
import Derived.Test.YtbopndepklafgaaDoorSrtE
namespace Go.Proofs.YtbopndepklafgaaDoor.matchSorts
open Go.ChangeShapes Go.WideShapes Go.ChangeAt Go.RowKit
open Go.ChangeMaps (open_string shut_string)
set_option linter.unusedSimpArgs false
set_option linter.unusedVariables false

set_option maxRecDepth 10000
section
variable {H : Type} {enc : TypeId × Value → H} {w : World}
theorem open_mats {r : Reach} {b0 : Nat} {v : Value} {d : DataW H} {p : List MemPlace} (hv : Value.okWide Tryd.prog w r b0 22 v) (h : DataW.Trod enc Tryd.prog w 0 (fun _ => true) true 22 v d p)
    (hw : (d.weights Tryd.prog 22).all (· ≤ reachBytes) = true) : ∃ (A : Option Addr) (c : Nat) (l : List MatV), v = .slice A l.length c ∧ Rd w w.heap.size A (l.flatMap MatV.cells) ∧ ∀ x ∈ l, x.ok w w.heap.size := by
  obtain ⟨a0, n0, c0, rfl⟩ := okWide_slice Tryd.underlying22 hv
  obtain ⟨A, c, l, hx, _, _, h1, h2⟩ := Opens.arg (fun N => fun fuel hf => opens_slice (N := N + 3) Tryd.underlying22 cMat (by omega) (by kernel_rfl : Tryd.prog.bytesOf 27 = 40) cells3 (opens_mat N) fuel (by omega)) h hw
  refine ⟨A, c, l, ?_, h1, h2⟩
  simpa [Value.cells] using hx
end
/-- A row of integers that may be written. -/
def IntR (w : World) (B : Nat) (A : Option Addr) (n : Nat) : Prop := n = 0 ∨ ∃ g cs, A = some ⟨g, 0, none⟩ ∧ B ≤ g ∧ Bk w g 3 cs ∧ n ≤ cs.size ∧ ∀ j, j < n → ∃ z, cs[j]? = some (.int .i64 z)
theorem IntR.of {w : World} {B c : Nat} {A : Option Addr} {l : List Int} (h : w.ownsRow B 3 1 (.slice A l.length c) l.length (ints l)) : IntR w B A l.length := by
  rcases h.2 with ⟨_, h0⟩ | ⟨g, cap, cur, hv, hb, hh, h1, h2, h3, h4⟩
  · exact .inl h0
  · have hA : A = some ⟨g, 0, none⟩ := by injection hv
    refine .inr ⟨g, cur, hA, hb, hh, by omega, fun j hj => ?_⟩
    rw [hA] at h
    have hc := h.cellAt j (by omega)
    have hbk : Bk w g 3 cur := hh
    rw [hbk.cell j] at hc
    refine ⟨l[j], hc.trans ?_⟩
    simp [ints, hj]
theorem IntR.set {w : World} {B n g j : Nat} {A : Option Addr} {z : Int} {cs : Array Value} (h : IntR w B A n) (hb : Bk w g 3 cs) : IntR (w.setCell ⟨g, j, none⟩ (.int .i64 z)) B A n := by
  rcases h with h | ⟨g', cs', h1, h2, h3, h4, h5⟩
  · exact .inl h
  · by_cases hg : g' = g
    · subst hg
      refine .inr ⟨g', _, h1, h2, h3.put j _, by simpa using h4, fun i hi => ?_⟩
      by_cases hij : j = i
      · subst hij; exact ⟨z, by simp [show j < cs'.size by omega]⟩
      · obtain ⟨z', hz⟩ := h5 i hi
        exact ⟨z', by rw [Array.getElem?_setIfInBounds_ne hij]; exact hz⟩
    · exact .inr ⟨g', cs', h1, h2, h3.far (p := ⟨g, j, none⟩) hg _, h4, h5⟩
theorem IntR.old {w w' : World} {B n : Nat} {A : Option Addr} (h : IntR w B A n) (hb : Below w.heap.size w w') : IntR w' B A n := by
  rcases h with h | ⟨g', cs', h1, h2, h3, h4, h5⟩
  · exact .inl h
  · exact .inr ⟨g', cs', h1, h2, h3.old hb, h4, h5⟩
theorem keys_one {us vs : List MatV} (h : (us.map (·.key)).Perm (vs.map (·.key))) (h1 : us.Pairwise (Le ltM)) (h2 : vs.Pairwise (Le ltM)) : us.map (·.key) = vs.map (·.key) := by
  have hR : ∀ l : List MatV, l.Pairwise (Le ltM) → (l.map (·.key)).Pairwise (fun k k' => lex2 Lib.compareInt (lex2 Lib.compareInt ordL) k k' ≤ 0) := fun l hl => by
    rw [List.pairwise_map]
    refine hl.imp fun {x y} hxy => ?_
    unfold Le ltM at hxy
    have := ord_neg x y
    rw [← ord_key]
    simp at hxy
    omega
  refine sorted_one (fun x y hx hy => ?_) h (hR _ h1) (hR _ h2)
  have := cmp_ord.neg x y
  exact cmp_ord.eq x y (by omega)
/-- What the sort told, while its places are written over. -/
structure Outs (w0 W : World) (B n c : Nat) (A : Option Addr) (us : List MatV) : Prop where
  row : W.ownsRow B 27 3 (.slice A n c) n (us.flatMap MatV.cells)
  parts : ∀ u ∈ us, W.ownsRow B 29 1 (.slice u.A u.rows.length u.c) u.rows.length (u.rows.flatMap RowV.cells)
  ints : ∀ u ∈ us, ∀ r ∈ u.rows, IntR W B r.A r.l.length
  below : Below B w0 W
theorem Outs.set {w0 W : World} {B n c g j : Nat} {A : Option Addr} {us : List MatV} {z : Int} {cs : Array Value} (h : Outs w0 W B n c A us) (hb : Bk W g 3 cs) (hg : B ≤ g) : Outs w0 (W.setCell ⟨g, j, none⟩ (.int .i64 z)) B n c A us :=
  ⟨own_set h.row hb (by decide) j _, fun u hu => own_set (h.parts u hu) hb (by decide) j _, fun u hu r hr => (h.ints u hu r hr).set hb, h.below.setCell (by exact hg) _⟩
theorem Outs.elem {w0 W : World} {B n c g : Nat} {us : List MatV} (h : Outs w0 W B n c (some ⟨g, 0, none⟩) us) (hl : us.length = n) {k : Nat} (hk : k < us.length) : W.cell? ⟨g, k * 3 + 2, none⟩ = some (.slice us[k].A us[k].rows.length us[k].c) := by
  rw [h.row.cellAt (k * 3 + 2) (by omega), flat_at MatV.cells cells3 us k 2 hk (by omega)]; rfl
theorem Outs.part {w0 W : World} {B n c g : Nat} {A : Option Addr} {us : List MatV} (h : Outs w0 W B n c A us) {u : MatV} (hu : u ∈ us) (hA : u.A = some ⟨g, 0, none⟩) {q : Nat} (hq : q < u.rows.length) : W.cell? ⟨g, q, none⟩ = some (.slice u.rows[q].A u.rows[q].l.length u.rows[q].c) := by
  have h1 := h.parts u hu
  rw [hA] at h1
  have h2 := flat_at RowV.cells (n := 1) (fun _ => rfl) u.rows q 0 hq (by omega)
  rw [Nat.mul_one, Nat.add_zero] at h2
  rw [h1.cellAt q (by omega), h2]; rfl
theorem own_some {w : World} {B e s n c : Nat} {A : Option Addr} {xs : List Value} (h : w.ownsRow B e s (.slice A n c) n xs) (hn : 0 < n) : ∃ g, A = some ⟨g, 0, none⟩ := by
  rcases h.2 with ⟨_, h0⟩ | ⟨g, cap, cur, hv, _⟩
  · omega
  · exact ⟨g, by injection hv⟩
theorem rd_ahead {w : World} {B : Nat} {A : Option Addr} {xs ys : List Value} (h : Rd w B A (xs ++ ys)) : Rd w B A xs := by
  rcases h with h | ⟨b, o, h1, h2, h3⟩
  · exact .inl (List.append_eq_nil_iff.1 h).1
  · exact .inr ⟨b, o, h1, h2, fun j u hu => h3 j u (by rw [List.getElem?_append_left (List.getElem?_eq_some_iff.1 hu).1]; exact hu)⟩
set_option maxRecDepth 100000 in
set_option maxHeartbeats 8000000 in
theorem walk (w : World) (he : Env w) (A0 : Option Addr) (c0 : Nat) (ms : List MatV) (hrd : Rd w w.heap.size A0 (ms.flatMap MatV.cells)) (hok : ∀ m ∈ ms, m.ok w w.heap.size) :
    Calls Tryd.prog 3 #[.slice A0 ms.length c0] w fun e w' => e = .returned (.bool true) ∧ Below w.heap.size w w' := by
  obtain ⟨iM, hM, hM0, hM1, hM2⟩ := info_parts infoMr
  have HE := Lib.hid he
  have HRD := Lib.hid hrd
  have HOK := Lib.hid hok
  clear he hrd hok
  go_enter Tryd.func3, Tryd.ntmps3
  by_cases h500 : 500 < ms.length
  · go_wp2_with fail
    refine (awake_any w HE.out).mono ?_
    rintro r w2 ⟨rfl, hb2⟩
    go_wp2
    go_ret
    exact ⟨rfl, hb2⟩
  have hlen : ms.length ≤ 500 := by omega
  go_wp2_with fail
  refine (twin_any ms A0 c0 w HRD.out HOK.out (by omega)).mono ?_
  rintro r w1 ⟨A, c, ts, rfl, hkey, hown, heach, hb1⟩
  have hw1 := hb1.size
  have htl : ts.length = ms.length := by have := congrArg List.length hkey; simpa using this
  have HKEY := Lib.hid hkey
  have HEA := Lib.hid heach
  clear hkey heach
  have hzF : w.heap.size ≤ (w1.alloc (.cells #[.int .i64 71, .int .i64 0, .slice none 0 0] 27)).heap.size := by simp; omega
  go_wp2_with (at_builtin; refine wpList_append_rd (by rfl) _ _ 22 (by rfl) w.heap.size 27 iM _ 3 40 Tryd.underlying22 hM hM0 hM1 hM2 rfl (by decide) (.slice A ms.length c) ms.length _ (by rfl) (hown.alloc _) (w1.heap.size + 1) (some ⟨w1.heap.size, 0, none⟩) 1 1 [.int .i64 71, .int .i64 0, .slice none 0 0] (by rfl) (Rd.lit rfl _ _) (by rfl) ?c2 ?c3 ?c4 hzF ?_)
  case c2 => intro u hu; simp at hu; rcases hu with rfl | rfl | rfl <;> rfl
  case c3 => unfold maxLen; omega
  case c4 => omega
  intro A5 c5 w5 hown5 hg5 _
  have hb5 : Below w.heap.size w w5 := below_own (hb1.alloc hw1 _) (hown.alloc _) (Nat.le_refl _) hg5 hzF
  have HE5 : Hid (∀ t ∈ ts, OwnM w5 w.heap.size t) := Lib.hid fun t ht => ⟨own_keep ((HEA.out t ht).rows.alloc _) (hown.alloc _) (by decide) hg5, fun r hr => own_keep (((HEA.out t ht).each r hr).alloc _) (hown.alloc _) (by decide) hg5⟩
  have HTOK : Hid (∀ t ∈ ts, t.ok w5 w5.heap.size) := Lib.hid fun t ht => by
    have hk : t.key ∈ ms.map (·.key) := by rw [← HKEY.out]; exact List.mem_map_of_mem ht
    obtain ⟨m, hm, e⟩ := List.mem_map.1 hk
    exact (HE5.out t ht).ok e.symm (HOK.out m hm)
  obtain ⟨g, hg⟩ : ∃ g, A5 = some ⟨g, 0, none⟩ := by
    rcases hown5.2 with ⟨_, h0⟩ | ⟨g', cap, cur, hv, _⟩
    · omega
    · exact ⟨g', by injection hv⟩
  subst hg
  have hcap : ms.length + 1 ≤ c5 := by
    obtain ⟨A9, c9, hv, h9⟩ := own_form hown5
    injection hv with _ _ e
    omega
  have HRD5 : Hid (Rd w5 w5.heap.size (some ⟨g, 0, none⟩) (ts.flatMap MatV.cells)) := Lib.hid (rd_ahead (own_rd hown5))
  have h71 : w5.cell? ⟨g, ms.length * 3, none⟩ = some (.int .i64 71) := by
    have := hown5.cellAt (ms.length * 3) (by omega)
    rw [this]
    have e : (ts.flatMap MatV.cells).length = ms.length * 3 := by rw [flat_len MatV.cells cells3, htl]
    rw [List.getElem?_append_right (by omega), e, Nat.sub_self]; rfl
  have hgl : g < w5.heap.size := (hown5.lt g rfl).2
  have HMS : Hid (∀ W : World, Below w5.heap.size w5 W → Calls Tryd.prog 7 #[.slice (some ⟨g, 0, none⟩) ms.length c5, .slice A0 ms.length c0] W fun r w' => r = .returned (.bool true) ∧ Below W.heap.size W w') := Lib.hid fun W hb => by
    have hbw := hb5.trans (hb.mono hb5.size)
    exact rsame_any ts ms (some ⟨g, 0, none⟩) A0 c5 c0 W ((HRD5.out.below hb).more hb.size) ((HRD.out.below hbw).more hbw.size) (fun t ht => (HTOK.out t ht).keep hb hb.size) (fun t ht => (HOK.out t ht).keep hbw hbw.size) HKEY.out ms.length ms.length htl.symm rfl (by omega)
  clear hown hown5 hg5 hb1 hw1 hzF HEA HE5
  have HSO := Lib.hid (msort_any ts (some ⟨g, 0, none⟩) c5 w5 HRD5.out HTOK.out (by omega))
  rw [htl] at HSO
  go_wp2_with fail
  refine HSO.out.mono ?_
  rintro r w6 ⟨A6, c6, us, rfl, hperm, hsrt, hown6, hea6, hb6⟩
  have hbe6 := hb5.trans (hb6.mono hb5.size)
  have hul : us.length = ms.length := by have := hperm.length_eq; simpa [htl] using this
  have HU : Hid (∀ u ∈ us, u.ok w6 w6.heap.size) := Lib.hid fun u hu => by
    have hk : u.key ∈ ts.map (·.key) := hperm.subset (List.mem_map_of_mem hu)
    obtain ⟨t, ht, e⟩ := List.mem_map.1 hk
    exact (hea6 u hu).ok e.symm (HTOK.out t ht)
  have HOUT : Hid (Outs w5 w6 w5.heap.size ms.length c6 A6 us) := Lib.hid ⟨hown6, fun u hu => (hea6 u hu).rows, fun u hu r hr => IntR.of ((hea6 u hu).each r hr), hb6⟩
  have HPS : Hid ((us.map (·.key)).Perm (ms.map (·.key))) := Lib.hid (by rw [← HKEY.out]; exact hperm)
  have HSR := Lib.hid hsrt
  have HR6 := Lib.hid (own_rd hown6)
  clear hperm hsrt hown6 hea6 HSO
  go_wp2_with fail
  refine (awake_any w6 (HE.out.old hbe6)).mono ?_
  rintro r w7 ⟨rfl, hb7⟩
  have hb57 := hb6.trans (hb7.mono hb6.size)
  have hbe7 := hbe6.trans (hb7.mono hbe6.size)
  have HOUT7 : Hid (Outs w5 w7 w5.heap.size ms.length c6 A6 us) := Lib.hid ⟨own_old HOUT.out.row hb7, fun u hu => own_old (HOUT.out.parts u hu) hb7, fun u hu r hr => (HOUT.out.ints u hu r hr).old hb7, hb57⟩
  have HU7 : Hid (∀ u ∈ us, u.ok w7 w7.heap.size) := Lib.hid fun u hu => (HU.out u hu).old hb7
  have HR7 : Hid (Rd w7 w7.heap.size A6 (us.flatMap MatV.cells)) := Lib.hid ((HR6.out.below hb7).more hb7.size)
  clear hb7 HOUT HU HR6 hb6 hbe6
  go_wp2_with fail
  refine (rsort_any ms A0 c0 w7 ((HRD.out.below hbe7).more hbe7.size) (fun t ht => (HOK.out t ht).keep hbe7 hbe7.size) (by omega)).mono ?_
  rintro r w8 ⟨A8, c8, vs, rfl, hperm8, hsrt8, hown8, hb8⟩
  have hb58 := hb57.trans (hb8.mono hb57.size)
  have hbe8 := hbe7.trans (hb8.mono hbe7.size)
  have HOUT8 : Hid (Outs w5 w8 w5.heap.size ms.length c6 A6 us) := Lib.hid ⟨own_old HOUT7.out.row hb8, fun u hu => own_old (HOUT7.out.parts u hu) hb8, fun u hu r hr => (HOUT7.out.ints u hu r hr).old hb8, hb58⟩
  have HU8 : Hid (∀ u ∈ us, u.ok w8 w8.heap.size) := Lib.hid fun u hu => (HU7.out u hu).old hb8
  have HR8 : Hid (Rd w8 w8.heap.size A6 (us.flatMap MatV.cells)) := Lib.hid ((HR7.out.below hb8).more hb8.size)
  have hvl : vs.length = ms.length := hperm8.length_eq
  have HKK : Hid (us.map (·.key) = vs.map (·.key)) := Lib.hid (keys_one (HPS.out.trans (hperm8.map _).symm) (by rw [← hul] at HSR; exact HSR.out.pairwise) hsrt8)
  have HV8 : Hid (∀ u ∈ vs, u.ok w8 w8.heap.size) := Lib.hid fun u hu => (HOK.out u (hperm8.subset hu)).keep hbe8 hbe8.size
  have HRV := Lib.hid (own_rd hown8)
  clear hown8 hperm8 hsrt8 HOUT7 HU7 HR7 hb8 hb57 hbe7 HPS HSR
  go_wp2_with fail
  refine (rsame_any us vs A6 A8 c6 c8 w8 HR8.out HRV.out HU8.out HV8.out HKK.out ms.length ms.length hul.symm hvl.symm (by omega)).mono ?_
  rintro r w9 ⟨rfl, hb9⟩
  have hb59 := hb58.trans (hb9.mono hb58.size)
  have HOUT9 : Hid (Outs w5 w9 w5.heap.size ms.length c6 A6 us) := Lib.hid ⟨own_old HOUT8.out.row hb9, fun u hu => own_old (HOUT8.out.parts u hu) hb9, fun u hu r hr => (HOUT8.out.ints u hu r hr).old hb9, hb59⟩
  have HLU : Hid (∀ u ∈ us, u.rows.length ≤ 5864062014634 ∧ ∀ r ∈ u.rows, r.l.length ≤ 17592186043904) := Lib.hid fun u hu => ⟨(HU8.out u hu).len, fun r hr => ((HU8.out u hu).each r hr).len⟩
  clear HOUT8 HU8 HR8 hb9 hb58 hbe8 HKK HV8 HRV hvl
  go_wp2_with fail
  refine (HMS.out w9 hb59).mono ?_
  rintro r w10 ⟨rfl, hb10⟩
  have hb510 := hb59.trans (hb10.mono hb59.size)
  have HOUT10 : Hid (Outs w5 w10 w5.heap.size ms.length c6 A6 us) := Lib.hid ⟨own_old HOUT9.out.row hb10, fun u hu => own_old (HOUT9.out.parts u hu) hb10, fun u hu r hr => (HOUT9.out.ints u hu r hr).old hb10, hb510⟩
  have h71b : w10.cell? ⟨g, ms.length * 3, none⟩ = some (.int .i64 71) := (hb510.cell (p := ⟨g, ms.length * 3, none⟩) hgl).trans h71
  clear HOUT9 hb10 hb59 h71
  go_wp2
  clear h71b
  go_loopw [52] (fun i wr => ∃ (k : Nat), k ≤ ms.length ∧ i = .int .i64 k ∧ Hid (Outs w5 wr w5.heap.size ms.length c6 A6 us)) (fun i _ => ms.length - (intOf i).toNat)
  case atStart => exact ⟨0, Nat.zero_le _, rfl, HOUT10⟩
  case round =>
    obtain ⟨k, hk, rfl, HO⟩ := hrel
    obtain ⟨wo, rfl⟩ : ∃ wo : World, wo = wr := ⟨_, rfl⟩
    clear HOUT10 hb510
    by_cases hlt : k < ms.length
    · as_aux_lemma =>
      obtain ⟨g6, rfl⟩ := own_some HO.out.row (by omega)
      have HEL : Hid (∀ W, Outs w5 W w5.heap.size ms.length c6 (some ⟨g6, 0, none⟩) us → W.cell? ⟨g6, k * 3 + 2, none⟩ = some (.slice us[k].A us[k].rows.length us[k].c)) := Lib.hid fun W h => h.elem hul (by omega)
      have hu : us[k] ∈ us := List.getElem_mem _
      generalize us[k] = u at *
      have hur := (HLU.out u hu).1
      have r2 := HEL.out wo HO.out
      go_wp2
      clear r2
      go_loopw [61] (fun i wi => ∃ (q : Nat), q ≤ u.rows.length ∧ i = .int .i64 q ∧ Hid (Outs w5 wi w5.heap.size ms.length c6 (some ⟨g6, 0, none⟩) us)) (fun i _ => u.rows.length - (intOf i).toNat)
      case atStart => exact ⟨0, Nat.zero_le _, rfl, HO⟩
      case round =>
        obtain ⟨q, hq, rfl, HO2⟩ := hrel
        obtain ⟨wi, rfl⟩ : ∃ wi : World, wi = wr := ⟨_, rfl⟩
        clear HO
        by_cases hlq : q < u.rows.length
        · as_aux_lemma =>
          obtain ⟨g7, hA7⟩ := own_some (HO2.out.parts u hu) (by omega)
          have HPA : Hid (∀ W, Outs w5 W w5.heap.size ms.length c6 (some ⟨g6, 0, none⟩) us → W.cell? ⟨g7, q, none⟩ = some (.slice u.rows[q].A u.rows[q].l.length u.rows[q].c)) := Lib.hid fun W h => h.part hu hA7 hlq
          have hr : u.rows[q] ∈ u.rows := List.getElem_mem _
          generalize u.rows[q] = R at *
          have hrr := (HLU.out u hu).2 R hr
          have r2 := HEL.out wi HO2.out
          rw [hA7] at r2 HEL
          clear hA7
          have r3 := HPA.out wi HO2.out
          go_wp2
          clear r2 r3
          go_loopw [73] (fun i wi => ∃ (s : Nat), s ≤ R.l.length ∧ i = .int .i64 s ∧ Hid (Outs w5 wi w5.heap.size ms.length c6 (some ⟨g6, 0, none⟩) us)) (fun i _ => R.l.length - (intOf i).toNat)
          case atStart => exact ⟨0, Nat.zero_le _, rfl, HO2⟩
          case round =>
            obtain ⟨s, hs, rfl, HO3⟩ := hrel
            obtain ⟨wl, rfl⟩ : ∃ wl : World, wl = wr := ⟨_, rfl⟩
            clear HO2
            by_cases hls : s < R.l.length
            · as_aux_lemma =>
              rcases HO3.out.ints u hu R hr with h0 | ⟨g8, cs, hA8, hg8, hbk, hcs, hz⟩
              · omega
              · obtain ⟨z, hz⟩ := hz s hls
                have r2 := HEL.out wl HO3.out
                have r3 := HPA.out wl HO3.out
                rw [hA8] at r3
                have r4 : wl.cell? ⟨g8, s, none⟩ = some (.int .i64 z) := (hbk.cell s).trans hz
                have f4 := hbk.frozen s
                have HO4 : Hid (Outs w5 (wl.setCell ⟨g8, s, none⟩ (.int .i64 (-9))) w5.heap.size ms.length c6 (some ⟨g6, 0, none⟩) us) := Lib.hid (HO3.out.set hbk hg8)
                clear hz hbk hA8 HO3
                go_wp2
                go_roundw
                case rel => exact ⟨s + 1, by omega, by go_num, HO4⟩
                case measure => simp [intOf]; omega
            · as_aux_lemma =>
              obtain rfl : s = R.l.length := by omega
              go_wp2
              go_roundw
              case rel => exact ⟨q + 1, by omega, by go_num, HO3⟩
              case measure => simp [intOf]; omega
        · as_aux_lemma =>
          obtain rfl : q = u.rows.length := by omega
          go_wp2
          go_roundw
          case rel => exact ⟨k + 1, by omega, by go_num, HO2⟩
          case measure => simp [intOf]; omega
    · obtain rfl : k = ms.length := by omega
      go_wp2_with fail
      refine (HMS.out wo HO.out.below).mono ?_
      rintro r w12 ⟨rfl, hb12⟩
      have hb512 := HO.out.below.trans (hb12.mono HO.out.below.size)
      have hfin := hb5.trans (hb512.mono hb5.size)
      clear hb12
      go_wp2
      go_ret
      exact ⟨rfl, hfin⟩

theorem laid_met (os : Os) : laidMet Tryd.prog Rows.matchSortsRow.laid ((laidWorld os #[.slice none 0 0]).forCall (fun _ _ => 0) ⟨#[], #[.slice none 0 0], []⟩).memory := laidMet_of_run' 8 (by kernel_rfl) (by kernel_rfl)
theorem reads (os : Os) {H : Type} (enc : TypeId × Value → H) : ∃ places, DataW.whole enc Tryd.prog ((laidWorld os #[.slice none 0 0]).forCall (fun _ _ => 0) ⟨#[], #[.slice none 0 0], []⟩).memory Tryd.f3.params.toList Rows.matchSortsSpec.vars false (#[.slice none 0 0] : Array Value).toList 8 = some ([.nil], [], places) := ⟨[], by kernel_rfl⟩
theorem rec0 : (Tryd.f3.params.toList.all fun t => Tryd.prog.readableRec t && decide (t < Tryd.prog.types.size)) = true := by kernel_rfl
set_option maxRecDepth 100000 in
theorem lifted (os : Os) (started : os.Started) (H : Type) (enc : TypeId × Value → H) (F : Stop.Interp) :
    ReturnsInHanded {} Tryd.checked os 3 .any ((OpenSpec.ofChange Rows.matchSortsSpec).preRow enc Tryd.prog Tryd.f3 Rows.matchSortsRow.domain false Rows.matchSortsRow.laid) (((OpenSpec.ofChange Rows.matchSortsSpec).at F).post enc Tryd.prog Tryd.f3 false true false false) := by
  obtain ⟨places, hx⟩ := reads os enc
  refine law_stepC (C := Tryd.checked) (s := Rows.matchSortsSpec) (tb := 4) own started (by kernel_rfl) Tryd.func3
    (witness_row_at (enc := enc) (C := Tryd.checked) false (laidWorld os #[.slice none 0 0]) #[.slice none 0 0] rfl (by kernel_rfl) (by kernel_rfl) (by kernel_rfl)
      (OpenSpec.preRow_of_cond 8 hx (by kernel_rfl) (fun k hk => by cases hk) (by kernel_rfl) (laid_met os))) laidOut ?_ rfl Tryd.underlying4 rfl ?_ ?_
  · intro t ht
    have := List.all_eq_true.1 rec0 t ht
    simp only [Bool.and_eq_true, decide_eq_true_eq] at this
    exact this
  · intro ds hd
    match ds, hd with
    | [d0], _ => exact ⟨rfl, rfl, rfl⟩
  intro W base args ds p hval hA hsz hL hsh
  have htab := env_of hL hsh
  rw [Tryd.params3] at hA hval hsz
  obtain ⟨v0, vs0, d0, ds0, p0, q0, hargs, rfl, rfl, h0, r0⟩ := trodAll_cons hA
  obtain ⟨rfl, rfl, rfl⟩ := trodAll_nil r0
  obtain rfl : args = #[v0] := by cases args; simp_all
  obtain ⟨A0, c0, ms, rfl, hrd, hok⟩ := open_mats (hval 0 22 v0 rfl rfl) h0 (weights_each (i := 0) hsz rfl rfl)
  exact walk W htab A0 c0 ms hrd hok

theorem said : Rows.MatchSortsSaid :=
  OpenClaim.holds_of_cond 3 Tryd.f3 rfl rfl rfl rfl rfl rfl rfl ⟨rfl, rfl, rfl, rfl, rfl⟩ rfl rfl rfl rfl rfl (by kernel_rfl) Tryd.func3 (by kernel_rfl)
    (of_decide_eq_true (by kernel_rfl)) (by unfold Func.isWrapper; first | (rw [if_pos (by decide +kernel)]; kernel_rfl) | (rw [if_neg (by decide +kernel)]; exact ⟨rfl, rfl⟩))
    (fun os started H enc _ F => by rw [OpenClaim.pre_eq_preRow]; exact lifted os started H enc F)
theorem noStand : (Tryd.f3.params.toList.all fun t => !(Tryd.prog.wantsStandIn t)) = true := by kernel_rfl
theorem plain (f : FuncId) (fn : Func) (hf : Tryd.pinned.checked.prog.funcNamed "auspice/auspicelaw10.MatchSorts" = some f) (hfn : Tryd.pinned.checked.prog.funcs[f]? = some fn) :
    true = Tryd.pinned.checked.prog.looks [] ∧ ∀ (j : Nat) t, fn.params[j]? = some t → Tryd.pinned.checked.prog.wantsStandIn t = false := by
  obtain rfl : f = 3 := Option.some.inj ((show Tryd.prog.funcNamed "auspice/auspicelaw10.MatchSorts" = some 3 by kernel_rfl).symm.trans hf) |>.symm
  obtain rfl : fn = Tryd.f3 := (Option.some.inj (Tryd.func3.symm.trans hfn)).symm
  refine ⟨by kernel_rfl, fun j t ht => ?_⟩
  have hm : t ∈ Tryd.f3.params.toList := by rw [Array.mem_toList_iff]; exact Array.mem_of_getElem? ht
  have := List.all_eq_true.1 noStand t hm
  exact (by simpa using this : Tryd.prog.wantsStandIn t = false)
theorem matchSorts_holds : Rows.MatchSortsCardSaid :=
  Claim7.holds_tied_plain_at .later [] _ _ _ _ said (fun _ h => by cases h) (by kernel_rfl) (fun _ h => by cases h) matchSorts_row_tie rfl ⟨rfl, rfl⟩ (by kernel_rfl) rfl plain (by kernel_rfl)
#print axioms matchSorts_holds
end Go.Proofs.YtbopndepklafgaaDoor.matchSorts
