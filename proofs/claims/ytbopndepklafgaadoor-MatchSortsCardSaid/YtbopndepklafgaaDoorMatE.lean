/- Layer 10: the reader of lines, by the program. No conditions. -/
import Derived.Test.YtbopndepklafgaaDoorMatD
namespace Go.Proofs.YtbopndepklafgaaDoor
open Go.RowKit
set_option maxRecDepth 10000
set_option linter.unusedVariables false
set_option linter.unusedSimpArgs false

theorem infoI : (Tryd.prog.info? 3).map (fun i => (i.zero, i.size, i.bytes)) = some (some (.int .i64 0), 1, 8) := by kernel_rfl
theorem infoIs : (Tryd.prog.info? 29).map (fun i => (i.zero, i.size, i.bytes)) = some (some (.slice none 0 0), 1, 24) := by kernel_rfl
/-- What the reader tells. -/
def ReadOk (o : Option (Int × Int × List (List Int))) (B : Nat) (w : World) (r : Ending) (w' : World) : Prop :=
  ∃ (m : MatV) (ok : Bool), r = .returned (.tuple #[m.val, .bool ok]) ∧ m.ok w' w'.heap.size ∧ Below B w w' ∧ ok = o.isSome ∧ (m.step, m.branch, m.L) = o.getD (0, 0, [])
def zeroM : MatV := ⟨0, 0, none, 0, []⟩
theorem zero_ok (w : World) (B : Nat) : zeroM.ok w B := ⟨Rd.nil, by simp [zeroM], by simp [zeroM], by simp [zeroM], by simp [zeroM]⟩
set_option maxRecDepth 100000 in
set_option maxHeartbeats 8000000 in
theorem parse_any (s : ByteArray) (w : World) (hE : Env w) (hS : Small s) :
    Calls Tryd.prog 9 #[.string s] w (ReadOk (parseM s) w.heap.size w) := by
  obtain ⟨iI, hI, hI0, hI1, hI2⟩ := info_parts infoI
  obtain ⟨iS, hS', hS0, hS1, hS2⟩ := info_parts infoIs
  obtain ⟨c1, c2, cf, hcut⟩ : ∃ c1 c2 cf, Lib.cut s.data.toList [58] = (c1, c2, cf) := ⟨_, _, _, rfl⟩
  obtain ⟨z, zc1, zc2, zh, zp, zl⟩ := hS
  unfold parseM
  rw [hcut] at zc1 zc2 zh zp zl ⊢
  simp only at zc1 zc2 zh zp zl ⊢
  have HC := Lib.hid hcut
  have HZ := Lib.hid zh
  have HP := Lib.hid zp
  have HL := Lib.hid zl
  have HE := Lib.hid hE
  clear hcut zh zp zl hE
  obtain ⟨hd, hhd⟩ : ∃ hd, splitL (bytes c1) sp = hd := ⟨_, rfl⟩
  have hhl := spl_le (bytes c1) sp (by decide)
  rw [hhd] at HZ hhl ⊢
  have HH := Lib.hid hhd
  clear hhd
  obtain ⟨RES, hres⟩ : ∃ RES, (if cf = true then bodyM s c2 hd else none) = RES := ⟨_, rfl⟩
  rw [hres]
  have HR := Lib.hid hres
  clear hres
  rw [bytes_size] at hhl
  go_enter Tryd.func9, Tryd.ntmps9
  go_wp2_with fail
  have k0 := Bk.new w 27 #[.int .i64 0, .int .i64 0, .slice none 0 0]
  have hbW : Below w.heap.size w (w.alloc (.cells #[.int .i64 0, .int .i64 0, .slice none 0 0] 27)) := (Below.refl _ _).alloc (Nat.le_refl _) _
  generalize w.alloc (.cells #[.int .i64 0, .int .i64 0, .slice none 0 0] 27) = W at *
  refine (cut_any s ⟨#[58]⟩ c1 c2 cf HC.out W (HE.out.old hbW) z).mono ?_
  rintro r w2 ⟨rfl, hb2⟩
  have hbe2 := hbW.trans (hb2.mono hbW.size)
  have k2 := k0.old hb2
  clear k0 hb2 hbW
  go_wp2_with fail
  refine (split_any (bytes c1) sp _ (HE.out.old hbe2) (by rw [bytes_size]; exact zc1) (by decide)).mono ?_
  rintro r w3 ⟨hA, rfl, hrd, hb3, -⟩
  rw [HH.out] at hrd ⊢
  have HRD := Lib.hid hrd
  have hbe3 := hbe2.trans (hb3.mono hbe2.size)
  have k3 := k2.old hb3
  clear k2 hb3 hrd hbe2
  have d0 := k3.cell 0
  have d1 := k3.cell 1
  have d2 := k3.cell 2
  have f0 := k3.frozen 0
  have f1 := k3.frozen 1
  have f2 := k3.frozen 2
  have hk3 := k3.lt
  cases cf
  · rw [if_neg (by decide)] at HR
    go_wp2
    refine bodyPost_ret (v := .tuple #[.agg #[.int .i64 0, .int .i64 0, .slice none 0 0], .bool false]) (by simp [results, Tryd.results9, go_sem, d0, d1, d2]) rfl ?_
    exact ⟨zeroM, false, rfl, zero_ok _ _, by repeat (first | exact hbe3 | refine Below.setCell ?_ (by simp) _), by rw [← HR.out]; rfl, by rw [← HR.out]; rfl⟩
  rw [if_pos rfl] at HR
  by_cases h2 : hd.length = 2
  case neg =>
    have h2I : ((hd.length : Int) != 2) = true := by simp; omega
    have HN : Hid (none = RES) := Lib.hid (by
      rw [← HR.out]
      match hd, h2 with
      | [], _ => rfl
      | [_], _ => rfl
      | [_, _], h => exact absurd rfl h
      | _ :: _ :: _ :: _, _ => rfl)
    clear h2
    go_wp2
    refine bodyPost_ret (v := .tuple #[.agg #[.int .i64 0, .int .i64 0, .slice none 0 0], .bool false]) (by simp [results, Tryd.results9, go_sem, d0, d1, d2]) rfl ?_
    exact ⟨zeroM, false, rfl, zero_ok _ _, by repeat (first | exact hbe3 | refine Below.setCell ?_ (by simp) _), by rw [← HN.out]; rfl, by rw [← HN.out]; rfl⟩
  obtain ⟨x0, x1, rfl⟩ : ∃ x0 x1, hd = [x0, x1] := by
    match hd, h2 with
    | [a, b], _ => exact ⟨a, b, rfl⟩
  have hz0 := HZ.out x0 (by simp)
  have hz1 := HZ.out x1 (by simp)
  obtain ⟨hb, ho, rfl, hlb, hlc⟩ := HRD.out.at_ (j := 0) (by simp)
  have q0 : w3.cell? ⟨hb, ho, none⟩ = some (.string x0) := hlc 0 _ rfl
  have q1 : w3.cell? ⟨hb, ho + 1, none⟩ = some (.string x1) := hlc 1 _ rfl
  have hst := atoi_range x0
  have hbr := atoi_range x1
  have HR2 : Hid ((if s.size = 0 then none else if bytes (lineT (atoiV x0) (atoiV x1) ((splitL (bytes c2) semi).map partP)) = s then some (atoiV x0, atoiV x1, (splitL (bytes c2) semi).map partP) else none) = RES) := Lib.hid HR.out
  have HLL := Lib.hid (HL.out (atoiV x0) (atoiV x1) hst hbr)
  clear HR HRD HZ h2 hlc HL HH
  have HA0 : Hid (∀ W : World, Env W → Calls Tryd.prog 19 #[.string x0] W fun e w' => ∃ ev, e = .returned (.tuple #[.int .i64 (atoiV x0), ev]) ∧ Below W.heap.size W w') := Lib.hid fun W hE => atoi_any x0 W hE hz0
  have HA1 : Hid (∀ W : World, Env W → Calls Tryd.prog 19 #[.string x1] W fun e w' => ∃ ev, e = .returned (.tuple #[.int .i64 (atoiV x1), ev]) ∧ Below W.heap.size W w') := Lib.hid fun W hE => atoi_any x1 W hE hz1
  generalize atoiV x0 = st at *
  generalize atoiV x1 = br at *
  have hbW : Below w3.heap.size w3 (w3.alloc (.cells #[.int .i64 0, .int .i64 0, .slice none 0 0] 27)) := (Below.refl _ _).alloc (Nat.le_refl _) _
  have n0 := Bk.new w3 27 #[.int .i64 0, .int .i64 0, .slice none 0 0]
  clear d0 d1 d2 f0 f1 f2
  go_upto_region 6 with fail
  generalize w3.alloc (.cells #[.int .i64 0, .int .i64 0, .slice none 0 0] 27) = W at *
  have hbe4 := hbe3.trans (hbW.mono hbe3.size)
  have k4 := k3.old hbW
  have q0' := (bcell hbW _ _ (World.block_lt_of_cell? _ _ q0)).trans q0
  have q1' := (bcell hbW _ _ (World.block_lt_of_cell? _ _ q1)).trans q1
  clear hbW q0 q1 k3
  go_wp2_with fail
  refine (HA0.out W (HE.out.old hbe4)).mono ?_
  rintro r w5 ⟨ev, rfl, hb5⟩
  have n5 := n0.old hb5
  have k5 := k4.old hb5
  have q5 := (bcell hb5 _ _ (World.block_lt_of_cell? _ _ q1')).trans q1'
  have hbe5 := hbe4.trans (hb5.mono hbe4.size)
  have g0 := n5.cell 0
  have gf := n5.frozen 0
  clear q0' q1' n0 k4 hb5 hbe4 HA0
  go_upto_region 7 with fail
  have n6 : Bk (w5.setCell ⟨w3.heap.size, 0, none⟩ (.int .i64 st)) w3.heap.size 27 #[.int .i64 st, .int .i64 0, .slice none 0 0] := n5.put 0 _
  have k6 := k5.far (p := ⟨w3.heap.size, 0, none⟩) (by show w.heap.size ≠ w3.heap.size; omega) (.int .i64 st)
  have q6 : (w5.setCell ⟨w3.heap.size, 0, none⟩ (.int .i64 st)).cell? ⟨hb, ho + 1, none⟩ = some (.string x1) := by
    rw [World.cell?_setCell_other _ _ _ _ (by intro e; injection e with e1; omega)]; exact q5
  have hbe6 : Below w.heap.size w (w5.setCell ⟨w3.heap.size, 0, none⟩ (.int .i64 st)) := hbe5.setCell (by show w.heap.size ≤ w3.heap.size; omega) _
  clear g0 gf n5 k5 q5 hbe5
  generalize w5.setCell ⟨w3.heap.size, 0, none⟩ (.int .i64 st) = W6 at *
  go_wp2_with fail
  refine (HA1.out W6 (HE.out.old hbe6)).mono ?_
  rintro r w7 ⟨ev2, rfl, hb7⟩
  have n7 := n6.old hb7
  have k7 := k6.old hb7
  have hbe7 := hbe6.trans (hb7.mono hbe6.size)
  have g0 := n7.cell 1
  have gf := n7.frozen 1
  clear q6 n6 k6 hb7 hbe6 HA1
  go_upto_region 8 with fail
  have n8 : Bk (w7.setCell ⟨w3.heap.size, 1, none⟩ (.int .i64 br)) w3.heap.size 27 #[.int .i64 st, .int .i64 br, .slice none 0 0] := n7.put 1 _
  have k8 := k7.far (p := ⟨w3.heap.size, 1, none⟩) (by show w.heap.size ≠ w3.heap.size; omega) (.int .i64 br)
  have hbe8 : Below w.heap.size w (w7.setCell ⟨w3.heap.size, 1, none⟩ (.int .i64 br)) := hbe7.setCell (by show w.heap.size ≤ w3.heap.size; omega) _
  clear g0 gf n7 k7 hbe7
  generalize w7.setCell ⟨w3.heap.size, 1, none⟩ (.int .i64 br) = W8 at *
  go_wp2_with fail
  refine (split_any (bytes c2) semi _ (HE.out.old hbe8) (by rw [bytes_size]; exact zc2) (by decide)).mono ?_
  rintro r w9 ⟨A2, rfl, hrd2, hb9, hA2⟩
  have HA2 : Hid (∀ b o, A2 = some ⟨b, o, none⟩ → b ≠ w3.heap.size) := Lib.hid (fun b o e => by have := n8.lt; rw [hA2] at e; injection e with e; injection e with e; omega)
  clear hA2
  have hll := spl_le (bytes c2) semi (by decide)
  rw [bytes_size] at hll
  have n9 := n8.old hb9
  have k9 := k8.old hb9
  have hbe9 := hbe8.trans (hb9.mono hbe8.size)
  have hmb : w3.heap.size < w9.heap.size := n9.lt
  generalize splitL (bytes c2) semi = Ls at *
  have RD2 := Lib.hid hrd2
  clear hrd2 hb9 n8 k8 hbe8
  go_wp2
  go_loopw [51] (fun i wr => ∃ (k : Nat) (A : Option Addr) (c : Nat) (rows : List RowV), k ≤ Ls.length ∧ i = .int .i64 k ∧ Below w.heap.size w wr ∧ Hid (∀ b o, b < w9.heap.size → b ≠ w3.heap.size → wr.cell? ⟨b, o, none⟩ = w9.cell? ⟨b, o, none⟩) ∧ w9.heap.size ≤ wr.heap.size ∧
      Bk wr w.heap.size 27 #[.int .i64 0, .int .i64 0, .slice none 0 0] ∧
      Bk wr w3.heap.size 27 #[.int .i64 st, .int .i64 br, .slice A k c] ∧ Hid (rows.map (·.l) = (Ls.take k).map partP) ∧
      wr.ownsRow w9.heap.size 29 1 (.slice A k c) k (rows.flatMap RowV.cells) ∧
      Hid (∀ r ∈ rows, wr.ownsRow w9.heap.size 3 1 (.slice r.A r.l.length r.c) r.l.length (ints r.l))) (fun i _ => Ls.length - (intOf i).toNat)
  case atStart => exact ⟨0, none, 0, [], Nat.zero_le _, rfl, hbe9, Lib.hid (fun _ _ _ _ => rfl), Nat.le_refl _, k9, n9, rfl, World.ownsRow_nil _ _ _ _, Lib.hid (by simp)⟩
  case round =>
    obtain ⟨k, A, c, rows, hk, rfl, hbel, hrdk, hsz, hb0, hb1, hsig, hown, heach⟩ := hrel
    obtain ⟨wo, rfl⟩ : ∃ wo : World, wo = wr := ⟨_, rfl⟩
    by_cases hlt : k < Ls.length
    · as_aux_lemma =>
      obtain ⟨b, o, hA', hb, hc⟩ := RD2.out.elem1 hlt
      have hx := HP.out Ls[k] (List.getElem_mem _)
      have hnx : (Ls.take (k + 1)).map partP = (Ls.take k).map partP ++ [partP Ls[k]] := by rw [List.take_succ_eq_append_getElem hlt, List.map_append]; rfl
      have hc' : wo.cell? ⟨b, o + k, none⟩ = some (.string Ls[k]) := (hrdk.out b (o + k) hb (HA2.out _ _ hA')).trans hc
      have HNX := Lib.hid hnx
      rw [hA']
      clear hnx hc
      generalize Ls[k] = x at *
      go_wp2_with fail
      refine (split_any x sp _ (HE.out.old hbel) hx.1 (by decide)).mono ?_
      rintro r w10 ⟨A3, rfl, hrd3, hb10, -⟩
      have hql : (splitL x sp).length ≤ 4294967282 := by
        have h1 := spl_le x sp (by decide)
        have h2 := hx.1
        omega
      have hqp : 0 < (splitL x sp).length := by rw [spl_len x sp (by decide)]; omega
      have HYS := Lib.hid hx.2
      have HPL := Lib.hid (part_len x)
      have HPS := Lib.hid (fun j h h0 => part_snoc x j h h0)
      have RD3 := Lib.hid hrd3
      clear hrd3 hx hc'
      generalize splitL x sp = Q at *
      have hbe10 := hbel.trans (hb10.mono hbel.size)
      have m0 := hb0.old hb10
      have m1 := hb1.old hb10
      have own10 := own_old hown hb10
      have each10 : Hid (∀ r ∈ rows, w10.ownsRow w9.heap.size 3 1 (.slice r.A r.l.length r.c) r.l.length (ints r.l)) := Lib.hid fun r hr => own_old (heach.out r hr) hb10
      have hrd10 : Hid (∀ b o, b < w9.heap.size → b ≠ w3.heap.size → w10.cell? ⟨b, o, none⟩ = w9.cell? ⟨b, o, none⟩) := Lib.hid fun b o h1 h2 => (hb10.cell (p := ⟨b, o, none⟩) (by show b < wo.heap.size; omega)).trans (hrdk.out b o h1 h2)
      have hsz10 : w9.heap.size ≤ w10.heap.size := Nat.le_trans hsz hb10.size
      clear hb10 hbel hb0 hb1 hown heach hrdk hsz
      go_wp2
      go_loopw [11, 58] (fun v i wr => ∃ (j pj : Nat) (A' : Option Addr) (c' : Nat), j ≤ Q.length ∧ Hid (pj = j - 1) ∧ v = .slice A' pj c' ∧ i = .int .i64 j ∧ Below w10.heap.size w10 wr ∧ wr.ownsRow w10.heap.size 3 1 (.slice A' pj c') pj (ints ((partP x).take pj))) (fun _ i _ => Q.length - (intOf i).toNat)
      case atStart => exact ⟨0, 0, none, 0, Nat.zero_le _, rfl, rfl, rfl, Below.refl _ _, World.ownsRow_nil _ _ _ _⟩
      case round =>
        obtain ⟨j, pj, A', c', hj, hpj, rfl, rfl, hbi, howni⟩ := hrel
        have hz := hbi.size
        by_cases hlj : j < Q.length
        · by_cases hj0 : 0 < j
          · as_aux_lemma =>
            obtain ⟨b', o', hA3, hb', hc'⟩ := (RD3.out.below hbi).elem1 hlj
            have hnx2 : ints ((partP x).take (pj + 1)) = ints ((partP x).take pj) ++ [.int .i64 (atoiV Q[j])] := by rw [hpj.out]; exact HPS.out j hlj hj0
            have hys := HYS.out Q[j] (List.getElem_mem _)
            have HN2 := Lib.hid hnx2
            have hpl : pj ≤ 4294967282 := by have := hpj.out; omega
            have hjI : (0 : Int) < (j : Int) := by omega
            rw [hA3]
            clear hnx2
            generalize Q[j] = y at *
            go_wp2_with fail
            refine (atoi_any y wr (HE.out.old (hbe10.trans (hbi.mono hbe10.size))) hys).mono ?_
            rintro r w6 ⟨ev, rfl, hb6⟩
            have hbi6 := hbi.trans (hb6.mono hbi.size)
            have own6 := own_old howni hb6
            have hz6 := hbi6.size
            generalize atoiV y = n at *
            clear hb6 hbi howni hc'
            go_wp2_with (at_builtin; refine wpList_append_rd (by rfl) _ _ 29 (by rfl) w10.heap.size 3 iI _ 1 8 Tryd.underlying29 hI hI0 hI1 hI2 rfl (by decide) (.slice A' pj c') pj _ (by rfl) (own6.alloc _) (w6.heap.size + 1) (some ⟨w6.heap.size, 0, none⟩) 1 1 [.int .i64 n] (by rfl) (Rd.lit rfl _ _) (by rfl) ?c2 ?c3 ?c4 ?c5 ?_)
            case c2 => first | rfl | (intro u hu; simp at hu; subst hu; rfl)
            case c3 => unfold maxLen; omega
            case c4 => omega
            case c5 => first | omega | (simp; omega)
            intro A4 c4 w4 hown4 hg hat
            have hbi4 : Below w10.heap.size w10 w4 := below_own (hbi6.alloc hz6 _) (own6.alloc _) (by omega) hg (by simp; omega)
            clear hg hat own6
            rw [← HN2.out] at hown4
            have hpj2 : Hid (pj + 1 = j + 1 - 1) := Lib.hid (by have := hpj.out; omega)
            clear hpj
            go_wp2
            go_roundw
            case rel => exact ⟨j + 1, pj + 1, A4, c4, by omega, hpj2, rfl, by go_num, hbi4, hown4⟩
            case measure => simp [intOf]; omega
          · as_aux_lemma =>
            obtain ⟨b', o', hA3, hb', hc'⟩ := (RD3.out.below hbi).elem1 hlj
            have hjI : ¬ (0 : Int) < (j : Int) := by omega
            rw [hA3]
            generalize Q[j] = y at *
            have hpj2 : Hid (pj = j + 1 - 1) := Lib.hid (by have := hpj.out; omega)
            clear hpj
            go_wp2
            go_roundw
            case rel => exact ⟨j + 1, pj, A', c', by omega, hpj2, rfl, by go_num, hbi, howni⟩
            case measure => simp [intOf]; omega
        · as_aux_lemma =>
          obtain rfl : j = Q.length := by omega
          obtain rfl : pj = (partP x).length := by have h1 := hpj.out; have h2 := HPL.out; omega
          rw [List.take_length] at howni
          have p0 := m0.old hbi
          have p1 := m1.old hbi
          have ownO := own_old own10 hbi
          have hbeI := hbe10.trans (hbi.mono hbe10.size)
          have HEA : Hid (∀ r ∈ rows, wr.ownsRow w9.heap.size 3 1 (.slice r.A r.l.length r.c) r.l.length (ints r.l)) := Lib.hid fun r hr => own_old (each10.out r hr) hbi
          have hrdI : Hid (∀ b o, b < w9.heap.size → b ≠ w3.heap.size → wr.cell? ⟨b, o, none⟩ = w9.cell? ⟨b, o, none⟩) := Lib.hid fun b o h1 h2 => (hbi.cell (p := ⟨b, o, none⟩) (by show b < w10.heap.size; omega)).trans (hrd10.out b o h1 h2)
          have ownN : wr.ownsRow w9.heap.size 3 1 (.slice A' (partP x).length c') (partP x).length (ints (partP x)) := own_mono howni hsz10
          have hszI : w9.heap.size ≤ wr.heap.size := by omega
          have hws := hbe9.size
          have d2 := p1.cell 2
          have hpI := p1.lt
          clear hbi hbe10 m0 m1 own10 each10 hrd10 howni hpj
          go_wp2_with (at_builtin; refine wpList_append_rd (by rfl) _ _ 25 (by rfl) w9.heap.size 29 iS _ 1 24 Tryd.underlying25 hS' hS0 hS1 hS2 rfl (by decide) (.slice A k c) k _ (by rfl) (ownO.alloc _) (wr.heap.size + 1) (some ⟨wr.heap.size, 0, none⟩) 1 1 [.slice A' (partP x).length c'] (by rfl) (Rd.lit rfl _ _) (by rfl) ?c2 ?c3 ?c4 ?c5 ?_)
          case c2 => first | rfl | (intro u hu; simp at hu; subst hu; rfl)
          case c3 => unfold maxLen; omega
          case c4 => omega
          case c5 => first | omega | (simp; omega)
          intro A4 c4 w4 hown4 hg hat
          have hb44 : Below w9.heap.size wr w4 := below_own ((Below.refl _ _).alloc hszI _) (ownO.alloc _) (Nat.le_refl _) hg (by simp; omega)
          have s0 := (p0.alloc (.cells #[.slice A' (partP x).length c'] 29)).grown hg (own_ne_bk ownO p0 (by decide))
          have s1 := (p1.alloc (.cells #[.slice A' (partP x).length c'] 29)).grown hg (own_ne_bk ownO p1 (by decide))
          have HE4 : Hid (∀ r ∈ rows ++ [(⟨A', c', partP x⟩ : RowV)], w4.ownsRow w9.heap.size 3 1 (.slice r.A r.l.length r.c) r.l.length (ints r.l)) := by
            refine Lib.hid fun r hr => ?_
            rcases List.mem_append.1 hr with hr | hr
            · exact own_keep ((HEA.out r hr).alloc _) (ownO.alloc _) (by decide) hg
            · obtain rfl := List.mem_singleton.1 hr
              exact own_keep (ownN.alloc _) (ownO.alloc _) (by decide) hg
          have hown5 : w4.ownsRow w9.heap.size 29 1 (.slice A4 (k + 1) c4) (k + 1) ((rows ++ [(⟨A', c', partP x⟩ : RowV)]).flatMap RowV.cells) := by
            rw [List.flatMap_append]; exact hown4
          have HS : Hid ((rows ++ [(⟨A', c', partP x⟩ : RowV)]).map (·.l) = (Ls.take (k + 1)).map partP) := Lib.hid (by rw [List.map_append, hsig.out, HNX.out]; rfl)
          have hbe4 : Below w.heap.size w w4 := hbeI.trans (hb44.mono hws)
          have hsz4 : w9.heap.size ≤ w4.heap.size := Nat.le_trans hszI hb44.size
          have hrd4 : Hid (∀ b o, b < w9.heap.size → b ≠ w3.heap.size → w4.cell? ⟨b, o, none⟩ = w9.cell? ⟨b, o, none⟩) := Lib.hid fun b o h1 h2 => (hb44.cell (p := ⟨b, o, none⟩) h1).trans (hrdI.out b o h1 h2)
          have g2 := s1.cell 2
          have gf := s1.frozen 2
          clear hown4 hg hat ownO ownN HEA hsig HNX hb44 hbeI hszI hrdI p0 p1 d2
          go_wp2
          go_roundw
          case rel =>
            refine ⟨k + 1, A4, c4, rows ++ [(⟨A', c', partP x⟩ : RowV)], by omega, by go_num, hbe4.setCell (by show w.heap.size ≤ w3.heap.size; omega) _, Lib.hid (fun b o h1 h2 => ?_), by simpa using hsz4, s0.far (p := ⟨w3.heap.size, 2, none⟩) (by show w.heap.size ≠ w3.heap.size; omega) _, s1.put 2 _, HS, own_set hown5 s1 (by decide) 2 _, Lib.hid (fun r hr => own_set (HE4.out r hr) s1 (by decide) 2 _)⟩
            rw [World.cell?_setCell_other _ _ _ _ (by intro e; injection e with e1; omega)]
            exact hrd4.out b o h1 h2
          case measure => simp [intOf]; omega
    · obtain rfl : k = Ls.length := by omega
      have hrl : rows.length = Ls.length := by have := congrArg List.length hsig.out; simpa using this
      rw [List.take_length] at hsig
      have hrow : ∀ r ∈ rows, r.l.length ≤ 17592186043904 := by
        intro r hr
        have h1 : r.l ∈ rows.map (·.l) := List.mem_map_of_mem hr
        rw [hsig.out] at h1
        obtain ⟨x, h2, h3⟩ := List.mem_map.1 h1
        have h4 := (HP.out x h2).1
        have h5 := spl_le x sp (by decide)
        have h6 := part_len x
        rw [← h3]; omega
      have HROW := Lib.hid hrow
      have hmL : (⟨st, br, A, c, rows⟩ : MatV).L = Ls.map partP := hsig.out
      have hm : (⟨st, br, A, c, rows⟩ : MatV).ok wo wo.heap.size := by
        rw [← hrl] at hown
        exact ⟨own_rd hown, by show rows.length ≤ _; omega, fun r hr => ⟨own_rd (heach.out r hr), hrow r hr⟩, hst, hbr⟩
      have hln := line_any ⟨st, br, A, c, rows⟩ wo hm (HE.out.old hbel).tab (fun _ => by show (lineL st br (⟨st, br, A, c, rows⟩ : MatV).L).length ≤ _; rw [hmL]; exact HLL.out)
      rw [hmL] at hln
      have HLN := Lib.hid hln
      have HML := Lib.hid hmL
      clear hln hm hmL hrow hrdk hsz hsig
      unfold MatV.val at HLN
      simp only at HLN
      generalize lineT st br (Ls.map partP) = T at *
      generalize Ls.map partP = LL at *
      have a0 := hb0.cell 0
      have a1 := hb0.cell 1
      have a2 := hb0.cell 2
      have e0 := hb0.frozen 0
      have e1 := hb0.frozen 1
      have e2 := hb0.frozen 2
      have hbz := hb0.lt
      by_cases hs0 : s.size = 0
      · as_aux_lemma =>
        have hse : s = ⟨#[]⟩ := ByteArray.ext (Array.eq_empty_of_size_eq_zero hs0)
        have HN : Hid (none = RES) := Lib.hid (by rw [← HR2.out, if_pos hs0])
        clear HR2 HLN hs0
        subst hse
        go_wp2
        refine bodyPost_ret (v := .tuple #[.agg #[.int .i64 0, .int .i64 0, .slice none 0 0], .bool false]) (by simp [results, Tryd.results9, go_sem, a0, a1, a2]) rfl ?_
        exact ⟨zeroM, false, rfl, zero_ok _ _, by repeat (first | exact hbel | refine Below.setCell ?_ (by simp) _), by rw [← HN.out]; rfl, by rw [← HN.out]; rfl⟩
      have hse : ¬ s.toList = [] := by
        intro e
        rw [ByteArray.toList_eq] at e
        have h1 : s.data.toList.length = 0 := by rw [e]; rfl
        exact hs0 (by rw [Array.length_toList] at h1; exact h1)
      have hse2 : s.toList.isEmpty = false := by cases h : s.toList with | nil => exact absurd h hse | cons _ _ => rfl
      have v0 := hb1.cell 0
      have v1 := hb1.cell 1
      have v2 := hb1.cell 2
      have HRL := Lib.hid hrl
      rw [hrl] at HLN
      clear hrl
      go_wp2_with fail
      refine HLN.out.mono ?_
      rintro r w11 ⟨rfl, hb11⟩
      have hb0' := hb0.old hb11
      have hb1' := hb1.old hb11
      have own' := own_old hown hb11
      have hbe11 := hbel.trans (hb11.mono hbel.size)
      have HEA : Hid (∀ r ∈ rows, w11.ownsRow w9.heap.size 3 1 (.slice r.A r.l.length r.c) r.l.length (ints r.l)) := Lib.hid fun r hr => own_old (heach.out r hr) hb11
      clear a0 a1 a2 e0 e1 e2 v0 v1 v2 hb0 hb1 hown heach hb11 hbel HLN
      have a0 := hb0'.cell 0
      have a1 := hb0'.cell 1
      have a2 := hb0'.cell 2
      have e0 := hb0'.frozen 0
      have e1 := hb0'.frozen 1
      have e2 := hb0'.frozen 2
      have v0 := hb1'.cell 0
      have v1 := hb1'.cell 1
      have v2 := hb1'.cell 2
      have hTL : ∀ a b : ByteArray, a.toList = b.toList → a = b := fun a b e => by rw [ByteArray.toList_eq, ByteArray.toList_eq] at e; exact ByteArray.ext (Array.toList_inj.1 e)
      by_cases hT : bytes T = s
      · have hT2 : ((bytes T).toList == s.toList) = true := by rw [hT]; exact beq_self_eq_true _
        clear hTL
        have HN : Hid (some (st, br, LL) = RES) := Lib.hid (by rw [← HR2.out, if_neg hs0, if_pos hT])
        clear HR2 hs0
        go_wp2
        refine bodyPost_ret (v := .tuple #[.agg #[.int .i64 st, .int .i64 br, .slice A Ls.length c], .bool true]) (by simp [results, Tryd.results9, go_sem, a0, a1, a2]) rfl ?_
        have r0 := hb0'.put 0 (.int .i64 st)
        have r1 := r0.put 1 (.int .i64 br)
        have hown2 := own_set (own_set (own_set own' hb0' (by decide) 0 (.int .i64 st)) r0 (by decide) 1 (.int .i64 br)) r1 (by decide) 2 (.slice A Ls.length c)
        have hea2 := fun r hr => own_set (own_set (own_set (HEA.out r hr) hb0' (by decide) 0 (.int .i64 st)) r0 (by decide) 1 (.int .i64 br)) r1 (by decide) 2 (.slice A Ls.length c)
        refine ⟨⟨st, br, A, c, rows⟩, true, by unfold MatV.val; simp only [HRL.out], ?_, ((hbe11.setCell (by simp) _).setCell (by simp) _).setCell (by simp) _, by rw [← HN.out]; rfl, by rw [← HN.out, ← HML.out]; rfl⟩
        exact ⟨own_rd hown2, by show rows.length ≤ _; have := HRL.out; omega, fun r hr => ⟨own_rd (hea2 r hr), HROW.out r hr⟩, hst, hbr⟩
      · have hT2 : ((bytes T).toList == s.toList) = false := beq_eq_false_iff_ne.2 fun e => hT (hTL _ _ e)
        clear hTL
        have HN : Hid (none = RES) := Lib.hid (by rw [← HR2.out, if_neg hs0, if_neg hT])
        clear HR2 hs0
        go_wp2
        refine bodyPost_ret (v := .tuple #[.agg #[.int .i64 0, .int .i64 0, .slice none 0 0], .bool false]) (by simp [results, Tryd.results9, go_sem, a0, a1, a2]) rfl ?_
        exact ⟨zeroM, false, rfl, zero_ok _ _, by repeat (first | exact hbe11 | refine Below.setCell ?_ (by simp) _), by rw [← HN.out]; rfl, by rw [← HN.out]; rfl⟩
end Go.Proofs.YtbopndepklafgaaDoor
