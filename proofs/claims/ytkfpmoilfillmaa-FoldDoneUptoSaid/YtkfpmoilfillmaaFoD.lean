/- Layer 12: fold's rule 'constants'. No conditions. -/
import Derived.Test.YtkfpmoilfillmaaFoC
import Derived.Test.YtkfpmoilfillmaaValI
import Derived.Test.YtkfpmoilfillmaaRegO
namespace Go.Proofs.Ytkfpmoilfillmaa
open Go.RowKit
set_option linter.unusedVariables false
set_option linter.unusedSimpArgs false

def isK : NodeV → Bool
  | .mk op _ _ _ _ _ _ _ _ => decide (op = 40)
def valK : NodeV → V
  | .mk _ _ _ _ _ vk vb _ _ => ⟨vk, vb⟩
def conR : NodeV → Option NodeV
  | .mk op kind A c args vk vb pos a => if args.all isK = true ∧ 1 ≤ op ∧ op ≤ 17 then some (constN kind (applyV op (args.map valK))) else none
theorem valK_fits {d : Nat} {x : NodeV} {w : World} {B : Nat} (h : okN d x w B) : (valK x).fits := by
  match d, x, h with
  | d + 1, .mk .., h => exact h.2.2.1
def conR11 (A Av : Option Addr) (n cv : Nat) (op kind : Int) (X : V) (w : World) : List Spec := [.is (.pointer (some ⟨w.heap.size + 1, 1, none⟩)),
  .is (.int .i64 kind),
  .is (.pointer (some ⟨w.heap.size + 1, 0, none⟩)),
  .is (.int .i64 op),
  .is (.slice Av n cv),
  .is (.agg #[.int .i64 X.k, .int .u64 X.b]),
  .is (.agg #[.int .i64 40, .int .i64 kind, .slice none 0 0, .int .i64 X.k, .int .u64 X.b, .int .i64 0, .int .i64 0])]

set_option maxRecDepth 100000 in
set_option maxHeartbeats 4000000 in
theorem constants_any : RuleOk 24 conR := by
  intro op kind A args c vk vb pos a w d hr hl hall
  obtain ⟨iV, hV, hV0, hV1, hV2⟩ := info_parts infoV
  generalize hrv : Told (.mk op kind A c args vk vb pos a) (conR (.mk op kind A c args vk vb pos a)) = RV
  generalize hX : applyV op (args.map valK) = X
  have hno : ¬ (args.all isK = true ∧ 1 ≤ op ∧ op ≤ 17) → RV = .tuple #[.agg #[.int .i64 op, .int .i64 kind, .slice A args.length c, .int .i64 vk, .int .u64 vb, .int .i64 pos, .int .i64 a], .bool false] := by
    intro h
    rw [← hrv, show conR (.mk op kind A c args vk vb pos a) = none from if_neg h]; rfl
  have hyes : (args.all isK = true ∧ 1 ≤ op ∧ op ≤ 17) → RV = .tuple #[.agg #[.int .i64 40, .int .i64 kind, .slice none 0 0, .int .i64 X.k, .int .u64 X.b, .int .i64 0, .int .i64 0], .bool true] := by
    intro h
    rw [← hrv, show conR (.mk op kind A c args vk vb pos a) = some (constN kind (applyV op (args.map valK))) from if_pos h, hX]; rfl
  have HNO := Lib.hid hno
  have HYES := Lib.hid hyes
  have HRD := Lib.hid hr
  have HF : Hid (∀ y ∈ args.map valK, y.fits) := Lib.hid (by intro y hy; obtain ⟨q, hq, rfl⟩ := List.mem_map.1 hy; exact valK_fits (hall q hq))
  have HX := Lib.hid hX
  have HL := Lib.hid hl
  have hcon : ∀ w' : World, Calls Try.prog 36 #[.int .i64 kind, .agg #[.int .i64 X.k, .int .u64 X.b]] w' fun e w2 => e = .returned (.agg #[.int .i64 40, .int .i64 kind, .slice none 0 0, .int .i64 X.k, .int .u64 X.b, .int .i64 0, .int .i64 0]) ∧ Below w'.heap.size w' w2 := fun w' => constant_any kind X w'
  have HCO := Lib.hid hcon
  clear hr hall hrv hno hyes hX hcon
  go_enter Try.func24, Try.ntmps24
  go_wp2_with fail
  go_loopw [6, 12] (fun vs i wl => ∃ (k : Nat) (Av : Option Addr) (cv : Nat), k ≤ args.length ∧ i = .int .i64 k ∧ vs = .slice Av k cv ∧ Below w.heap.size w wl ∧ Bk wl (w.heap.size + 1) 27 #[.int .i64 op, .int .i64 kind, .slice A args.length c, .int .i64 vk, .int .u64 vb, .int .i64 pos, .int .i64 a] ∧ Bk wl (w.heap.size + 2) 27 #[.int .i64 0, .int .i64 0, .slice none 0 0, .int .i64 0, .int .u64 0, .int .i64 0, .int .i64 0] ∧
      wl.ownsRow (w.heap.size + 3) 25 2 vs k (((args.take k).map valK).flatMap V.cells) ∧ Hid ((args.take k).all isK = true)) (fun _ i _ => args.length - (intOf i).toNat)
  case atStart =>
    refine ⟨0, none, 0, Nat.zero_le _, rfl, rfl, bel3 _ _ _ _, ?_, ?_, World.ownsRow_nil _ _ _ _, Lib.hid (by simp)⟩
    · exact (Bk.newAt (w := w.alloc (.cells #[] 41)) (g := w.heap.size + 1) (by simp) 27 #[.int .i64 op, .int .i64 kind, .slice A args.length c, .int .i64 vk, .int .u64 vb, .int .i64 pos, .int .i64 a]).alloc _
    · exact Bk.newAt (by simp) _ _
  case round =>
    rename World => wl
    obtain ⟨k, Av, cv, hk, rfl, rfl, hbe, kn, kr, hown, hall⟩ := hrel
    have ka := Lib.hid kn.at7
    have hz2 := hbe.size
    have hz := kr.lt
    by_cases hlt : k < args.length
    · obtain ⟨b, o, rfl, hb, hc⟩ := (HRD.out.below hbe).elem (f := NodeV.cells) (n := 7) NodeV.len (by omega) hlt
      have hnext : (args.take (k + 1)).all isK = isK args[k] := by
        rw [List.take_succ_eq_append_getElem hlt, List.all_append, hall.out]; simp
      have hbad : isK args[k] = false → ¬ args.all isK = true := fun h h' => by
        have := List.all_eq_true.1 h' args[k] (by simp); rw [h] at this; cases this
      have hfs := flat_snoc V.cells (args.map valK) k (by simpa using hlt)
      rw [List.getElem_map] at hfs
      generalize args[k] = x at *
      obtain ⟨op2, kind2, A2, c2, args2, vk2, vb2, pos2, a2⟩ := x
      have HN := Lib.hid hnext
      have HBAD := Lib.hid hbad
      have HFS := Lib.hid hfs
      have hc' : ∀ (j : Nat) (u : Value), [.int .i64 op2, .int .i64 kind2, .slice A2 args2.length c2, .int .i64 vk2, .int .u64 vb2, .int .i64 pos2, .int .i64 a2][j]? = some u → wl.cell? ⟨b, o + k * 7 + j, none⟩ = some u := hc
      have HC := Lib.hid hc'
      clear hc hc' hnext hbad hfs hall
      replace kn := kn.alloc (.cells #[.int .i64 op2, .int .i64 kind2, .slice A2 args2.length c2, .int .i64 vk2, .int .u64 vb2, .int .i64 pos2, .int .i64 a2] 27)
      replace kr := kr.alloc (.cells #[.int .i64 op2, .int .i64 kind2, .slice A2 args2.length c2, .int .i64 vk2, .int .u64 vb2, .int .i64 pos2, .int .i64 a2] 27)
      replace hbe := hbe.alloc hbe.size (.cells #[.int .i64 op2, .int .i64 kind2, .slice A2 args2.length c2, .int .i64 vk2, .int .u64 vb2, .int .i64 pos2, .int .i64 a2] 27)
      replace hown := hown.alloc (.cells #[.int .i64 op2, .int .i64 kind2, .slice A2 args2.length c2, .int .i64 vk2, .int .u64 vb2, .int .i64 pos2, .int .i64 a2] 27)
      replace ka := Lib.hid kn.at7
      by_cases h40 : op2 = 40
      · as_aux_lemma =>
        have hK : isK (.mk op2 kind2 A2 c2 args2 vk2 vb2 pos2 a2) = true := decide_eq_true h40
        subst h40
        have HK := Lib.hid hK
        clear hK HBAD HNO HYES HCO HRD HF HX ka
        go_wp2_with (first | (refine wpList_load7 rfl _ rfl rfl HC.out ?_) | (at_builtin; refine wpList_append_rd rfl _ _ 59 rfl (w.heap.size + 3) 25 iV _ 2 16 Try.underlying59 hV hV0 hV1 hV2 rfl (by decide) (.slice Av k cv) k _ rfl (hown.alloc _) (wl.heap.size + 1 + 1) (some ⟨wl.heap.size + 1, 0, none⟩) 1 1 [.int .i64 vk2, .int .u64 vb2] rfl (Rd.lit (by simp) _ _) rfl ?c2 ?c3 ?c4 ?c5 ?_))
        case c2 => intro u hu; simp at hu; rcases hu with rfl | rfl <;> rfl
        case c3 => unfold maxLen; omega
        case c4 => omega
        case c5 => simp; omega
        intro A3 c3 w2 hown2 hg _
        have kn2 := (kn.alloc _).grown hg (own_ne_bk hown kn (by decide))
        have kr2 := (kr.alloc _).grown hg (own_ne_bk hown kr (by decide))
        have hbe2 : Below w.heap.size w w2 := below_own (hbe.alloc hbe.size _) (hown.alloc _) (by omega) hg (by simp; omega)
        have hown3 : w2.ownsRow (w.heap.size + 3) 25 2 (.slice A3 (k + 1) c3) (k + 1) ((List.take (k + 1) (args.map valK)).flatMap V.cells) := by rw [← HFS.out]; exact hown2
        clear hg hown kn kr hbe hown2
        go_wp2
        go_roundw
        case rel => exact ⟨k + 1, A3, c3, by omega, by go_num, rfl, hbe2, kn2, kr2, by rw [List.map_take]; exact hown3, Lib.hid (by rw [HN.out]; exact HK.out)⟩
        case measure => simp [intOf]; omega
      · as_aux_lemma =>
        have g40 : (op2 != 40) = true := by rw [bne_iff_ne]; exact h40
        have hRV := HNO.out (fun h => HBAD.out (decide_eq_false h40) h.1)
        have HRE := Lib.hid hRV
        clear hRV
        clear HBAD HNO HYES HCO HRD HF HX HN HFS hown
        go_wp2_with (first | (refine wpList_load7 rfl _ rfl rfl HC.out ?_) | (refine wpList_load7 rfl _ rfl rfl ka.out ?_) | (refine wpList_store7 rfl _ _ rfl rfl rfl kr rfl ?_; intro w9 k9 b9; replace hbe := b9 _ _ hbe (by omega); clear b9 kr))
        obtain ⟨d0, d1, d2, d3, d4, d5, d6⟩ := ncells k9
        exact bodyPost_ret (v := .tuple #[.agg #[.int .i64 op, .int .i64 kind, .slice (some ⟨b, o, none⟩) args.length c, .int .i64 vk, .int .u64 vb, .int .i64 pos, .int .i64 a], .bool false]) (by simp [results, Try.results24, go_sem, d0, d1, d2, d3, d4, d5, d6]) rfl ⟨by rw [HRE.out], hbe⟩
    · obtain rfl : k = args.length := by omega
      rw [List.take_length] at hown hall
      have HALL := hall
      clear hall
      have hap : ∀ w' : World, Below wl.heap.size wl w' → Calls Try.prog 37 #[.int .i64 op, .slice Av args.length cv] w' fun e w2 => e = .returned (.agg #[.int .i64 X.k, .int .u64 X.b]) ∧ Below w'.heap.size w' w2 := by
        intro w' hw
        have := apply_any op (args.map valK) Av cv w' (own_rd (own_old hown hw)) HF.out (by rw [List.length_map]; omega)
        rw [HX.out, List.length_map] at this
        exact this
      have HAP := Lib.hid hap
      clear hap hown HF HX HRD
      have n0 : wl.cell? ⟨w.heap.size + 1, 0, none⟩ = some (.int .i64 op) := kn.cell 0
      have n1 : wl.cell? ⟨w.heap.size + 1, 1, none⟩ = some (.int .i64 kind) := kn.cell 1
      by_cases h1 : op < 1
      · as_aux_lemma =>
        have hRV := HNO.out (fun h => by omega)
        have HRE := Lib.hid hRV
        clear hRV
        clear HNO HYES HCO HAP n1
        go_wp2_with (first | (refine wpList_load7 rfl _ rfl rfl ka.out ?_) | (refine wpList_store7 rfl _ _ rfl rfl rfl kr rfl ?_; intro w9 k9 b9; replace hbe := b9 _ _ hbe (by omega); clear b9 kr))
        obtain ⟨d0, d1, d2, d3, d4, d5, d6⟩ := ncells k9
        exact bodyPost_ret (v := .tuple #[.agg #[.int .i64 op, .int .i64 kind, .slice A args.length c, .int .i64 vk, .int .u64 vb, .int .i64 pos, .int .i64 a], .bool false]) (by simp [results, Try.results24, go_sem, d0, d1, d2, d3, d4, d5, d6]) rfl ⟨by rw [HRE.out], hbe⟩
      by_cases h17 : 17 < op
      · as_aux_lemma =>
        have hRV := HNO.out (fun h => by omega)
        have HRE := Lib.hid hRV
        clear hRV
        clear HNO HYES HCO HAP n1
        go_wp2_with (first | (refine wpList_load7 rfl _ rfl rfl ka.out ?_) | (refine wpList_store7 rfl _ _ rfl rfl rfl kr rfl ?_; intro w9 k9 b9; replace hbe := b9 _ _ hbe (by omega); clear b9 kr))
        obtain ⟨d0, d1, d2, d3, d4, d5, d6⟩ := ncells k9
        exact bodyPost_ret (v := .tuple #[.agg #[.int .i64 op, .int .i64 kind, .slice A args.length c, .int .i64 vk, .int .u64 vb, .int .i64 pos, .int .i64 a], .bool false]) (by simp [results, Try.results24, go_sem, d0, d1, d2, d3, d4, d5, d6]) rfl ⟨by rw [HRE.out], hbe⟩
      have hRV := HYES.out ⟨HALL.out, by omega, by omega⟩
      have HRE := Lib.hid hRV
      clear hRV
      clear HNO HYES ka HALL
      as_aux_lemma =>
      go_upto_region 11 with fail
      generalize args.length = n at *
      refine wp_region_t 7 (fun k => false) (by kernel_rfl) (fun qk => (conR11 A Av n cv op kind X w).getD qk .any) (by kernel_rfl) ?_ ?_
      · refine BOk.cons rfl [] [3] rfl rfl (by kernel_rfl) (by kernel_rfl) (fun qK qa wr hB qO qF hK => ?_) ?_
        · have e3 : qa.tmps[3]? = some (.pointer (some ⟨w.heap.size + 1, 0, none⟩)) := qO.1.trans rfl
          clear qO qF
          go_simp
          exact hK _ _ (Below.refl _ _) rfl
        refine BOk.cons rfl [0] [] rfl rfl (by kernel_rfl) (by kernel_rfl) (fun qK qa wr hB qO qF hK => ?_) ?_
        · have e35 : qa.tmps[35]? = some (.pointer (some ⟨w.heap.size + 1, 1, none⟩)) := fis qF.1 rfl rfl
          clear qO qF
          have hn1 := (bcell hB _ _ (World.block_lt_of_cell? _ _ n1)).trans n1
          go_simp
          exact hK _ _ (Below.refl _ _) rfl
        refine BOk.cons rfl [] [3] rfl rfl (by kernel_rfl) (by kernel_rfl) (fun qK qa wr hB qO qF hK => ?_) ?_
        · have e3 : qa.tmps[3]? = some (.pointer (some ⟨w.heap.size + 1, 0, none⟩)) := qO.1.trans rfl
          clear qO qF
          go_simp
          exact hK _ _ (Below.refl _ _) rfl
        refine BOk.cons rfl [2] [] rfl rfl (by kernel_rfl) (by kernel_rfl) (fun qK qa wr hB qO qF hK => ?_) ?_
        · have e37 : qa.tmps[37]? = some (.pointer (some ⟨w.heap.size + 1, 0, none⟩)) := fis qF.1 rfl rfl
          clear qO qF
          have hn0 := (bcell hB _ _ (World.block_lt_of_cell? _ _ n0)).trans n0
          go_simp
          exact hK _ _ (Below.refl _ _) rfl
        refine BOk.cons rfl [] [6] rfl rfl (by kernel_rfl) (by kernel_rfl) (fun qK qa wr hB qO qF hK => ?_) ?_
        · have e6 : qa.tmps[6]? = some (.slice Av n cv) := qO.1.trans rfl
          clear qO qF
          go_simp
          exact hK _ _ (Below.refl _ _) rfl
        refine BOk.cons rfl [3, 4] [] rfl rfl (by kernel_rfl) (by kernel_rfl) (fun qK qa wr hB qO qF hK => ?_) ?_
        · have e38 : qa.tmps[38]? = some (.int .i64 op) := fis qF.1 rfl rfl
          have e39 : qa.tmps[39]? = some (.slice Av n cv) := fis qF.2.1 rfl rfl
          clear qO qF
          go_simp
          go_at_call 37
          refine (HAP.out _ hB).mono ?_
          rintro e w2 ⟨rfl, hb2⟩
          exact hK _ _ hb2 rfl
        refine BOk.cons rfl [1, 5] [] rfl rfl (by kernel_rfl) (by kernel_rfl) (fun qK qa wr hB qO qF hK => ?_) ?_
        · have e36 : qa.tmps[36]? = some (.int .i64 kind) := fis qF.1 rfl rfl
          have e40 : qa.tmps[40]? = some (.agg #[.int .i64 X.k, .int .u64 X.b]) := fis qF.2.1 rfl rfl
          clear qO qF
          go_simp
          go_at_call 36
          refine (HCO.out _).mono ?_
          rintro e w2 ⟨rfl, hb2⟩
          exact hK _ _ hb2 rfl
        exact BOk.nil
      intro vals wr hl hB hR hS
      match vals, hl with
      | [z35, z36, z37, z38, z39, z40, z41], _ =>
      have r6 : z41 = .agg #[.int .i64 40, .int .i64 kind, .slice none 0 0, .int .i64 X.k, .int .u64 X.b, .int .i64 0, .int .i64 0] := hR 6 _ rfl
      subst r6
      clear hS
      clear hR
      simp only [List.take_succ_cons, List.take_zero, List.drop_succ_cons, List.drop_zero, List.toList_toArray, List.cons_append, List.nil_append, putAll, Act.put, List.setIfInBounds_toArray, List.set_cons_zero, List.set_cons_succ]
      replace kr := kr.old hB
      replace hbe := hbe.trans (hB.mono hz2)
      clear n0 n1 kn HAP HCO hB
      go_wp2_with (refine wpList_store7 rfl _ _ rfl rfl rfl kr rfl ?_; intro w9 k9 b9; replace hbe := b9 _ _ hbe (by omega); clear b9 kr)
      obtain ⟨d0, d1, d2, d3, d4, d5, d6⟩ := ncells k9
      exact bodyPost_ret (v := .tuple #[.agg #[.int .i64 40, .int .i64 kind, .slice none 0 0, .int .i64 X.k, .int .u64 X.b, .int .i64 0, .int .i64 0], .bool true]) (by simp [results, Try.results24, go_sem, d0, d1, d2, d3, d4, d5, d6]) rfl ⟨by rw [HRE.out], hbe⟩
end Go.Proofs.Ytkfpmoilfillmaa
