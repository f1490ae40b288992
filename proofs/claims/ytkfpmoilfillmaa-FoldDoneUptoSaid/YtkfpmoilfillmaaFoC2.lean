/- Layer 12: fold's rule 'neutral'. No conditions. -/
import Derived.Test.YtkfpmoilfillmaaFoC
namespace Go.Proofs.Ytkfpmoilfillmaa
open Go.RowKit
set_option linter.unusedVariables false
set_option linter.unusedSimpArgs false


set_option maxRecDepth 100000 in
set_option maxHeartbeats 4000000 in
theorem neutral_and (kind : Int) (b o c : Nat) (vk : Int) (vb : Nat) (pos a : Int) (op2 kind2 : Int) (A2 : Option Addr) (args2 : List NodeV) (c2 : Nat) (vk2 : Int) (vb2 : Nat) (pos2 a2 : Int) (op3 kind3 : Int) (A3 : Option Addr) (args3 : List NodeV) (c3 : Nat) (vk3 : Int) (vb3 : Nat) (pos3 a3 : Int) (w : World) (hb : b < w.heap.size)
    (hx : ∀ (j : Nat) (u : Value), [.int .i64 op2, .int .i64 kind2, .slice A2 args2.length c2, .int .i64 vk2, .int .u64 vb2, .int .i64 pos2, .int .i64 a2][j]? = some u → w.cell? ⟨b, o + j, none⟩ = some u) (hy : ∀ (j : Nat) (u : Value), [.int .i64 op3, .int .i64 kind3, .slice A3 args3.length c3, .int .i64 vk3, .int .u64 vb3, .int .i64 pos3, .int .i64 a3][j]? = some u → w.cell? ⟨b, o + 7 + j, none⟩ = some u) (RV : Value)
    (h1 : isCN 1 (.mk op2 kind2 A2 c2 args2 vk2 vb2 pos2 a2) = true → RV = .tuple #[.agg #[.int .i64 op3, .int .i64 kind3, .slice A3 args3.length c3, .int .i64 vk3, .int .u64 vb3, .int .i64 pos3, .int .i64 a3], .bool true]) (h2 : isCN 1 (.mk op2 kind2 A2 c2 args2 vk2 vb2 pos2 a2) = false → isCN 1 (.mk op3 kind3 A3 c3 args3 vk3 vb3 pos3 a3) = true → RV = .tuple #[.agg #[.int .i64 op2, .int .i64 kind2, .slice A2 args2.length c2, .int .i64 vk2, .int .u64 vb2, .int .i64 pos2, .int .i64 a2], .bool true]) (h3 : isCN 1 (.mk op2 kind2 A2 c2 args2 vk2 vb2 pos2 a2) = false → isCN 1 (.mk op3 kind3 A3 c3 args3 vk3 vb3 pos3 a3) = false → RV = .tuple #[.agg #[.int .i64 13, .int .i64 kind, .slice (some ⟨b, o, none⟩) 2 c, .int .i64 vk, .int .u64 vb, .int .i64 pos, .int .i64 a], .bool false]) :
    Calls Try.prog 26 #[.agg #[], .agg #[.int .i64 13, .int .i64 kind, .slice (some ⟨b, o, none⟩) 2 c, .int .i64 vk, .int .u64 vb, .int .i64 pos, .int .i64 a]] w fun e w' => e = .returned RV ∧ Below w.heap.size w w' := by
  have hlg := logical_any 13 kind (some ⟨b, o, none⟩) 2 c vk vb pos a (((w.alloc (.cells #[] 41)).alloc (.cells #[.int .i64 13, .int .i64 kind, .slice (some ⟨b, o, none⟩) 2 c, .int .i64 vk, .int .u64 vb, .int .i64 pos, .int .i64 a] 27)).alloc (.cells #[.int .i64 0, .int .i64 0, .slice none 0 0, .int .i64 0, .int .u64 0, .int .i64 0, .int .i64 0] 27))
  rw [show orN 13 = 0 from rfl, show logicB 13 2 = true from rfl] at hlg
  have HLG := Lib.hid hlg
  have HX := Lib.hid hx
  have HY := Lib.hid hy
  have HB := Lib.hid hb
  have H1 := Lib.hid h1
  have H2 := Lib.hid h2
  have H3 := Lib.hid h3
  clear hlg hx hy h1 h2 h3 hb
  go_enter Try.func26, Try.ntmps26
  go_wp2_with (refine wpList_load7 rfl _ rfl rfl (by assumption) ?_)
  refine HLG.out.mono ?_
  rintro e w1 ⟨rfl, hb1⟩
  have kr := (Bk.newAt (w := (w.alloc (.cells #[] 41)).alloc (.cells #[.int .i64 13, .int .i64 kind, .slice (some ⟨b, o, none⟩) 2 c, .int .i64 vk, .int .u64 vb, .int .i64 pos, .int .i64 a] 27)) (g := w.heap.size + 2) (by simp) 27 #[.int .i64 0, .int .i64 0, .slice none 0 0, .int .i64 0, .int .u64 0, .int .i64 0, .int .i64 0]).old hb1
  have kn := ((Bk.newAt (w := w.alloc (.cells #[] 41)) (g := w.heap.size + 1) (by simp) 27 #[.int .i64 13, .int .i64 kind, .slice (some ⟨b, o, none⟩) 2 c, .int .i64 vk, .int .u64 vb, .int .i64 pos, .int .i64 a]).alloc (.cells #[.int .i64 0, .int .i64 0, .slice none 0 0, .int .i64 0, .int .u64 0, .int .i64 0, .int .i64 0] 27)).old hb1
  have hbe : Below w.heap.size w w1 := (bel3 _ _ _ _).trans (hb1.mono (by simp; omega))
  have hz := kr.lt
  clear hb1 HLG
  have hbx := hbe.alloc hbe.size (.cells #[.int .i64 2, .int .u64 1] 25)
  have krx := kr.alloc (.cells #[.int .i64 2, .int .u64 1] 25)
  have knx := kn.alloc (.cells #[.int .i64 2, .int .u64 1] 25)
  have kvx := Bk.new w1 25 #[.int .i64 2, .int .u64 1]
  have n2 : (w1.alloc (.cells #[.int .i64 2, .int .u64 1] 25)).cell? ⟨w.heap.size + 1, 2, none⟩ = some (.slice (some ⟨b, o, none⟩) 2 c) := knx.cell 2
  clear kr kn hbe
  go_wp2_with fail
  clear n2
  go_loopw [25] (fun i wr => ∃ k : Nat, k ≤ 2 ∧ i = .int .i64 k ∧ Below w.heap.size w wr ∧ Bk wr (w.heap.size + 1) 27 #[.int .i64 13, .int .i64 kind, .slice (some ⟨b, o, none⟩) 2 c, .int .i64 vk, .int .u64 vb, .int .i64 pos, .int .i64 a] ∧ Bk wr (w.heap.size + 2) 27 #[.int .i64 0, .int .i64 0, .slice none 0 0, .int .i64 0, .int .u64 0, .int .i64 0, .int .i64 0] ∧ Bk wr w1.heap.size 25 #[.int .i64 2, .int .u64 1] ∧ Hid ((1 ≤ k → isCN 1 (.mk op2 kind2 A2 c2 args2 vk2 vb2 pos2 a2) = false) ∧ (2 ≤ k → isCN 1 (.mk op3 kind3 A3 c3 args3 vk3 vb3 pos3 a3) = false))) (fun i _ => 2 - (intOf i).toNat)
  case atStart => exact ⟨0, Nat.zero_le _, rfl, hbx, knx, krx, kvx, Lib.hid ⟨fun h => absurd h (by omega), fun h => absurd h (by omega)⟩⟩
  case round =>
    clear hbx knx krx kvx
    obtain ⟨k, hk, rfl, hbe, kn, kr, kv, hno⟩ := hrel
    have ka := Lib.hid kn.at7
    have hcx : ∀ (j : Nat) (u : Value), [.int .i64 op2, .int .i64 kind2, .slice A2 args2.length c2, .int .i64 vk2, .int .u64 vb2, .int .i64 pos2, .int .i64 a2][j]? = some u → wr.cell? ⟨b, o + j, none⟩ = some u := fun j u hu => (bcell hbe _ _ HB.out).trans (HX.out j u hu)
    have hcy : ∀ (j : Nat) (u : Value), [.int .i64 op3, .int .i64 kind3, .slice A3 args3.length c3, .int .i64 vk3, .int .u64 vb3, .int .i64 pos3, .int .i64 a3][j]? = some u → wr.cell? ⟨b, o + 7 + j, none⟩ = some u := fun j u hu => (bcell hbe _ _ HB.out).trans (HY.out j u hu)
    clear HX HY
    obtain rfl | rfl | rfl : k = 0 ∨ k = 1 ∨ k = 2 := by omega
    · as_aux_lemma =>
      clear H3
      have hz2 := hbe.size
      have kb := Bk.new wr 27 #[.int .i64 op2, .int .i64 kind2, .slice A2 args2.length c2, .int .i64 vk2, .int .u64 vb2, .int .i64 pos2, .int .i64 a2]
      replace kn := kn.alloc (.cells #[.int .i64 op2, .int .i64 kind2, .slice A2 args2.length c2, .int .i64 vk2, .int .u64 vb2, .int .i64 pos2, .int .i64 a2] 27)
      replace kr := kr.alloc (.cells #[.int .i64 op2, .int .i64 kind2, .slice A2 args2.length c2, .int .i64 vk2, .int .u64 vb2, .int .i64 pos2, .int .i64 a2] 27)
      replace kv := kv.alloc (.cells #[.int .i64 op2, .int .i64 kind2, .slice A2 args2.length c2, .int .i64 vk2, .int .u64 vb2, .int .i64 pos2, .int .i64 a2] 27)
      replace hbe := hbe.alloc hbe.size (.cells #[.int .i64 op2, .int .i64 kind2, .slice A2 args2.length c2, .int .i64 vk2, .int .u64 vb2, .int .i64 pos2, .int .i64 a2] 27)
      replace ka := Lib.hid kn.at7
      have hcx2 : ∀ (j : Nat) (u : Value), [.int .i64 op2, .int .i64 kind2, .slice A2 args2.length c2, .int .i64 vk2, .int .u64 vb2, .int .i64 pos2, .int .i64 a2][j]? = some u → (wr.alloc (.cells #[.int .i64 op2, .int .i64 kind2, .slice A2 args2.length c2, .int .i64 vk2, .int .u64 vb2, .int .i64 pos2, .int .i64 a2] 27)).cell? ⟨b, o + j, none⟩ = some u := fun j u hu => (bcell ((Below.refl _ _).alloc (Nat.le_refl _) _) _ _ (Nat.lt_of_lt_of_le HB.out hz2)).trans (hcx j u hu)
      have hcy2 : ∀ (j : Nat) (u : Value), [.int .i64 op3, .int .i64 kind3, .slice A3 args3.length c3, .int .i64 vk3, .int .u64 vb3, .int .i64 pos3, .int .i64 a3][j]? = some u → (wr.alloc (.cells #[.int .i64 op2, .int .i64 kind2, .slice A2 args2.length c2, .int .i64 vk2, .int .u64 vb2, .int .i64 pos2, .int .i64 a2] 27)).cell? ⟨b, o + 7 + j, none⟩ = some u := fun j u hu => (bcell ((Below.refl _ _).alloc (Nat.le_refl _) _) _ _ (Nat.lt_of_lt_of_le HB.out hz2)).trans (hcy j u hu)
      have HCX := Lib.hid hcx
      have HCY := Lib.hid hcy
      have HCX2 := Lib.hid hcx2
      have HCY2 := Lib.hid hcy2
      clear hcx hcy hcx2 hcy2
      have n2 : (wr.alloc (.cells #[.int .i64 op2, .int .i64 kind2, .slice A2 args2.length c2, .int .i64 vk2, .int .u64 vb2, .int .i64 pos2, .int .i64 a2] 27)).cell? ⟨w.heap.size + 1, 2, none⟩ = some (.slice (some ⟨b, o, none⟩) 2 c) := kn.cell 2
      obtain ⟨v0, v1, _, _⟩ := vcells kv
      have heq : ∀ w : World, (binOp .eql 25 (.agg #[.int .i64 vk2, .int .u64 vb2]) (.agg #[.int .i64 2, .int .u64 1])).run Try.prog w = .ok (.bool (decide (vk2 = 2) && decide (vb2 = 1))) w := by
        intro w
        rw [eql_V]
        congr 2
        by_cases h1 : vk2 = 2 <;> by_cases h2 : vb2 = 1 <;> simp [h1, h2] <;> omega
      by_cases h40 : op2 = 40
      · cases hm : decide (vk2 = 2) && decide (vb2 = 1)
        · as_aux_lemma =>
          rw [hm] at heq
          have hno2 : isCN 1 (.mk op2 kind2 A2 c2 args2 vk2 vb2 pos2 a2) = false := by show (decide (op2 = 40) && (decide (vk2 = 2) && decide (vb2 = 1))) = false; rw [hm]; simp
          have HR := Lib.hid (show (1 ≤ 0 + 1 → isCN 1 (.mk op2 kind2 A2 c2 args2 vk2 vb2 pos2 a2) = false) ∧ (2 ≤ 0 + 1 → isCN 1 (.mk op3 kind3 A3 c3 args3 vk3 vb3 pos3 a3) = false) from ⟨fun _ => hno2, fun h => absurd h (by omega)⟩)
          subst h40
          clear hno2 H2
          go_wp2_with (refine wpList_load7 rfl _ rfl rfl HCX.out ?_)
          go_roundw
          case rel => exact ⟨0 + 1, by omega, by go_num, hbe, kn, kr, kv, HR⟩
          case measure => simp [intOf]
        · as_aux_lemma =>
          rw [hm] at heq
          have hR := H1.out (by show (decide (op2 = 40) && (decide (vk2 = 2) && decide (vb2 = 1))) = true; rw [hm]; simp [h40])
          subst h40
          have HRE := Lib.hid hR
          clear hR H1 H2 hno hm
          go_wp2_with (first | (refine wpList_load7 rfl _ rfl rfl HCX.out ?_) | (refine wpList_load7 rfl _ rfl rfl HCY2.out ?_) | (refine wpList_store7 rfl _ _ rfl rfl rfl kr rfl ?_; intro w9 k9 b9; replace hbe := b9 _ _ hbe (by omega); clear b9 kr))
          obtain ⟨d0, d1, d2, d3, d4, d5, d6⟩ := ncells k9
          exact bodyPost_ret (v := .tuple #[.agg #[.int .i64 op3, .int .i64 kind3, .slice A3 args3.length c3, .int .i64 vk3, .int .u64 vb3, .int .i64 pos3, .int .i64 a3], .bool true]) (by simp [results, Try.results26, go_sem, d0, d1, d2, d3, d4, d5, d6]) rfl ⟨by rw [HRE.out], hbe⟩
      · as_aux_lemma =>
        have g40 : (op2 == 40) = false := by rw [beq_eq_false_iff_ne]; exact h40
        have hno2 : isCN 1 (.mk op2 kind2 A2 c2 args2 vk2 vb2 pos2 a2) = false := by show (decide (op2 = 40) && (decide (vk2 = 2) && decide (vb2 = 1))) = false; simp [h40]
        have HR := Lib.hid (show (1 ≤ 0 + 1 → isCN 1 (.mk op2 kind2 A2 c2 args2 vk2 vb2 pos2 a2) = false) ∧ (2 ≤ 0 + 1 → isCN 1 (.mk op3 kind3 A3 c3 args3 vk3 vb3 pos3 a3) = false) from ⟨fun _ => hno2, fun h => absurd h (by omega)⟩)
        clear hno2 H2
        go_wp2_with (refine wpList_load7 rfl _ rfl rfl HCX.out ?_)
        go_roundw
        case rel => exact ⟨0 + 1, by omega, by go_num, hbe, kn, kr, kv, HR⟩
        case measure => simp [intOf]
    · as_aux_lemma =>
      have HN1 := Lib.hid (hno.out.1 (by omega))
      clear H1
      have hz2 := hbe.size
      have kb := Bk.new wr 27 #[.int .i64 op3, .int .i64 kind3, .slice A3 args3.length c3, .int .i64 vk3, .int .u64 vb3, .int .i64 pos3, .int .i64 a3]
      replace kn := kn.alloc (.cells #[.int .i64 op3, .int .i64 kind3, .slice A3 args3.length c3, .int .i64 vk3, .int .u64 vb3, .int .i64 pos3, .int .i64 a3] 27)
      replace kr := kr.alloc (.cells #[.int .i64 op3, .int .i64 kind3, .slice A3 args3.length c3, .int .i64 vk3, .int .u64 vb3, .int .i64 pos3, .int .i64 a3] 27)
      replace kv := kv.alloc (.cells #[.int .i64 op3, .int .i64 kind3, .slice A3 args3.length c3, .int .i64 vk3, .int .u64 vb3, .int .i64 pos3, .int .i64 a3] 27)
      replace hbe := hbe.alloc hbe.size (.cells #[.int .i64 op3, .int .i64 kind3, .slice A3 args3.length c3, .int .i64 vk3, .int .u64 vb3, .int .i64 pos3, .int .i64 a3] 27)
      replace ka := Lib.hid kn.at7
      have hcx2 : ∀ (j : Nat) (u : Value), [.int .i64 op2, .int .i64 kind2, .slice A2 args2.length c2, .int .i64 vk2, .int .u64 vb2, .int .i64 pos2, .int .i64 a2][j]? = some u → (wr.alloc (.cells #[.int .i64 op3, .int .i64 kind3, .slice A3 args3.length c3, .int .i64 vk3, .int .u64 vb3, .int .i64 pos3, .int .i64 a3] 27)).cell? ⟨b, o + j, none⟩ = some u := fun j u hu => (bcell ((Below.refl _ _).alloc (Nat.le_refl _) _) _ _ (Nat.lt_of_lt_of_le HB.out hz2)).trans (hcx j u hu)
      have hcy2 : ∀ (j : Nat) (u : Value), [.int .i64 op3, .int .i64 kind3, .slice A3 args3.length c3, .int .i64 vk3, .int .u64 vb3, .int .i64 pos3, .int .i64 a3][j]? = some u → (wr.alloc (.cells #[.int .i64 op3, .int .i64 kind3, .slice A3 args3.length c3, .int .i64 vk3, .int .u64 vb3, .int .i64 pos3, .int .i64 a3] 27)).cell? ⟨b, o + 7 + j, none⟩ = some u := fun j u hu => (bcell ((Below.refl _ _).alloc (Nat.le_refl _) _) _ _ (Nat.lt_of_lt_of_le HB.out hz2)).trans (hcy j u hu)
      have HCX := Lib.hid hcx
      have HCY := Lib.hid hcy
      have HCX2 := Lib.hid hcx2
      have HCY2 := Lib.hid hcy2
      clear hcx hcy hcx2 hcy2
      have n2 : (wr.alloc (.cells #[.int .i64 op3, .int .i64 kind3, .slice A3 args3.length c3, .int .i64 vk3, .int .u64 vb3, .int .i64 pos3, .int .i64 a3] 27)).cell? ⟨w.heap.size + 1, 2, none⟩ = some (.slice (some ⟨b, o, none⟩) 2 c) := kn.cell 2
      obtain ⟨v0, v1, _, _⟩ := vcells kv
      have heq : ∀ w : World, (binOp .eql 25 (.agg #[.int .i64 vk3, .int .u64 vb3]) (.agg #[.int .i64 2, .int .u64 1])).run Try.prog w = .ok (.bool (decide (vk3 = 2) && decide (vb3 = 1))) w := by
        intro w
        rw [eql_V]
        congr 2
        by_cases h1 : vk3 = 2 <;> by_cases h2 : vb3 = 1 <;> simp [h1, h2] <;> omega
      by_cases h40 : op3 = 40
      · cases hm : decide (vk3 = 2) && decide (vb3 = 1)
        · as_aux_lemma =>
          rw [hm] at heq
          have hno2 : isCN 1 (.mk op3 kind3 A3 c3 args3 vk3 vb3 pos3 a3) = false := by show (decide (op3 = 40) && (decide (vk3 = 2) && decide (vb3 = 1))) = false; rw [hm]; simp
          have HR := Lib.hid (show (1 ≤ 1 + 1 → isCN 1 (.mk op2 kind2 A2 c2 args2 vk2 vb2 pos2 a2) = false) ∧ (2 ≤ 1 + 1 → isCN 1 (.mk op3 kind3 A3 c3 args3 vk3 vb3 pos3 a3) = false) from ⟨fun _ => HN1.out, fun _ => hno2⟩)
          subst h40
          clear hno2 H2
          go_wp2_with (refine wpList_load7 rfl _ rfl rfl HCY.out ?_)
          go_roundw
          case rel => exact ⟨1 + 1, by omega, by go_num, hbe, kn, kr, kv, HR⟩
          case measure => simp [intOf]
        · as_aux_lemma =>
          rw [hm] at heq
          have hR := H2.out HN1.out (by show (decide (op3 = 40) && (decide (vk3 = 2) && decide (vb3 = 1))) = true; rw [hm]; simp [h40])
          subst h40
          have HRE := Lib.hid hR
          clear hR H2 H3 HN1 hno hm
          go_wp2_with (first | (refine wpList_load7 rfl _ rfl rfl HCY.out ?_) | (refine wpList_load7 rfl _ rfl rfl HCX2.out ?_) | (refine wpList_store7 rfl _ _ rfl rfl rfl kr rfl ?_; intro w9 k9 b9; replace hbe := b9 _ _ hbe (by omega); clear b9 kr))
          obtain ⟨d0, d1, d2, d3, d4, d5, d6⟩ := ncells k9
          exact bodyPost_ret (v := .tuple #[.agg #[.int .i64 op2, .int .i64 kind2, .slice A2 args2.length c2, .int .i64 vk2, .int .u64 vb2, .int .i64 pos2, .int .i64 a2], .bool true]) (by simp [results, Try.results26, go_sem, d0, d1, d2, d3, d4, d5, d6]) rfl ⟨by rw [HRE.out], hbe⟩
      · as_aux_lemma =>
        have g40 : (op3 == 40) = false := by rw [beq_eq_false_iff_ne]; exact h40
        have hno2 : isCN 1 (.mk op3 kind3 A3 c3 args3 vk3 vb3 pos3 a3) = false := by show (decide (op3 = 40) && (decide (vk3 = 2) && decide (vb3 = 1))) = false; simp [h40]
        have HR := Lib.hid (show (1 ≤ 1 + 1 → isCN 1 (.mk op2 kind2 A2 c2 args2 vk2 vb2 pos2 a2) = false) ∧ (2 ≤ 1 + 1 → isCN 1 (.mk op3 kind3 A3 c3 args3 vk3 vb3 pos3 a3) = false) from ⟨fun _ => HN1.out, fun _ => hno2⟩)
        clear hno2 H2
        go_wp2_with (refine wpList_load7 rfl _ rfl rfl HCY.out ?_)
        go_roundw
        case rel => exact ⟨1 + 1, by omega, by go_num, hbe, kn, kr, kv, HR⟩
        case measure => simp [intOf]
    · as_aux_lemma =>
      have hR := H3.out (hno.out.1 (by omega)) (hno.out.2 (by omega))
      have HRE := Lib.hid hR
      clear hR H1 H2 H3 hno kv hcx hcy
      go_wp2_with (first | (refine wpList_load7 rfl _ rfl rfl ka.out ?_) | (refine wpList_store7 rfl _ _ rfl rfl rfl kr rfl ?_; intro w9 k9 b9; replace hbe := b9 _ _ hbe (by omega); clear b9 kr))
      obtain ⟨d0, d1, d2, d3, d4, d5, d6⟩ := ncells k9
      exact bodyPost_ret (v := .tuple #[.agg #[.int .i64 13, .int .i64 kind, .slice (some ⟨b, o, none⟩) 2 c, .int .i64 vk, .int .u64 vb, .int .i64 pos, .int .i64 a], .bool false]) (by simp [results, Try.results26, go_sem, d0, d1, d2, d3, d4, d5, d6]) rfl ⟨by rw [HRE.out], hbe⟩

set_option maxRecDepth 100000 in
set_option maxHeartbeats 4000000 in
theorem neutral_or (kind : Int) (b o c : Nat) (vk : Int) (vb : Nat) (pos a : Int) (op2 kind2 : Int) (A2 : Option Addr) (args2 : List NodeV) (c2 : Nat) (vk2 : Int) (vb2 : Nat) (pos2 a2 : Int) (op3 kind3 : Int) (A3 : Option Addr) (args3 : List NodeV) (c3 : Nat) (vk3 : Int) (vb3 : Nat) (pos3 a3 : Int) (w : World) (hb : b < w.heap.size)
    (hx : ∀ (j : Nat) (u : Value), [.int .i64 op2, .int .i64 kind2, .slice A2 args2.length c2, .int .i64 vk2, .int .u64 vb2, .int .i64 pos2, .int .i64 a2][j]? = some u → w.cell? ⟨b, o + j, none⟩ = some u) (hy : ∀ (j : Nat) (u : Value), [.int .i64 op3, .int .i64 kind3, .slice A3 args3.length c3, .int .i64 vk3, .int .u64 vb3, .int .i64 pos3, .int .i64 a3][j]? = some u → w.cell? ⟨b, o + 7 + j, none⟩ = some u) (RV : Value)
    (h1 : isCN 0 (.mk op2 kind2 A2 c2 args2 vk2 vb2 pos2 a2) = true → RV = .tuple #[.agg #[.int .i64 op3, .int .i64 kind3, .slice A3 args3.length c3, .int .i64 vk3, .int .u64 vb3, .int .i64 pos3, .int .i64 a3], .bool true]) (h2 : isCN 0 (.mk op2 kind2 A2 c2 args2 vk2 vb2 pos2 a2) = false → isCN 0 (.mk op3 kind3 A3 c3 args3 vk3 vb3 pos3 a3) = true → RV = .tuple #[.agg #[.int .i64 op2, .int .i64 kind2, .slice A2 args2.length c2, .int .i64 vk2, .int .u64 vb2, .int .i64 pos2, .int .i64 a2], .bool true]) (h3 : isCN 0 (.mk op2 kind2 A2 c2 args2 vk2 vb2 pos2 a2) = false → isCN 0 (.mk op3 kind3 A3 c3 args3 vk3 vb3 pos3 a3) = false → RV = .tuple #[.agg #[.int .i64 14, .int .i64 kind, .slice (some ⟨b, o, none⟩) 2 c, .int .i64 vk, .int .u64 vb, .int .i64 pos, .int .i64 a], .bool false]) :
    Calls Try.prog 26 #[.agg #[], .agg #[.int .i64 14, .int .i64 kind, .slice (some ⟨b, o, none⟩) 2 c, .int .i64 vk, .int .u64 vb, .int .i64 pos, .int .i64 a]] w fun e w' => e = .returned RV ∧ Below w.heap.size w w' := by
  have hlg := logical_any 14 kind (some ⟨b, o, none⟩) 2 c vk vb pos a (((w.alloc (.cells #[] 41)).alloc (.cells #[.int .i64 14, .int .i64 kind, .slice (some ⟨b, o, none⟩) 2 c, .int .i64 vk, .int .u64 vb, .int .i64 pos, .int .i64 a] 27)).alloc (.cells #[.int .i64 0, .int .i64 0, .slice none 0 0, .int .i64 0, .int .u64 0, .int .i64 0, .int .i64 0] 27))
  rw [show orN 14 = 1 from rfl, show logicB 14 2 = true from rfl] at hlg
  have HLG := Lib.hid hlg
  have HX := Lib.hid hx
  have HY := Lib.hid hy
  have HB := Lib.hid hb
  have H1 := Lib.hid h1
  have H2 := Lib.hid h2
  have H3 := Lib.hid h3
  clear hlg hx hy h1 h2 h3 hb
  go_enter Try.func26, Try.ntmps26
  go_wp2_with (refine wpList_load7 rfl _ rfl rfl (by assumption) ?_)
  refine HLG.out.mono ?_
  rintro e w1 ⟨rfl, hb1⟩
  have kr := (Bk.newAt (w := (w.alloc (.cells #[] 41)).alloc (.cells #[.int .i64 14, .int .i64 kind, .slice (some ⟨b, o, none⟩) 2 c, .int .i64 vk, .int .u64 vb, .int .i64 pos, .int .i64 a] 27)) (g := w.heap.size + 2) (by simp) 27 #[.int .i64 0, .int .i64 0, .slice none 0 0, .int .i64 0, .int .u64 0, .int .i64 0, .int .i64 0]).old hb1
  have kn := ((Bk.newAt (w := w.alloc (.cells #[] 41)) (g := w.heap.size + 1) (by simp) 27 #[.int .i64 14, .int .i64 kind, .slice (some ⟨b, o, none⟩) 2 c, .int .i64 vk, .int .u64 vb, .int .i64 pos, .int .i64 a]).alloc (.cells #[.int .i64 0, .int .i64 0, .slice none 0 0, .int .i64 0, .int .u64 0, .int .i64 0, .int .i64 0] 27)).old hb1
  have hbe : Below w.heap.size w w1 := (bel3 _ _ _ _).trans (hb1.mono (by simp; omega))
  have hz := kr.lt
  clear hb1 HLG
  have hbx := hbe.alloc hbe.size (.cells #[.int .i64 2, .int .u64 0] 25)
  have krx := kr.alloc (.cells #[.int .i64 2, .int .u64 0] 25)
  have knx := kn.alloc (.cells #[.int .i64 2, .int .u64 0] 25)
  have kvx := Bk.new w1 25 #[.int .i64 2, .int .u64 0]
  have n2 : (w1.alloc (.cells #[.int .i64 2, .int .u64 0] 25)).cell? ⟨w.heap.size + 1, 2, none⟩ = some (.slice (some ⟨b, o, none⟩) 2 c) := knx.cell 2
  clear kr kn hbe
  go_wp2_with fail
  clear n2
  go_loopw [25] (fun i wr => ∃ k : Nat, k ≤ 2 ∧ i = .int .i64 k ∧ Below w.heap.size w wr ∧ Bk wr (w.heap.size + 1) 27 #[.int .i64 14, .int .i64 kind, .slice (some ⟨b, o, none⟩) 2 c, .int .i64 vk, .int .u64 vb, .int .i64 pos, .int .i64 a] ∧ Bk wr (w.heap.size + 2) 27 #[.int .i64 0, .int .i64 0, .slice none 0 0, .int .i64 0, .int .u64 0, .int .i64 0, .int .i64 0] ∧ Bk wr w1.heap.size 25 #[.int .i64 2, .int .u64 0] ∧ Hid ((1 ≤ k → isCN 0 (.mk op2 kind2 A2 c2 args2 vk2 vb2 pos2 a2) = false) ∧ (2 ≤ k → isCN 0 (.mk op3 kind3 A3 c3 args3 vk3 vb3 pos3 a3) = false))) (fun i _ => 2 - (intOf i).toNat)
  case atStart => exact ⟨0, Nat.zero_le _, rfl, hbx, knx, krx, kvx, Lib.hid ⟨fun h => absurd h (by omega), fun h => absurd h (by omega)⟩⟩
  case round =>
    clear hbx knx krx kvx
    obtain ⟨k, hk, rfl, hbe, kn, kr, kv, hno⟩ := hrel
    have ka := Lib.hid kn.at7
    have hcx : ∀ (j : Nat) (u : Value), [.int .i64 op2, .int .i64 kind2, .slice A2 args2.length c2, .int .i64 vk2, .int .u64 vb2, .int .i64 pos2, .int .i64 a2][j]? = some u → wr.cell? ⟨b, o + j, none⟩ = some u := fun j u hu => (bcell hbe _ _ HB.out).trans (HX.out j u hu)
    have hcy : ∀ (j : Nat) (u : Value), [.int .i64 op3, .int .i64 kind3, .slice A3 args3.length c3, .int .i64 vk3, .int .u64 vb3, .int .i64 pos3, .int .i64 a3][j]? = some u → wr.cell? ⟨b, o + 7 + j, none⟩ = some u := fun j u hu => (bcell hbe _ _ HB.out).trans (HY.out j u hu)
    clear HX HY
    obtain rfl | rfl | rfl : k = 0 ∨ k = 1 ∨ k = 2 := by omega
    · as_aux_lemma =>
      clear H3
      have hz2 := hbe.size
      have kb := Bk.new wr 27 #[.int .i64 op2, .int .i64 kind2, .slice A2 args2.length c2, .int .i64 vk2, .int .u64 vb2, .int .i64 pos2, .int .i64 a2]
      replace kn := kn.alloc (.cells #[.int .i64 op2, .int .i64 kind2, .slice A2 args2.length c2, .int .i64 vk2, .int .u64 vb2, .int .i64 pos2, .int .i64 a2] 27)
      replace kr := kr.alloc (.cells #[.int .i64 op2, .int .i64 kind2, .slice A2 args2.length c2, .int .i64 vk2, .int .u64 vb2, .int .i64 pos2, .int .i64 a2] 27)
      replace kv := kv.alloc (.cells #[.int .i64 op2, .int .i64 kind2, .slice A2 args2.length c2, .int .i64 vk2, .int .u64 vb2, .int .i64 pos2, .int .i64 a2] 27)
      replace hbe := hbe.alloc hbe.size (.cells #[.int .i64 op2, .int .i64 kind2, .slice A2 args2.length c2, .int .i64 vk2, .int .u64 vb2, .int .i64 pos2, .int .i64 a2] 27)
      replace ka := Lib.hid kn.at7
      have hcx2 : ∀ (j : Nat) (u : Value), [.int .i64 op2, .int .i64 kind2, .slice A2 args2.length c2, .int .i64 vk2, .int .u64 vb2, .int .i64 pos2, .int .i64 a2][j]? = some u → (wr.alloc (.cells #[.int .i64 op2, .int .i64 kind2, .slice A2 args2.length c2, .int .i64 vk2, .int .u64 vb2, .int .i64 pos2, .int .i64 a2] 27)).cell? ⟨b, o + j, none⟩ = some u := fun j u hu => (bcell ((Below.refl _ _).alloc (Nat.le_refl _) _) _ _ (Nat.lt_of_lt_of_le HB.out hz2)).trans (hcx j u hu)
      have hcy2 : ∀ (j : Nat) (u : Value), [.int .i64 op3, .int .i64 kind3, .slice A3 args3.length c3, .int .i64 vk3, .int .u64 vb3, .int .i64 pos3, .int .i64 a3][j]? = some u → (wr.alloc (.cells #[.int .i64 op2, .int .i64 kind2, .slice A2 args2.length c2, .int .i64 vk2, .int .u64 vb2, .int .i64 pos2, .int .i64 a2] 27)).cell? ⟨b, o + 7 + j, none⟩ = some u := fun j u hu => (bcell ((Below.refl _ _).alloc (Nat.le_refl _) _) _ _ (Nat.lt_of_lt_of_le HB.out hz2)).trans (hcy j u hu)
      have HCX := Lib.hid hcx
      have HCY := Lib.hid hcy
      have HCX2 := Lib.hid hcx2
      have HCY2 := Lib.hid hcy2
      clear hcx hcy hcx2 hcy2
      have n2 : (wr.alloc (.cells #[.int .i64 op2, .int .i64 kind2, .slice A2 args2.length c2, .int .i64 vk2, .int .u64 vb2, .int .i64 pos2, .int .i64 a2] 27)).cell? ⟨w.heap.size + 1, 2, none⟩ = some (.slice (some ⟨b, o, none⟩) 2 c) := kn.cell 2
      obtain ⟨v0, v1, _, _⟩ := vcells kv
      have heq : ∀ w : World, (binOp .eql 25 (.agg #[.int .i64 vk2, .int .u64 vb2]) (.agg #[.int .i64 2, .int .u64 0])).run Try.prog w = .ok (.bool (decide (vk2 = 2) && decide (vb2 = 0))) w := by
        intro w
        rw [eql_V]
        congr 2
        by_cases h1 : vk2 = 2 <;> by_cases h2 : vb2 = 0 <;> simp [h1, h2] <;> omega
      by_cases h40 : op2 = 40
      · cases hm : decide (vk2 = 2) && decide (vb2 = 0)
        · as_aux_lemma =>
          rw [hm] at heq
          have hno2 : isCN 0 (.mk op2 kind2 A2 c2 args2 vk2 vb2 pos2 a2) = false := by show (decide (op2 = 40) && (decide (vk2 = 2) && decide (vb2 = 0))) = false; rw [hm]; simp
          have HR := Lib.hid (show (1 ≤ 0 + 1 → isCN 0 (.mk op2 kind2 A2 c2 args2 vk2 vb2 pos2 a2) = false) ∧ (2 ≤ 0 + 1 → isCN 0 (.mk op3 kind3 A3 c3 args3 vk3 vb3 pos3 a3) = false) from ⟨fun _ => hno2, fun h => absurd h (by omega)⟩)
          subst h40
          clear hno2 H2
          go_wp2_with (refine wpList_load7 rfl _ rfl rfl HCX.out ?_)
          go_roundw
          case rel => exact ⟨0 + 1, by omega, by go_num, hbe, kn, kr, kv, HR⟩
          case measure => simp [intOf]
        · as_aux_lemma =>
          rw [hm] at heq
          have hR := H1.out (by show (decide (op2 = 40) && (decide (vk2 = 2) && decide (vb2 = 0))) = true; rw [hm]; simp [h40])
          subst h40
          have HRE := Lib.hid hR
          clear hR H1 H2 hno hm
          go_wp2_with (first | (refine wpList_load7 rfl _ rfl rfl HCX.out ?_) | (refine wpList_load7 rfl _ rfl rfl HCY2.out ?_) | (refine wpList_store7 rfl _ _ rfl rfl rfl kr rfl ?_; intro w9 k9 b9; replace hbe := b9 _ _ hbe (by omega); clear b9 kr))
          obtain ⟨d0, d1, d2, d3, d4, d5, d6⟩ := ncells k9
          exact bodyPost_ret (v := .tuple #[.agg #[.int .i64 op3, .int .i64 kind3, .slice A3 args3.length c3, .int .i64 vk3, .int .u64 vb3, .int .i64 pos3, .int .i64 a3], .bool true]) (by simp [results, Try.results26, go_sem, d0, d1, d2, d3, d4, d5, d6]) rfl ⟨by rw [HRE.out], hbe⟩
      · as_aux_lemma =>
        have g40 : (op2 == 40) = false := by rw [beq_eq_false_iff_ne]; exact h40
        have hno2 : isCN 0 (.mk op2 kind2 A2 c2 args2 vk2 vb2 pos2 a2) = false := by show (decide (op2 = 40) && (decide (vk2 = 2) && decide (vb2 = 0))) = false; simp [h40]
        have HR := Lib.hid (show (1 ≤ 0 + 1 → isCN 0 (.mk op2 kind2 A2 c2 args2 vk2 vb2 pos2 a2) = false) ∧ (2 ≤ 0 + 1 → isCN 0 (.mk op3 kind3 A3 c3 args3 vk3 vb3 pos3 a3) = false) from ⟨fun _ => hno2, fun h => absurd h (by omega)⟩)
        clear hno2 H2
        go_wp2_with (refine wpList_load7 rfl _ rfl rfl HCX.out ?_)
        go_roundw
        case rel => exact ⟨0 + 1, by omega, by go_num, hbe, kn, kr, kv, HR⟩
        case measure => simp [intOf]
    · as_aux_lemma =>
      have HN1 := Lib.hid (hno.out.1 (by omega))
      clear H1
      have hz2 := hbe.size
      have kb := Bk.new wr 27 #[.int .i64 op3, .int .i64 kind3, .slice A3 args3.length c3, .int .i64 vk3, .int .u64 vb3, .int .i64 pos3, .int .i64 a3]
      replace kn := kn.alloc (.cells #[.int .i64 op3, .int .i64 kind3, .slice A3 args3.length c3, .int .i64 vk3, .int .u64 vb3, .int .i64 pos3, .int .i64 a3] 27)
      replace kr := kr.alloc (.cells #[.int .i64 op3, .int .i64 kind3, .slice A3 args3.length c3, .int .i64 vk3, .int .u64 vb3, .int .i64 pos3, .int .i64 a3] 27)
      replace kv := kv.alloc (.cells #[.int .i64 op3, .int .i64 kind3, .slice A3 args3.length c3, .int .i64 vk3, .int .u64 vb3, .int .i64 pos3, .int .i64 a3] 27)
      replace hbe := hbe.alloc hbe.size (.cells #[.int .i64 op3, .int .i64 kind3, .slice A3 args3.length c3, .int .i64 vk3, .int .u64 vb3, .int .i64 pos3, .int .i64 a3] 27)
      replace ka := Lib.hid kn.at7
      have hcx2 : ∀ (j : Nat) (u : Value), [.int .i64 op2, .int .i64 kind2, .slice A2 args2.length c2, .int .i64 vk2, .int .u64 vb2, .int .i64 pos2, .int .i64 a2][j]? = some u → (wr.alloc (.cells #[.int .i64 op3, .int .i64 kind3, .slice A3 args3.length c3, .int .i64 vk3, .int .u64 vb3, .int .i64 pos3, .int .i64 a3] 27)).cell? ⟨b, o + j, none⟩ = some u := fun j u hu => (bcell ((Below.refl _ _).alloc (Nat.le_refl _) _) _ _ (Nat.lt_of_lt_of_le HB.out hz2)).trans (hcx j u hu)
      have hcy2 : ∀ (j : Nat) (u : Value), [.int .i64 op3, .int .i64 kind3, .slice A3 args3.length c3, .int .i64 vk3, .int .u64 vb3, .int .i64 pos3, .int .i64 a3][j]? = some u → (wr.alloc (.cells #[.int .i64 op3, .int .i64 kind3, .slice A3 args3.length c3, .int .i64 vk3, .int .u64 vb3, .int .i64 pos3, .int .i64 a3] 27)).cell? ⟨b, o + 7 + j, none⟩ = some u := fun j u hu => (bcell ((Below.refl _ _).alloc (Nat.le_refl _) _) _ _ (Nat.lt_of_lt_of_le HB.out hz2)).trans (hcy j u hu)
      have HCX := Lib.hid hcx
      have HCY := Lib.hid hcy
      have HCX2 := Lib.hid hcx2
      have HCY2 := Lib.hid hcy2
      clear hcx hcy hcx2 hcy2
      have n2 : (wr.alloc (.cells #[.int .i64 op3, .int .i64 kind3, .slice A3 args3.length c3, .int .i64 vk3, .int .u64 vb3, .int .i64 pos3, .int .i64 a3] 27)).cell? ⟨w.heap.size + 1, 2, none⟩ = some (.slice (some ⟨b, o, none⟩) 2 c) := kn.cell 2
      obtain ⟨v0, v1, _, _⟩ := vcells kv
      have heq : ∀ w : World, (binOp .eql 25 (.agg #[.int .i64 vk3, .int .u64 vb3]) (.agg #[.int .i64 2, .int .u64 0])).run Try.prog w = .ok (.bool (decide (vk3 = 2) && decide (vb3 = 0))) w := by
        intro w
        rw [eql_V]
        congr 2
        by_cases h1 : vk3 = 2 <;> by_cases h2 : vb3 = 0 <;> simp [h1, h2] <;> omega
      by_cases h40 : op3 = 40
      · cases hm : decide (vk3 = 2) && decide (vb3 = 0)
        · as_aux_lemma =>
          rw [hm] at heq
          have hno2 : isCN 0 (.mk op3 kind3 A3 c3 args3 vk3 vb3 pos3 a3) = false := by show (decide (op3 = 40) && (decide (vk3 = 2) && decide (vb3 = 0))) = false; rw [hm]; simp
          have HR := Lib.hid (show (1 ≤ 1 + 1 → isCN 0 (.mk op2 kind2 A2 c2 args2 vk2 vb2 pos2 a2) = false) ∧ (2 ≤ 1 + 1 → isCN 0 (.mk op3 kind3 A3 c3 args3 vk3 vb3 pos3 a3) = false) from ⟨fun _ => HN1.out, fun _ => hno2⟩)
          subst h40
          clear hno2 H2
          go_wp2_with (refine wpList_load7 rfl _ rfl rfl HCY.out ?_)
          go_roundw
          case rel => exact ⟨1 + 1, by omega, by go_num, hbe, kn, kr, kv, HR⟩
          case measure => simp [intOf]
        · as_aux_lemma =>
          rw [hm] at heq
          have hR := H2.out HN1.out (by show (decide (op3 = 40) && (decide (vk3 = 2) && decide (vb3 = 0))) = true; rw [hm]; simp [h40])
          subst h40
          have HRE := Lib.hid hR
          clear hR H2 H3 HN1 hno hm
          go_wp2_with (first | (refine wpList_load7 rfl _ rfl rfl HCY.out ?_) | (refine wpList_load7 rfl _ rfl rfl HCX2.out ?_) | (refine wpList_store7 rfl _ _ rfl rfl rfl kr rfl ?_; intro w9 k9 b9; replace hbe := b9 _ _ hbe (by omega); clear b9 kr))
          obtain ⟨d0, d1, d2, d3, d4, d5, d6⟩ := ncells k9
          exact bodyPost_ret (v := .tuple #[.agg #[.int .i64 op2, .int .i64 kind2, .slice A2 args2.length c2, .int .i64 vk2, .int .u64 vb2, .int .i64 pos2, .int .i64 a2], .bool true]) (by simp [results, Try.results26, go_sem, d0, d1, d2, d3, d4, d5, d6]) rfl ⟨by rw [HRE.out], hbe⟩
      · as_aux_lemma =>
        have g40 : (op3 == 40) = false := by rw [beq_eq_false_iff_ne]; exact h40
        have hno2 : isCN 0 (.mk op3 kind3 A3 c3 args3 vk3 vb3 pos3 a3) = false := by show (decide (op3 = 40) && (decide (vk3 = 2) && decide (vb3 = 0))) = false; simp [h40]
        have HR := Lib.hid (show (1 ≤ 1 + 1 → isCN 0 (.mk op2 kind2 A2 c2 args2 vk2 vb2 pos2 a2) = false) ∧ (2 ≤ 1 + 1 → isCN 0 (.mk op3 kind3 A3 c3 args3 vk3 vb3 pos3 a3) = false) from ⟨fun _ => HN1.out, fun _ => hno2⟩)
        clear hno2 H2
        go_wp2_with (refine wpList_load7 rfl _ rfl rfl HCY.out ?_)
        go_roundw
        case rel => exact ⟨1 + 1, by omega, by go_num, hbe, kn, kr, kv, HR⟩
        case measure => simp [intOf]
    · as_aux_lemma =>
      have hR := H3.out (hno.out.1 (by omega)) (hno.out.2 (by omega))
      have HRE := Lib.hid hR
      clear hR H1 H2 H3 hno kv hcx hcy
      go_wp2_with (first | (refine wpList_load7 rfl _ rfl rfl ka.out ?_) | (refine wpList_store7 rfl _ _ rfl rfl rfl kr rfl ?_; intro w9 k9 b9; replace hbe := b9 _ _ hbe (by omega); clear b9 kr))
      obtain ⟨d0, d1, d2, d3, d4, d5, d6⟩ := ncells k9
      exact bodyPost_ret (v := .tuple #[.agg #[.int .i64 14, .int .i64 kind, .slice (some ⟨b, o, none⟩) 2 c, .int .i64 vk, .int .u64 vb, .int .i64 pos, .int .i64 a], .bool false]) (by simp [results, Try.results26, go_sem, d0, d1, d2, d3, d4, d5, d6]) rfl ⟨by rw [HRE.out], hbe⟩
section
variable {op kind : Int} {A : Option Addr} {c : Nat} {x y : NodeV} {vk : Int} {vb : Nat} {pos a : Int}
theorem neutR_1 (h : op = 13 ∨ op = 14) (h1 : isCN (1 - orN op) x = true) : neutR (.mk op kind A c [x, y] vk vb pos a) = some y := by
  show (if op = 13 ∨ op = 14 then (if isCN (1 - orN op) x = true then some y else if isCN (1 - orN op) y = true then some x else none) else none) = _
  rw [if_pos h, if_pos h1]
theorem neutR_2 (h : op = 13 ∨ op = 14) (h1 : isCN (1 - orN op) x = false) (h2 : isCN (1 - orN op) y = true) : neutR (.mk op kind A c [x, y] vk vb pos a) = some x := by
  show (if op = 13 ∨ op = 14 then (if isCN (1 - orN op) x = true then some y else if isCN (1 - orN op) y = true then some x else none) else none) = _
  rw [if_pos h, if_neg (by rw [h1]; simp), if_pos h2]
theorem neutR_3 (h : op = 13 ∨ op = 14) (h1 : isCN (1 - orN op) x = false) (h2 : isCN (1 - orN op) y = false) : neutR (.mk op kind A c [x, y] vk vb pos a) = none := by
  show (if op = 13 ∨ op = 14 then (if isCN (1 - orN op) x = true then some y else if isCN (1 - orN op) y = true then some x else none) else none) = _
  rw [if_pos h, if_neg (by rw [h1]; simp), if_neg (by rw [h2]; simp)]
end
theorem neutral_any : RuleOk 26 neutR := by
  intro op kind A args c vk vb pos a w d hr hl hall
  clear hall
  by_cases hL : logicB op args.length = true
  · have hL' := of_decide_eq_true hL
    clear hL
    match args, hL'.1, hr with
    | [.mk op2 kind2 A2 c2 args2 vk2 vb2 pos2 a2, .mk op3 kind3 A3 c3 args3 vk3 vb3 pos3 a3], _, hr =>
      rcases hr with h | ⟨b, o, rfl, hb, hc⟩
      · exact absurd (congrArg List.length h) (by simp [NodeV.cells])
      · have hx : ∀ (j : Nat) (u : Value), [.int .i64 op2, .int .i64 kind2, .slice A2 args2.length c2, .int .i64 vk2, .int .u64 vb2, .int .i64 pos2, .int .i64 a2][j]? = some u → w.cell? ⟨b, o + j, none⟩ = some u := fun j u hu => hc j u (by
          show ([.int .i64 op2, .int .i64 kind2, .slice A2 args2.length c2, .int .i64 vk2, .int .u64 vb2, .int .i64 pos2, .int .i64 a2] ++ ([.int .i64 op3, .int .i64 kind3, .slice A3 args3.length c3, .int .i64 vk3, .int .u64 vb3, .int .i64 pos3, .int .i64 a3] ++ []))[j]? = some u
          rw [List.getElem?_append_left (List.getElem?_eq_some_iff.1 hu).1]; exact hu)
        have hy : ∀ (j : Nat) (u : Value), [.int .i64 op3, .int .i64 kind3, .slice A3 args3.length c3, .int .i64 vk3, .int .u64 vb3, .int .i64 pos3, .int .i64 a3][j]? = some u → w.cell? ⟨b, o + 7 + j, none⟩ = some u := fun j u hu => by
          rw [Nat.add_assoc]
          refine hc (7 + j) u ?_
          show ([.int .i64 op2, .int .i64 kind2, .slice A2 args2.length c2, .int .i64 vk2, .int .u64 vb2, .int .i64 pos2, .int .i64 a2] ++ ([.int .i64 op3, .int .i64 kind3, .slice A3 args3.length c3, .int .i64 vk3, .int .u64 vb3, .int .i64 pos3, .int .i64 a3] ++ []))[7 + j]? = some u
          rw [List.getElem?_append_right (by simp), List.append_nil]
          simpa using hu
        rcases hL'.2 with rfl | rfl
        · refine neutral_and kind b o c vk vb pos a op2 kind2 A2 args2 c2 vk2 vb2 pos2 a2 op3 kind3 A3 args3 c3 vk3 vb3 pos3 a3 w hb hx hy _ (fun h1 => ?_) (fun h1 h2 => ?_) (fun h1 h2 => ?_)
          · rw [neutR_1 (.inl rfl) (show isCN (1 - orN 13) _ = true from h1)]; rfl
          · rw [neutR_2 (.inl rfl) (show isCN (1 - orN 13) _ = false from h1) (show isCN (1 - orN 13) _ = true from h2)]; rfl
          · rw [neutR_3 (.inl rfl) (show isCN (1 - orN 13) _ = false from h1) (show isCN (1 - orN 13) _ = false from h2)]; rfl
        · refine neutral_or kind b o c vk vb pos a op2 kind2 A2 args2 c2 vk2 vb2 pos2 a2 op3 kind3 A3 args3 c3 vk3 vb3 pos3 a3 w hb hx hy _ (fun h1 => ?_) (fun h1 h2 => ?_) (fun h1 h2 => ?_)
          · rw [neutR_1 (.inr rfl) (show isCN (1 - orN 14) _ = true from h1)]; rfl
          · rw [neutR_2 (.inr rfl) (show isCN (1 - orN 14) _ = false from h1) (show isCN (1 - orN 14) _ = true from h2)]; rfl
          · rw [neutR_3 (.inr rfl) (show isCN (1 - orN 14) _ = false from h1) (show isCN (1 - orN 14) _ = false from h2)]; rfl
  · have hL1 : logicB op args.length = false := by simpa using hL
    have : neutR (.mk op kind A c args vk vb pos a) = none := by
      match args, hL1 with
      | [], _ => rfl
      | [_], _ => rfl
      | _ :: _ :: _ :: _, _ => rfl
      | [x, y], h =>
        have : ¬ (op = 13 ∨ op = 14) := fun h' => of_decide_eq_false h ⟨rfl, h'⟩
        exact if_neg this
    rw [this]
    exact neutral_no op kind A args c vk vb pos a w hL1
end Go.Proofs.Ytkfpmoilfillmaa
