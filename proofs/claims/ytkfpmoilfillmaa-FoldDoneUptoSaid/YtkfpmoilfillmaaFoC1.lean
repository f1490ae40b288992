/- Layer 12: fold's rule 'decided'. No conditions. -/
import Derived.Test.YtkfpmoilfillmaaFoC
namespace Go.Proofs.Ytkfpmoilfillmaa
open Go.RowKit
set_option linter.unusedVariables false
set_option linter.unusedSimpArgs false


set_option maxRecDepth 100000 in
set_option maxHeartbeats 4000000 in
theorem decided_yes (op kind : Int) (A : Option Addr) (args : List NodeV) (c : Nat) (vk : Int) (vb : Nat) (pos a : Int) (w : World) (hL : logicB op args.length = true) (hr : Rd w w.heap.size A (args.flatMap NodeV.cells)) (hl : args.length ≤ 1048576) :
    Calls Try.prog 25 #[.agg #[], .agg #[.int .i64 op, .int .i64 kind, .slice A args.length c, .int .i64 vk, .int .u64 vb, .int .i64 pos, .int .i64 a]] w fun e w' => e = .returned (Told (.mk op kind A c args vk vb pos a) (decR (.mk op kind A c args vk vb pos a))) ∧ Below w.heap.size w w' := by
  have hlg := logical_any op kind A args.length c vk vb pos a (((w.alloc (.cells #[] 41)).alloc (.cells #[.int .i64 op, .int .i64 kind, .slice A args.length c, .int .i64 vk, .int .u64 vb, .int .i64 pos, .int .i64 a] 27)).alloc (.cells #[.int .i64 0, .int .i64 0, .slice none 0 0, .int .i64 0, .int .u64 0, .int .i64 0, .int .i64 0] 27))
  rw [hL] at hlg
  have HLG := Lib.hid hlg
  have HRD := Lib.hid hr
  generalize hrv : Told (.mk op kind A c args vk vb pos a) (decR (.mk op kind A c args vk vb pos a)) = RV
  have hRno : args.any (isCN (orN op)) = false → RV = .tuple #[.agg #[.int .i64 op, .int .i64 kind, .slice A args.length c, .int .i64 vk, .int .u64 vb, .int .i64 pos, .int .i64 a], .bool false] := by
    intro h
    rw [← hrv, show decR (.mk op kind A c args vk vb pos a) = none from by show (if (logicB op args.length && args.any (isCN (orN op))) = true then _ else _) = none; rw [hL, h]; rfl]
    rfl
  have hRyes : args.any (isCN (orN op)) = true → RV = .tuple #[.agg #[.int .i64 40, .int .i64 kind, .slice none 0 0, .int .i64 2, .int .u64 (orN op), .int .i64 0, .int .i64 0], .bool true] := by
    intro h
    rw [← hrv, show decR (.mk op kind A c args vk vb pos a) = some (.mk 40 kind none 0 [] 2 (orN op) 0 0) from by show (if (logicB op args.length && args.any (isCN (orN op))) = true then _ else _) = _; rw [hL, h]; rfl]
    rfl
  have HRNO := Lib.hid hRno
  have HRYES := Lib.hid hRyes
  have hcon : ∀ w' : World, Calls Try.prog 36 #[.int .i64 kind, .agg #[.int .i64 2, .int .u64 (orN op)]] w' fun e w2 => e = .returned (.agg #[.int .i64 40, .int .i64 kind, .slice none 0 0, .int .i64 2, .int .u64 (orN op), .int .i64 0, .int .i64 0]) ∧ Below w'.heap.size w' w2 := fun w' => constant_any kind ⟨2, orN op⟩ w'
  have HCON := Lib.hid hcon
  clear hlg hr hcon hrv hRno hRyes hL
  go_enter Try.func25, Try.ntmps25
  go_wp2_with (refine wpList_load7 rfl _ rfl rfl (by assumption) ?_)
  refine HLG.out.mono ?_
  rintro e w1 ⟨rfl, hb1⟩
  have kr := (Bk.newAt (w := (w.alloc (.cells #[] 41)).alloc (.cells #[.int .i64 op, .int .i64 kind, .slice A args.length c, .int .i64 vk, .int .u64 vb, .int .i64 pos, .int .i64 a] 27)) (g := w.heap.size + 2) (by simp) 27 #[.int .i64 0, .int .i64 0, .slice none 0 0, .int .i64 0, .int .u64 0, .int .i64 0, .int .i64 0]).old hb1
  have kn := ((Bk.newAt (w := w.alloc (.cells #[] 41)) (g := w.heap.size + 1) (by simp) 27 #[.int .i64 op, .int .i64 kind, .slice A args.length c, .int .i64 vk, .int .u64 vb, .int .i64 pos, .int .i64 a]).alloc (.cells #[.int .i64 0, .int .i64 0, .slice none 0 0, .int .i64 0, .int .u64 0, .int .i64 0, .int .i64 0] 27)).old hb1
  have hbe : Below w.heap.size w w1 := (bel3 _ _ _ _).trans (hb1.mono (by simp; omega))
  have hz := kr.lt
  clear hb1 HLG
  replace hbe := hbe.alloc hbe.size (.cells #[.int .i64 2, .int .u64 (orN op)] 25)
  replace kr := kr.alloc (.cells #[.int .i64 2, .int .u64 (orN op)] 25)
  replace kn := kn.alloc (.cells #[.int .i64 2, .int .u64 (orN op)] 25)
  have kv := Bk.new w1 25 #[.int .i64 2, .int .u64 (orN op)]
  have ka := Lib.hid kn.at7
  have n2 : (w1.alloc (.cells #[.int .i64 2, .int .u64 (orN op)] 25)).cell? ⟨w.heap.size + 1, 2, none⟩ = some (.slice A args.length c) := kn.cell 2
  go_wp2_with fail
  clear n2 ka
  go_loopw [21] (fun i wr => ∃ k : Nat, k ≤ args.length ∧ i = .int .i64 k ∧ Below w.heap.size w wr ∧ Bk wr (w.heap.size + 1) 27 #[.int .i64 op, .int .i64 kind, .slice A args.length c, .int .i64 vk, .int .u64 vb, .int .i64 pos, .int .i64 a] ∧ Bk wr (w.heap.size + 2) 27 #[.int .i64 0, .int .i64 0, .slice none 0 0, .int .i64 0, .int .u64 0, .int .i64 0, .int .i64 0] ∧ Bk wr w1.heap.size 25 #[.int .i64 2, .int .u64 (orN op)] ∧ Hid ((args.take k).any (isCN (orN op)) = false)) (fun i _ => args.length - (intOf i).toNat)
  case atStart => exact ⟨0, Nat.zero_le _, rfl, hbe, kn, kr, kv, Lib.hid (by simp)⟩
  case round =>
    obtain ⟨k, hk, rfl, hbe, kn, kr, kv, hno⟩ := hrel
    have ka := Lib.hid kn.at7
    by_cases hlt : k < args.length
    · obtain ⟨b, o, rfl, hb, hc⟩ := (HRD.out.below hbe).elem (f := NodeV.cells) (n := 7) NodeV.len (by omega) hlt
      have hnext : (args.take (k + 1)).any (isCN (orN op)) = isCN (orN op) args[k] := by
        rw [List.take_succ_eq_append_getElem hlt, List.any_append, hno.out]; simp
      have hyes : isCN (orN op) args[k] = true → args.any (isCN (orN op)) = true := fun h => List.any_eq_true.2 ⟨args[k], by simp, h⟩
      generalize args[k] = x at *
      obtain ⟨op2, kind2, A2, c2, args2, vk2, vb2, pos2, a2⟩ := x
      have HN := Lib.hid hnext
      have HY := Lib.hid hyes
      have hc' : ∀ (j : Nat) (u : Value), [.int .i64 op2, .int .i64 kind2, .slice A2 args2.length c2, .int .i64 vk2, .int .u64 vb2, .int .i64 pos2, .int .i64 a2][j]? = some u → wr.cell? ⟨b, o + k * 7 + j, none⟩ = some u := hc
      have HC := Lib.hid hc'
      clear hc hc' hnext hyes hno
      have hz2 := hbe.size
      have kb := Bk.new wr 27 #[.int .i64 op2, .int .i64 kind2, .slice A2 args2.length c2, .int .i64 vk2, .int .u64 vb2, .int .i64 pos2, .int .i64 a2]
      replace kn := kn.alloc (.cells #[.int .i64 op2, .int .i64 kind2, .slice A2 args2.length c2, .int .i64 vk2, .int .u64 vb2, .int .i64 pos2, .int .i64 a2] 27)
      replace kr := kr.alloc (.cells #[.int .i64 op2, .int .i64 kind2, .slice A2 args2.length c2, .int .i64 vk2, .int .u64 vb2, .int .i64 pos2, .int .i64 a2] 27)
      replace kv := kv.alloc (.cells #[.int .i64 op2, .int .i64 kind2, .slice A2 args2.length c2, .int .i64 vk2, .int .u64 vb2, .int .i64 pos2, .int .i64 a2] 27)
      replace hbe := hbe.alloc hbe.size (.cells #[.int .i64 op2, .int .i64 kind2, .slice A2 args2.length c2, .int .i64 vk2, .int .u64 vb2, .int .i64 pos2, .int .i64 a2] 27)
      replace ka := Lib.hid kn.at7
      have n1 : (wr.alloc (.cells #[.int .i64 op2, .int .i64 kind2, .slice A2 args2.length c2, .int .i64 vk2, .int .u64 vb2, .int .i64 pos2, .int .i64 a2] 27)).cell? ⟨w.heap.size + 1, 1, none⟩ = some (.int .i64 kind) := kn.cell 1
      obtain ⟨v0, v1, _, _⟩ := vcells kv
      have heq : ∀ w : World, (binOp .eql 25 (.agg #[.int .i64 vk2, .int .u64 vb2]) (.agg #[.int .i64 2, .int .u64 (orN op)])).run Try.prog w = .ok (.bool (decide (vk2 = 2) && decide (vb2 = orN op))) w := by
        intro w
        rw [eql_V]
        congr 2
        by_cases h1 : vk2 = 2 <;> by_cases h2 : vb2 = orN op <;> simp [h1, h2] <;> omega
      by_cases h40 : op2 = 40
      · cases hm : decide (vk2 = 2) && decide (vb2 = orN op)
        · as_aux_lemma =>
          rw [hm] at heq
          have hno2 : isCN (orN op) (.mk op2 kind2 A2 c2 args2 vk2 vb2 pos2 a2) = false := by show (decide (op2 = 40) && (decide (vk2 = 2) && decide (vb2 = orN op))) = false; rw [hm]; simp
          subst h40
          go_wp2_with (refine wpList_load7 rfl _ rfl rfl HC.out ?_)
          go_roundw
          case rel => exact ⟨k + 1, by omega, by go_num, hbe, kn, kr, kv, Lib.hid (by rw [HN.out]; exact hno2)⟩
          case measure => simp [intOf]; omega
        · as_aux_lemma =>
          rw [hm] at heq
          have hR := HRYES.out (HY.out (by show (decide (op2 = 40) && (decide (vk2 = 2) && decide (vb2 = orN op))) = true; rw [hm]; simp [h40]))
          subst h40
          have HRE := Lib.hid hR
          clear hR
          clear HRNO HRYES HY HN HRD
          go_wp2_with (refine wpList_load7 rfl _ rfl rfl HC.out ?_)
          refine (HCON.out _).mono ?_
          rintro e w3 ⟨rfl, hb3⟩
          replace kr := kr.old hb3
          replace hbe := hbe.trans (hb3.mono hbe.size)
          clear hb3 kn kv v0 v1 n1 HC heq ka kb HCON hm
          go_wp2_with (refine wpList_store7 rfl _ _ rfl rfl rfl kr rfl ?_; intro w9 k9 b9; replace hbe := b9 _ _ hbe (by omega); clear b9 kr)
          obtain ⟨d0, d1, d2, d3, d4, d5, d6⟩ := ncells k9
          exact bodyPost_ret (v := .tuple #[.agg #[.int .i64 40, .int .i64 kind, .slice none 0 0, .int .i64 2, .int .u64 (orN op), .int .i64 0, .int .i64 0], .bool true]) (by simp [results, Try.results25, go_sem, d0, d1, d2, d3, d4, d5, d6]) rfl ⟨by rw [HRE.out], hbe⟩
      · as_aux_lemma =>
        have g40 : (op2 == 40) = false := by rw [beq_eq_false_iff_ne]; exact h40
        have hno2 : isCN (orN op) (.mk op2 kind2 A2 c2 args2 vk2 vb2 pos2 a2) = false := by show (decide (op2 = 40) && (decide (vk2 = 2) && decide (vb2 = orN op))) = false; simp [h40]
        go_wp2_with (refine wpList_load7 rfl _ rfl rfl HC.out ?_)
        go_roundw
        case rel => exact ⟨k + 1, by omega, by go_num, hbe, kn, kr, kv, Lib.hid (by rw [HN.out]; exact hno2)⟩
        case measure => simp [intOf]; omega
    · as_aux_lemma =>
      obtain rfl : k = args.length := by omega
      have hR := HRNO.out (by have := hno.out; rwa [List.take_length] at this)
      have HRE := Lib.hid hR
      clear hR
      clear kv hno HCON HRD HRNO HRYES
      go_wp2_with (first | (refine wpList_load7 rfl _ rfl rfl ka.out ?_) | (refine wpList_store7 rfl _ _ rfl rfl rfl kr rfl ?_; intro w9 k9 b9; replace hbe := b9 _ _ hbe (by omega); clear b9 kr))
      obtain ⟨d0, d1, d2, d3, d4, d5, d6⟩ := ncells k9
      exact bodyPost_ret (v := .tuple #[.agg #[.int .i64 op, .int .i64 kind, .slice A args.length c, .int .i64 vk, .int .u64 vb, .int .i64 pos, .int .i64 a], .bool false]) (by simp [results, Try.results25, go_sem, d0, d1, d2, d3, d4, d5, d6]) rfl ⟨by rw [HRE.out], hbe⟩
theorem decided_any : RuleOk 25 decR := by
  intro op kind A args c vk vb pos a w d hr hl hall
  by_cases hL : logicB op args.length = true
  · exact decided_yes op kind A args c vk vb pos a w hL hr hl
  · have hL1 : logicB op args.length = false := by simpa using hL
    rw [show decR (.mk op kind A c args vk vb pos a) = none from by show (if (logicB op args.length && args.any (isCN (orN op))) = true then _ else _) = none; rw [hL1]; rfl]
    exact decided_no op kind A args c vk vb pos a w hL1
end Go.Proofs.Ytkfpmoilfillmaa
