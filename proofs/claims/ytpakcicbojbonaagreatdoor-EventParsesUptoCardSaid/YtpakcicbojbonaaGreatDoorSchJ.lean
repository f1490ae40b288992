/- Contract of the document's Check of layer 3. No conditions. -/
import Derived.Test.YtpakcicbojbonaaGreatDoorSchI
namespace Go.Proofs.YtpakcicbojbonaaGreatDoor
set_option maxRecDepth 10000
open Go.RowKit

def lgB (s : SchemaV) (k : Nat) : Bool := (decide (16 < s.types.length) || decide (64 < s.syms.length)) || ((s.types.map sig).take k).any longT
def nmB (s : SchemaV) (k : Nat) : Bool := ((s.types.map sig).take k).any nameT
def kdB (s : SchemaV) (k : Nat) : Bool := ((s.types.map sig).take k).any kindT
def kfB (b : Bool) (T : TypeV) (j : Nat) : Bool := b || (T.fields.take j).any kindBadB
theorem take_sig (s : SchemaV) (k : Nat) (h : k < s.types.length) : (s.types.map sig).take (k + 1) = (s.types.map sig).take k ++ [sig s.types[k]] := by rw [List.take_succ_eq_append_getElem (by simpa using h)]; simp
theorem all_sig (s : SchemaV) : (s.types.map sig).take s.types.length = s.types.map sig := List.take_of_length_le (by simp)
theorem lgB_succ (s : SchemaV) (k : Nat) (h : k < s.types.length) : lgB s (k + 1) = (lgB s k || longT (sig s.types[k])) := by simp [lgB, take_sig s k h, Bool.or_assoc]
theorem nmB_succ (s : SchemaV) (k : Nat) (h : k < s.types.length) : nmB s (k + 1) = (nmB s k || nameT (sig s.types[k])) := by simp [nmB, take_sig s k h]
theorem kdB_succ (s : SchemaV) (k : Nat) (h : k < s.types.length) : kdB s (k + 1) = kfB (kdB s k) s.types[k] s.types[k].fields.length := by simp [kdB, kfB, take_sig s k h, kindT, sig]
theorem kfB_succ (b : Bool) (T : TypeV) (j : Nat) (h : j < T.fields.length) : kfB b T (j + 1) = (kfB b T j || kindBadB T.fields[j]) := by
  rw [kfB, List.take_succ_eq_append_getElem h, List.any_append, ← Bool.or_assoc]; simp [kfB]
theorem lgB_zero (s : SchemaV) : lgB s 0 = (decide (16 < s.types.length) || decide (64 < s.syms.length)) := by simp [lgB]
theorem lgB_zero1 (s : SchemaV) (h : 16 < s.types.length) : lgB s 0 = true := by rw [lgB_zero, decide_eq_true h]; rfl
theorem lgB_zeroI (s : SchemaV) : (decide ((16 : Int) < s.types.length) || decide ((64 : Int) < s.syms.length)) = lgB s 0 := by
  rw [lgB_zero]
  exact congr (congrArg or (decide_eq_decide.2 (by omega))) (decide_eq_decide.2 (by omega))
def tBad (s : SchemaV) : Bool := badB ((s.types.map (·.name)).map (·.toList))
def sBad (s : SchemaV) : Bool := badB (s.syms.map (·.toList))
theorem check_all (s : SchemaV) : checkSig (s.types.map sig) s.syms =
    if lgB s s.types.length = true then 2 else if (nmB s s.types.length || tBad s || sBad s) = true then 10 else if kdB s s.types.length = true then 11 else 0 := by
  have e : ((s.types.map sig).map (·.1.toList)) = (s.types.map (·.name)).map (·.toList) := by simp only [List.map_map]; rfl
  unfold checkSig lgB nmB kdB
  rw [all_sig, e, List.length_map]
  rfl

set_option maxHeartbeats 1600000 in
theorem rcheck_any (s : SchemaV) (w : World) (h : s.ok w w.heap.size) :
    Calls Tryz.prog 18 #[s.val] w fun e w' => e = .returned (.int .i64 (checkSig (s.types.map sig) s.syms)) ∧ Below w.heap.size w w' := by
  obtain ⟨rd, len, each, srd, slen, ssize⟩ := h
  obtain ⟨iS, hS, hS0, hS1, hS2⟩ := info_parts infoStr
  have HR := check_all s
  have HS := Lib.hid HR; clear HR
  unfold SchemaV.val
  rcases Nat.lt_or_ge 16 s.types.length with h16 | h16
  all_goals
    go_enter Tryz.func18, Tryz.ntmps18
    go_wp2
    go_loopw [3, 6, 27] (fun lg v i wr => ∃ (k : Nat) (A : Option Addr) (c : Nat), k ≤ s.types.length ∧ lg = .bool (lgB s k) ∧ v = .slice A k c ∧ i = .int .i64 k ∧ Below w.heap.size w wr ∧
        Bk wr w.heap.size 25 #[.slice s.ta s.types.length s.tc, .slice s.sa s.syms.length s.sc] ∧ wr.ownsRow (w.heap.size + 1) 9 1 (.slice A k c) k ((s.types.take k).map fun t => .string t.name)) (fun _ _ i _ => s.types.length - (intOf i).toNat)
    case atStart => exact ⟨0, none, 0, Nat.zero_le _, by first | rw [lgB_zero1 s h16] | rw [lgB_zeroI], rfl, rfl, (Below.refl _ _).alloc (Nat.le_refl _) _, Bk.new _ _ _, World.ownsRow_nil _ _ _ _⟩
    case round =>
      obtain ⟨k, A, c, hk, rfl, rfl, rfl, hbel, hb0, hown⟩ := hrel
      obtain ⟨wo, rfl⟩ : ∃ wo : World, wo = wr := ⟨_, rfl⟩
      by_cases hlt : k < s.types.length
      · obtain ⟨b, o, hfa, hb, hc⟩ := (rd.below hbel).elem (n := 2) (fun _ => rfl) (by omega) hlt
        have hc0 : wo.cell? ⟨b, o + k * 2, none⟩ = some (.string s.types[k].name) := hc 0 _ rfl
        have hc1 : wo.cell? ⟨b, o + k * 2 + 1, none⟩ = some (.slice s.types[k].fa s.types[k].fields.length s.types[k].fc) := hc 1 _ rfl
        have hls := lgB_succ s k hlt
        have htk : (s.types.take (k + 1)).map (fun t => Value.string t.name) = (s.types.take k).map (fun t => Value.string t.name) ++ [.string s.types[k].name] := by rw [List.take_succ_eq_append_getElem hlt, List.map_append]; rfl
        have HLS := Lib.hid hls
        have HTK := Lib.hid htk
        clear hc hls htk
        rw [hfa]
        have HF := Lib.hid hfa; clear hfa
        generalize s.types[k] = T at *
        have hz := hbel.size
        have hzz := hb0.lt
        generalize hlg : lgB s k = lg at *
        cases lg
        all_goals
          go_wp2_with (at_builtin; refine wpList_append_rd rfl _ _ 23 rfl (w.heap.size + 1) 9 iS _ 1 16 Tryz.underlying23 hS hS0 hS1 hS2 rfl (by decide) (.slice A k c) k ((s.types.take k).map fun t => .string t.name) rfl ((hown.alloc _).alloc _) (wo.heap.size + 1 + 1) (some ⟨wo.heap.size + 1, 0, none⟩) 1 1 [.string T.name] rfl (Rd.lit (by simp) _ _) rfl ?c2 ?c3 ?c4 ?c5 ?_)
          case c2 => first | rfl | (intro u hu; simp at hu; subst hu; rfl)
          case c3 => unfold maxLen; omega
          case c4 => omega
          case c5 => first | omega | (simp; omega)
          intro A2 c2 w2 hown2 hg _
          have hb2 := ((hb0.alloc _).alloc _).grown hg (own_ne_bk hown hb0 (by decide))
          have hbel2 : Below w.heap.size w w2 := below_own ((hbel.alloc hz _).alloc (by simp; omega) _) ((hown.alloc _).alloc _) (by omega) hg (by simp; omega)
          clear hg hown hb0
          go_wp2
          go_roundw
          case rel =>
            rw [← HF.out]
            refine ⟨k + 1, A2, c2, by omega, ?_, rfl, by go_num, hbel2, hb2, by rw [HTK.out]; simpa using hown2⟩
            refine congrArg Value.bool ?_
            rw [HLS.out]
            first
              | rfl
              | (rw [Bool.false_or]; exact decide_eq_decide.2 (by simp only [sig]; omega))
          case measure => simp [intOf]; omega
      · have hfin : k = s.types.length := by omega
        obtain rfl := hfin
        rw [List.take_length] at hown
        generalize hlg : lgB s s.types.length = lg at *
        cases lg
        · have hspec := HS.out
          rw [if_neg (by simp)] at hspec
          have HS2 := Lib.hid hspec; clear hspec HS
          have hc0 : wo.cell? ⟨w.heap.size, 0, none⟩ = some (.slice s.ta s.types.length s.tc) := hb0.cell 0
          have hz := hb0.lt
          go_wp2
          clear hc0 hlt hk
          go_loopw [4, 5, 48] (fun nm kd i wr => ∃ k : Nat, k ≤ s.types.length ∧ nm = .bool (nmB s k) ∧ kd = .bool (kdB s k) ∧ i = .int .i64 k ∧ Below wo.heap.size wo wr) (fun _ _ i _ => s.types.length - (intOf i).toNat)
          case atStart => exact ⟨0, Nat.zero_le _, rfl, rfl, rfl, Below.refl _ _⟩
          case round =>
            obtain ⟨k, hk, rfl, rfl, rfl, hbo⟩ := hrel
            obtain ⟨wp, rfl⟩ : ∃ wp : World, wp = wr := ⟨_, rfl⟩
            have hbelp := hbel.trans (hbo.mono hbel.size)
            by_cases hlt : k < s.types.length
            · obtain ⟨b, o, hfa, hb, hc⟩ := (rd.below hbelp).elem (n := 2) (fun _ => rfl) (by omega) hlt
              have hc0 : wp.cell? ⟨b, o + k * 2, none⟩ = some (.string s.types[k].name) := hc 0 _ rfl
              have hc1 : wp.cell? ⟨b, o + k * 2 + 1, none⟩ = some (.slice s.types[k].fa s.types[k].fields.length s.types[k].fc) := hc 1 _ rfl
              have HN := Lib.hid (nmB_succ s k hlt)
              have HD := Lib.hid (kdB_succ s k hlt)
              obtain ⟨frd, flen, _, fsz⟩ := each s.types[k] (by simp)
              clear hc
              rw [hfa]
              have HF := Lib.hid hfa; clear hfa
              generalize s.types[k] = T at *
              generalize hkd : kdB s k = kd at *
              have HKD := Lib.hid hkd; clear hkd
              have hzo := hbo.size
              go_wp2
              go_loopw [5, 11, 55] (fun kk v i wr => ∃ (j : Nat) (A' : Option Addr) (c' : Nat), j ≤ T.fields.length ∧ kk = .bool (kfB kd T j) ∧ v = .slice A' j c' ∧ i = .int .i64 j ∧ Below wp.heap.size wp wr ∧
                  wr.ownsRow wp.heap.size 9 1 (.slice A' j c') j ((T.fields.take j).map fun f => .string f.name)) (fun _ _ i _ => T.fields.length - (intOf i).toNat)
              case atStart => exact ⟨0, none, 0, Nat.zero_le _, by simp [kfB], rfl, rfl, (Below.refl _ _).alloc (Nat.le_refl _) _, World.ownsRow_nil _ _ _ _⟩
              case round =>
                clear hc0 hc1
                obtain ⟨j, A', c', hj, rfl, rfl, rfl, hbi, howni⟩ := hrel
                by_cases hlj : j < T.fields.length
                · obtain ⟨b, o, hfa, hb, hc⟩ := ((frd.below hbelp).below (hbi.mono hbelp.size)).elem (n := 2) (fun _ => rfl) (by omega) hlj
                  have hc0 : wr.cell? ⟨b, o + j * 2, none⟩ = some (.string T.fields[j].name) := hc 0 _ rfl
                  have hc1 : wr.cell? ⟨b, o + j * 2 + 1, none⟩ = some (.int .i64 T.fields[j].kind) := hc 1 _ rfl
                  have HJ := Lib.hid (kfB_succ kd T j hlj)
                  have htk : (T.fields.take (j + 1)).map (fun f => Value.string f.name) = (T.fields.take j).map (fun f => Value.string f.name) ++ [.string T.fields[j].name] := by rw [List.take_succ_eq_append_getElem hlj, List.map_append]; rfl
                  have HTK := Lib.hid htk
                  clear hc htk
                  rw [hfa]
                  clear hfa
                  generalize T.fields[j] = f at *
                  generalize hkf : kfB kd T j = kf at *
                  have hzi := hbi.size
                  go_wp2_with (at_builtin; refine wpList_append_rd rfl _ _ 23 rfl wp.heap.size 9 iS _ 1 16 Tryz.underlying23 hS hS0 hS1 hS2 rfl (by decide) (.slice A' j c') j ((T.fields.take j).map fun f => .string f.name) rfl ((howni.alloc _).alloc _) (wr.heap.size + 1 + 1) (some ⟨wr.heap.size + 1, 0, none⟩) 1 1 [.string f.name] rfl (Rd.lit (by simp) _ _) rfl ?c2 ?c3 ?c4 ?c5 ?_)
                  case c2 => first | rfl | (intro u hu; simp at hu; subst hu; rfl)
                  case c3 => unfold maxLen; omega
                  case c4 => omega
                  case c5 => first | omega | (simp; omega)
                  intro A2 c2 w2 hown2 hg _
                  have kf0 := ((Bk.new wr 64 #[.string f.name, .int .i64 f.kind]).alloc (.cells #[.string f.name] 9)).grown hg (own_ne_bk ((howni.alloc (.cells #[.string f.name, .int .i64 f.kind] 64)).alloc (.cells #[.string f.name] 9)) ((Bk.new wr 64 #[.string f.name, .int .i64 f.kind]).alloc (.cells #[.string f.name] 9)) (by decide))
                  have hbi2 : Below wp.heap.size wp w2 := below_own ((hbi.alloc hzi _).alloc (by simp; omega) _) ((howni.alloc _).alloc _) (by omega) hg (by simp; omega)
                  have hk1 : w2.cell? ⟨wr.heap.size, 1, none⟩ = some (.int .i64 f.kind) := kf0.cell 1
                  have hkl := kf0.lt
                  clear hg howni kf0 hc0 hc1
                  have HKF := Lib.hid hkf; clear hkf
                  cases kf
                  · by_cases hf1 : f.kind < 1
                    · have HB : Hid (kindBadB f = true) := (by simp [kindBadB, hf1] : kindBadB f = true)
                      go_wp2
                      go_roundw
                      case rel => exact ⟨j + 1, A2, c2, by omega, congrArg Value.bool (by rw [HJ.out, HB.out]; rfl), rfl, by go_num, hbi2, by rw [HTK.out]; simpa using hown2⟩
                      case measure => simp [intOf]; omega
                    · by_cases hf2 : 4 < f.kind
                      · have HB : Hid (kindBadB f = true) := (by simp [kindBadB, hf2] : kindBadB f = true)
                        go_wp2
                        go_roundw
                        case rel => exact ⟨j + 1, A2, c2, by omega, congrArg Value.bool (by rw [HJ.out, HB.out]; first | rfl | simp [hf2]), rfl, by go_num, hbi2, by rw [HTK.out]; simpa using hown2⟩
                        case measure => simp [intOf]; omega
                      · have HB : Hid (kindBadB f = false) := (by simp [kindBadB, hf1, hf2] : kindBadB f = false)
                        go_wp2
                        go_roundw
                        case rel => exact ⟨j + 1, A2, c2, by omega, congrArg Value.bool (by rw [HJ.out, HB.out]; first | rfl | simp [hf2]), rfl, by go_num, hbi2, by rw [HTK.out]; simpa using hown2⟩
                        case measure => simp [intOf]; omega
                  · go_wp2
                    go_roundw
                    case rel => exact ⟨j + 1, A2, c2, by omega, congrArg Value.bool (by rw [HJ.out]; rfl), rfl, by go_num, hbi2, by rw [HTK.out]; simpa using hown2⟩
                    case measure => simp [intOf]; omega
                · obtain rfl : j = T.fields.length := by omega
                  rw [List.take_length] at howni
                  have hbo2 : Below wo.heap.size wo wr := hbo.trans (hbi.mono hzo)
                  have hnl : T.fields.map (fun f => Value.string f.name) = (T.fields.map (·.name)).map .string := by rw [List.map_map]; rfl
                  rw [hnl] at howni
                  have hrd := own_rd howni
                  have hln : (T.fields.map (·.name)).length = T.fields.length := by simp
                  have hnt : badB ((T.fields.map (·.name)).map (·.toList)) = nameT (sig T) := by unfold nameT fieldsOf; rw [List.map_map]; rfl
                  have HNT := Lib.hid hnt
                  have hcall := fun (A : Option Addr) (c : Nat) => bad_any A c (T.fields.map (·.name)) wr.heap.size wr
                  rw [hln, hnt] at hcall
                  have HC := Lib.hid hcall
                  clear hcall hnl hln hnt howni
                  generalize hnm : nmB s k = nm at *
                  have HNM := Lib.hid hnm; clear hnm
                  cases nm
                  · go_wp2_with fail
                    refine (HC.out _ _ hrd (Nat.le_refl _) (by unfold maxLen; omega)).mono ?_
                    rintro e w5 ⟨rfl, hb5⟩
                    have hbo5 := hbo2.trans (hb5.mono hbo2.size)
                    clear hb5 hbo2 hrd
                    go_wp2
                    go_roundw
                    case rel => exact ⟨k + 1, by omega, congrArg Value.bool (by rw [HN.out]; simp), congrArg Value.bool (by rw [HD.out]), by go_num, hbo5⟩
                    case measure => simp [intOf]; omega
                  · go_wp2
                    go_roundw
                    case rel => exact ⟨k + 1, by omega, congrArg Value.bool (by rw [HN.out]; simp), congrArg Value.bool (by rw [HD.out]), by go_num, hbo2⟩
                    case measure => simp [intOf]; omega
            · obtain rfl : k = s.types.length := by omega
              have hown5 := own_old hown hbo
              have hb5 := hb0.old hbo
              have hrd := own_rd hown5
              have hnl : s.types.map (fun t => Value.string t.name) = (s.types.map (·.name)).map .string := by rw [List.map_map]; rfl
              rw [hnl] at hrd
              have hln : (s.types.map (·.name)).length = s.types.length := by simp
              have hcall := fun (A : Option Addr) (c : Nat) => bad_any A c (s.types.map (·.name)) wp.heap.size wp
              have htb : badB ((s.types.map (·.name)).map (·.toList)) = tBad s := rfl
              rw [hln, htb] at hcall
              have hcall2 := fun (A : Option Addr) (c : Nat) (W : World) => bad_any A c s.syms W.heap.size W
              have hsb : badB (s.syms.map (·.toList)) = sBad s := rfl
              rw [hsb] at hcall2
              have HC := Lib.hid hcall
              have HC2 := Lib.hid hcall2
              clear hcall hcall2 hnl hln hown5 hown htb hsb
              generalize hT : tBad s = bT at *
              generalize hY : sBad s = bY at *
              generalize hnm : nmB s s.types.length = nm at *
              generalize hkd : kdB s s.types.length = kd at *
              cases nm
              · go_wp2_with fail
                refine (HC.out _ _ hrd (Nat.le_refl _) (by unfold maxLen; omega)).mono ?_
                rintro e w5 ⟨rfl, hb5'⟩
                have hb6 := hb5.old hb5'
                have hbel5 := hbelp.trans (hb5'.mono hbelp.size)
                have hrs := (srd.below hbel5).more hbel5.size
                clear hb5' hb5 hrd
                have hc1 : w5.cell? ⟨w.heap.size, 1, none⟩ = some (.slice s.sa s.syms.length s.sc) := hb6.cell 1
                cases bT
                · go_wp2_with fail
                  refine (HC2.out _ _ _ hrs (Nat.le_refl _) (by unfold maxLen; omega)).mono ?_
                  rintro e w6 ⟨rfl, hb7⟩
                  have hbel6 := hbel5.trans (hb7.mono hbel5.size)
                  clear hb7 hc1
                  cases bY
                  · cases kd
                    all_goals
                      go_wp2
                      go_ret
                      exact ⟨ret_int (by rw [HS2.out]; simp), hbel6⟩
                  · go_wp2
                    go_ret
                    exact ⟨ret_int (by rw [HS2.out]; simp), hbel6⟩
                · go_wp2
                  go_ret
                  exact ⟨ret_int (by rw [HS2.out]; simp), hbel5⟩
              · go_wp2
                go_ret
                exact ⟨ret_int (by rw [HS2.out]; simp), hbelp⟩
        · go_wp2
          go_ret
          exact ⟨ret_int (by rw [HS.out]; simp), hbel⟩
end Go.Proofs.YtpakcicbojbonaaGreatDoor
