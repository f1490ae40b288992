/- Contract of auspicelaw03.To: the schema in new memory. No conditions. -/
import Derived.Test.YtpakcicbojbonaaGreatDoorSchC
import Derived.Test.YtpakcicbojbonaaGreatDoorMem
namespace Go.Proofs.YtpakcicbojbonaaGreatDoor
set_option maxRecDepth 10000
open Go.RowKit

theorem infoF : (Tryz.prog.info? 54).map (fun i => (i.zero, i.size, i.bytes)) = some (some (.agg #[.string ⟨#[]⟩, .int .i64 0]), 2, 24) := by kernel_rfl
theorem infoT : (Tryz.prog.info? 50).map (fun i => (i.zero, i.size, i.bytes)) = some (some (.agg #[.string ⟨#[]⟩, .slice none 0 0]), 2, 40) := by kernel_rfl
theorem infoStr : (Tryz.prog.info? 9).map (fun i => (i.zero, i.size, i.bytes)) = some (some (.string ⟨#[]⟩), 1, 16) := by kernel_rfl

theorem to_any (s : SchemaV) (w : World) (h : s.ok w w.heap.size) :
    Calls Tryz.prog 5 #[s.val] w fun e w' => ∃ s' : SchemaV, e = .returned s'.val ∧ s'.ok w' w'.heap.size ∧ s'.types.map (fun t => (t.name, t.fields)) = s.types.map (fun t => (t.name, t.fields)) ∧ s'.syms = s.syms ∧ Below w.heap.size w w' := by
  obtain ⟨rd, len, each, srd, slen, ssize⟩ := h
  obtain ⟨iF, hF, hF0, hF1, hF2⟩ := info_parts infoF
  obtain ⟨iT, hT, hT0, hT1, hT2⟩ := info_parts infoT
  obtain ⟨iS, hS, hS0, hS1, hS2⟩ := info_parts infoStr
  unfold SchemaV.val
  go_enter Tryz.func5, Tryz.ntmps5
  go_wp2
  go_loopw [12] (fun i wr => ∃ (k : Nat) (A : Option Addr) (c : Nat) (ts : List TypeV), k ≤ s.types.length ∧ i = .int .i64 k ∧ Below w.heap.size w wr ∧
      Bk wr w.heap.size 25 #[.slice s.ta s.types.length s.tc, .slice s.sa s.syms.length s.sc] ∧
      Bk wr (w.heap.size + 1) 33 #[.slice none 0 0, .slice none 0 0] ∧
      Bk wr (w.heap.size + 1 + 1) 33 #[.slice A k c, .slice none 0 0] ∧
      wr.ownsRow (w.heap.size + 3) 50 2 (.slice A k c) k (ts.flatMap TypeV.cells) ∧ Hid (ts.map (fun t => (t.name, t.fields)) = (s.types.take k).map (fun t => (t.name, t.fields))) ∧
      (∀ t ∈ ts, wr.ownsRow (w.heap.size + 3) 54 2 (.slice t.fa t.fields.length t.fc) t.fields.length (t.fields.flatMap FieldV.cells))) (fun i _ => s.types.length - (intOf i).toNat)
  case atStart =>
    refine ⟨0, none, 0, [], Nat.zero_le _, rfl, (((Below.refl _ _).alloc (Nat.le_refl _) _).alloc (by simp) _).alloc (by simp; omega) _, ?_, ?_, ?_, World.ownsRow_nil _ _ _ _, rfl, by simp⟩
    · exact ((Bk.new w _ _).alloc _).alloc _
    · exact (Bk.newAt (by simp) _ _).alloc _
    · exact Bk.newAt (by simp) _ _
  case round =>
    obtain ⟨k, A, c, ts, hk, rfl, hbel, hb0, hb1, hb2, hown, hsig, hts⟩ := hrel
    obtain ⟨wo, rfl⟩ : ∃ wo : World, wo = wr := ⟨_, rfl⟩
    by_cases hlt : k < s.types.length
    · obtain ⟨b, o, hfa, hb, hc⟩ := (rd.below hbel).elem (n := 2) (fun _ => rfl) (by omega) hlt
      have hc0 : wo.cell? ⟨b, o + k * 2, none⟩ = some (.string s.types[k].name) := hc 0 _ rfl
      have hc1 : wo.cell? ⟨b, o + k * 2 + 1, none⟩ = some (.slice s.types[k].fa s.types[k].fields.length s.types[k].fc) := hc 1 _ rfl
      rw [hfa]
      clear hc
      obtain ⟨frd, flen, _, _⟩ := each s.types[k] (by simp)
      have hsz := hb2.lt
      go_wp2
      generalize hT' : s.types[k] = T at *
      go_loopw [22] (fun i wr => ∃ (j : Nat) (A' : Option Addr) (c' : Nat), j ≤ T.fields.length ∧ i = .int .i64 j ∧ Below wo.heap.size wo wr ∧
          Bk wr (wo.heap.size + 1) 50 #[.string T.name, .slice A' j c'] ∧
          wr.ownsRow (wo.heap.size + 2) 54 2 (.slice A' j c') j ((T.fields.take j).flatMap FieldV.cells)) (fun i _ => T.fields.length - (intOf i).toNat)
      case atStart =>
        exact ⟨0, none, 0, Nat.zero_le _, rfl, ((Below.refl _ _).alloc (Nat.le_refl _) _).alloc (by simp) _, Bk.newAt (by simp) _ _, World.ownsRow_nil _ _ _ _⟩
      case round =>
        obtain ⟨j, A', c', hj, rfl, hbi, hbx, howni⟩ := hrel
        by_cases hlj : j < T.fields.length
        · obtain ⟨b', o', hfa', hb', hc'⟩ := ((frd.below hbel).below (hbi.mono hbel.size)).elem (n := 2) (fun _ => rfl) (by omega) hlj
          have hd0 : wr.cell? ⟨b', o' + j * 2, none⟩ = some (.string T.fields[j].name) := hc' 0 _ rfl
          have hd1 : wr.cell? ⟨b', o' + j * 2 + 1, none⟩ = some (.int .i64 T.fields[j].kind) := hc' 1 _ rfl
          rw [hfa']
          clear hc' hc0 hc1
          have hx1 : wr.cell? ⟨wo.heap.size + 1, 1, none⟩ = some (.slice A' j c') := hbx.cell 1
          have hxl := hbx.lt
          have hxf := hbx.frozen 1
          go_wp2_with (at_builtin; refine wpList_append_own _ rfl _ _ 48 rfl (wo.heap.size + 2) 54 iF _ 2 24 Tryz.underlying48 hF hF0 hF1 hF2 rfl (by decide) (.slice A' j c') j ((T.fields.take j).flatMap FieldV.cells) rfl ((howni.alloc _).alloc _) ⟨wr.heap.size + 1, 0, none⟩ 1 1 [.string T.fields[j].name, .int .i64 T.fields[j].kind] rfl rfl ?c1 ?c2 ?c3 ?c4 ?c5 ?_)
          case c1 => exact cells_new _ _ (by simp) _ _
          case c2 => intro u hu; simp at hu; rcases hu with rfl | rfl <;> rfl
          case c3 => unfold maxLen; omega
          case c4 => omega
          case c5 => simp; omega
          intro v' w1 hown' hg _
          obtain ⟨A2, c2, rfl, _⟩ := own_form hown'
          have hbx' : Bk w1 (wo.heap.size + 1) 50 #[.string T.name, .slice A' j c'] := ((hbx.alloc _).alloc _).grown hg (own_ne_bk howni hbx (by decide))
          have hbi' : Below wo.heap.size wo w1 := below_own ((hbi.alloc hbi.size _).alloc (by simp; have := hbi.size; omega) _) ((howni.alloc _).alloc _) (by omega) hg (by simp; have := hbi.size; omega)
          have hy1 : w1.cell? ⟨wo.heap.size + 1, 1, none⟩ = some (.slice A' j c') := hbx'.cell 1
          have hyf := hbx'.frozen 1
          clear hg howni hbx hx1 hxf hd0 hd1
          go_wp2
          go_roundw
          case rel =>
            refine ⟨j + 1, A2, c2, by omega, by go_num, hbi'.setCell (by simp) _, hbx'.put 1 _, ?_⟩
            rw [← flat_snoc _ _ _ hlj]
            exact own_set hown' hbx' (by decide) 1 _
          case measure => simp [intOf]; omega
        · clear hc0 hc1
          have hj2 : j = T.fields.length := by omega
          have hB2 : Bk wr (w.heap.size + 1 + 1) 33 #[.slice A k c, .slice none 0 0] := hb2.old hbi
          have hown2 := own_old hown hbi
          have hx0 : wr.cell? ⟨wo.heap.size + 1, 0, none⟩ = some (.string T.name) := hbx.cell 0
          have hx1 : wr.cell? ⟨wo.heap.size + 1, 1, none⟩ = some (.slice A' j c') := hbx.cell 1
          have ho0 : wr.cell? ⟨w.heap.size + 1 + 1, 0, none⟩ = some (.slice A k c) := hB2.cell 0
          have hof := hB2.frozen 0
          have hzw := hB2.lt
          have hz2 := hbi.size
          have HJ := Lib.hid hj2; clear hj2
          go_wp2_with (at_builtin; refine wpList_append_own _ rfl _ _ 31 rfl (w.heap.size + 3) 50 iT _ 2 40 Tryz.underlying31 hT hT0 hT1 hT2 rfl (by decide) (.slice A k c) k (ts.flatMap TypeV.cells) rfl (hown2.alloc _) ⟨wr.heap.size, 0, none⟩ 1 1 [.string T.name, .slice A' j c'] rfl rfl ?c1 ?c2 ?c3 ?c4 ?c5 ?_)
          case c1 => exact cells_new _ _ (by simp) _ _
          case c2 => intro u hu; simp at hu; rcases hu with rfl | rfl <;> rfl
          case c3 => unfold maxLen; omega
          case c4 => omega
          case c5 => simp; omega
          intro v' w1 hown' hg _
          obtain ⟨A2, c2, rfl, _⟩ := own_form hown'
          have hl2 : (wr.alloc (.cells #[.string T.name, .slice A' j c'] 50)).heap.size = wr.heap.size + 1 := by simp
          have hB2' : Bk w1 (w.heap.size + 1 + 1) 33 #[.slice A k c, .slice none 0 0] := (hB2.alloc _).grown hg (own_ne_bk hown2 hB2 (by decide))
          have hB1' : Bk w1 (w.heap.size + 1) 33 #[.slice none 0 0, .slice none 0 0] := ((hb1.old hbi).alloc _).grown hg (own_ne_bk hown2 (hb1.old hbi) (by decide))
          have hB0' : Bk w1 w.heap.size 25 #[.slice s.ta s.types.length s.tc, .slice s.sa s.syms.length s.sc] := ((hb0.old hbi).alloc _).grown hg (own_ne_bk hown2 (hb0.old hbi) (by decide))
          have hbel' : Below w.heap.size w w1 := below_own ((hbel.trans (hbi.mono hbel.size)).alloc (by omega) _) (hown2.alloc _) (by omega) hg (by omega)
          have hy1 : w1.cell? ⟨w.heap.size + 1 + 1, 0, none⟩ = some (.slice A k c) := hB2'.cell 0
          have hyf := hB2'.frozen 0
          have hts' : ∀ t ∈ ts, w1.ownsRow (w.heap.size + 3) 54 2 (.slice t.fa t.fields.length t.fc) t.fields.length (t.fields.flatMap FieldV.cells) :=
            fun t ht => own_keep ((own_old (hts t ht) hbi).alloc _) (hown2.alloc _) (by decide) hg
          have hT2' : w1.ownsRow (w.heap.size + 3) 54 2 (.slice A' T.fields.length c') T.fields.length (T.fields.flatMap FieldV.cells) := by
            have := own_keep (howni.alloc _) (hown2.alloc _) (by decide) hg
            rw [HJ.out, List.take_length] at this
            exact own_mono this (by omega)
          have HT := Lib.hid hts'
          have HTT := Lib.hid hT2'
          clear hg hown2 hB2 hx0 hx1 ho0 hof hown hts hT2' hts' hbx howni hb0 hb1 hb2
          go_wp2
          go_roundw
          case rel =>
            rw [← hfa]
            refine ⟨k + 1, A2, c2, ts ++ [⟨T.name, A', c', T.fields⟩], by omega, by go_num, hbel'.setCell (p := ⟨w.heap.size + 1 + 1, 0, none⟩) (by simp; omega) _, hB0'.far (p := ⟨w.heap.size + 1 + 1, 0, none⟩) (by simp; omega) _, hB1'.far (p := ⟨w.heap.size + 1 + 1, 0, none⟩) (by simp) _, hB2'.put 0 _, ?_, ?_, ?_⟩
            · rw [HJ.out] at hown'
              have e : (ts ++ [(⟨T.name, A', c', T.fields⟩ : TypeV)]).flatMap TypeV.cells = ts.flatMap TypeV.cells ++ [.string T.name, .slice A' T.fields.length c'] := by simp [TypeV.cells]
              rw [e]
              exact own_set hown' hB2' (by decide) 0 _
            · have e : (ts ++ [(⟨T.name, A', c', T.fields⟩ : TypeV)]).map (fun t => (t.name, t.fields)) = (s.types.take (k + 1)).map (fun t => (t.name, t.fields)) := by
                rw [List.map_append, hsig.out, List.take_succ_eq_append_getElem hlt, List.map_append, hT']; rfl
              exact e
            · intro t ht
              rw [List.mem_append] at ht
              rcases ht with ht | ht
              · exact own_set (HT.out t ht) hB2' (by decide) 0 _
              · obtain rfl := List.mem_singleton.1 ht
                exact own_set HTT.out hB2' (by decide) 0 _
          case measure => simp [intOf]; omega
    · have hk2 : k = s.types.length := by omega
      have HK := Lib.hid hk2; clear hk2
      have ho0 : wo.cell? ⟨w.heap.size + 1 + 1, 0, none⟩ = some (.slice A k c) := hb2.cell 0
      have ho1 : wo.cell? ⟨w.heap.size + 1 + 1, 1, none⟩ = some (.slice none 0 0) := hb2.cell 1
      have hof := hb2.frozen 1
      have hs1 : wo.cell? ⟨w.heap.size, 1, none⟩ = some (.slice s.sa s.syms.length s.sc) := hb0.cell 1
      have hz := hb2.lt
      go_wp2_with (at_builtin; refine wpList_append_rd rfl _ _ 23 rfl (w.heap.size + 3) 9 iS _ 1 16 Tryz.underlying23 hS hS0 hS1 hS2 rfl (by decide) (.slice none 0 0) 0 [] rfl (World.ownsRow_nil _ _ _ _) w.heap.size s.sa s.syms.length s.sc (s.syms.map .string) rfl (srd.below hbel) ?c0 ?c2 ?c3 ?c4 ?c5 ?_)
      case c0 => simp
      case c2 => intro u hu; simp at hu; obtain ⟨_, _, rfl⟩ := hu; rfl
      case c3 => unfold maxLen; omega
      case c4 => omega
      case c5 => omega
      intro A2 c2 w1 hown' hg hat
      have hB2' : Bk w1 (w.heap.size + 1 + 1) 33 #[.slice A k c, .slice none 0 0] := hb2.grown hg (by simp [Value.ownBlock])
      have hB1' : Bk w1 (w.heap.size + 1) 33 #[.slice none 0 0, .slice none 0 0] := hb1.grown hg (by simp [Value.ownBlock])
      have hbo : Below wo.heap.size wo w1 := (Below.refl _ _).grown hg (Nat.le_refl _) (by simp [Value.ownBlock])
      have hbel' : Below w.heap.size w w1 := hbel.trans (hbo.mono hbel.size)
      have hy0 : w1.cell? ⟨w.heap.size + 1 + 1, 0, none⟩ = some (.slice A k c) := hB2'.cell 0
      have hy1 : w1.cell? ⟨w.heap.size + 1 + 1, 1, none⟩ = some (.slice none 0 0) := hB2'.cell 1
      have hyf := hB2'.frozen 1
      have hx0 : w1.cell? ⟨w.heap.size + 1, 0, none⟩ = some (.slice none 0 0) := hB1'.cell 0
      have hx1 : w1.cell? ⟨w.heap.size + 1, 1, none⟩ = some (.slice none 0 0) := hB1'.cell 1
      have hxf0 := hB1'.frozen 0
      have hxf1 := hB1'.frozen 1
      have hz1 := hbo.size
      have hownT := own_old hown hbo
      have htsT : ∀ t ∈ ts, w1.ownsRow (w.heap.size + 3) 54 2 (.slice t.fa t.fields.length t.fc) t.fields.length (t.fields.flatMap FieldV.cells) := fun t ht => own_old (hts t ht) hbo
      have HT := Lib.hid htsT
      clear hg hts htsT hb0 hb1 hb2 ho0 ho1 hof hs1 hat
      go_wp2
      refine bodyPost_ret (v := .agg #[.slice A k c, .slice A2 s.syms.length c2]) (by simp [results, Tryz.results5, go_sem, hx0, hx1]) rfl ?_
      have hl : ts.length = k := by have := congrArg List.length hsig.out; simp only [List.length_map, List.length_take] at this; omega
      have hB1a := hB1'.far (p := ⟨w.heap.size + 1 + 1, 1, none⟩) (by simp) (.slice A2 s.syms.length c2)
      have hB1b := hB1a.put 0 (.slice A k c)
      refine ⟨⟨A, c, ts, A2, c2, s.syms⟩, by simp only [hl], ⟨?_, by simp only [hl]; omega, fun t ht => ?_, ?_, slen, ssize⟩, ?_, rfl, ?_⟩
      · exact own_rd (own_set (own_set (own_set (own_mono hownT (Nat.zero_le _)) hB2' (by decide) _ _) hB1a (by decide) _ _) hB1b (by decide) _ _)
      · have hm : (t.name, t.fields) ∈ ts.map (fun t => (t.name, t.fields)) := List.mem_map_of_mem ht
        rw [hsig.out] at hm
        obtain ⟨t2, ht2, he⟩ := List.mem_map.1 hm
        obtain ⟨_, e1, e2, e3⟩ := each t2 (List.mem_of_mem_take ht2)
        simp only [Prod.mk.injEq] at he
        rw [he.2] at e1 e3
        rw [he.1] at e2
        exact ⟨own_rd (own_set (own_set (own_set (own_mono (HT.out t ht) (Nat.zero_le _)) hB2' (by decide) _ _) hB1a (by decide) _ _) hB1b (by decide) _ _), e1, e2, e3⟩
      · exact own_rd (own_set (own_set (own_set (own_mono (by simpa using hown') (Nat.zero_le _)) hB2' (by decide) _ _) hB1a (by decide) _ _) hB1b (by decide) _ _)
      · show ts.map (fun t => (t.name, t.fields)) = _
        rw [hsig.out, HK.out, List.take_length]
      · exact ((hbel'.setCell (by simp; omega) _).setCell (by simp) _).setCell (by simp) _
end Go.Proofs.YtpakcicbojbonaaGreatDoor
