/- SchemaThere holds: in a schema that is right each name is found where it stands. No conditions. -/
import Derived.Test.YtdgblfcfojadcaaSchI
import Derived.Deep.RegionHeld3
import Derived.Test.YtdgblfcfojadcaaSchRd
namespace Go.Proofs.Ytdgblfcfojadcaa.schemaThere
open Go.ChangeShapes Go.WideShapes Go.ChangeAt Go.RowKit

/-! What a schema that is right says -/
theorem bad_not : ∀ {l pre : List (List UInt8)}, badFrom pre l = false → (∀ x ∈ l, nameB x = true ∧ x ∉ pre) ∧ l.Nodup
  | [], _, _ => ⟨by simp, List.nodup_nil⟩
  | x :: r, pre, h => by
    unfold badFrom at h
    by_cases hn : nameB x = true
    · rw [if_pos hn] at h
      by_cases hc : pre.contains x = true
      · rw [if_pos hc] at h; cases h
      · rw [if_neg hc] at h
        obtain ⟨h1, h2⟩ := bad_not h
        have hx : x ∉ pre := by simpa using hc
        refine ⟨fun y hy => ?_, List.nodup_cons.2 ⟨fun hm => (h1 x hm).2 (by simp), h2⟩⟩
        rcases List.mem_cons.1 hy with rfl | hy
        · exact ⟨hn, hx⟩
        · exact ⟨(h1 y hy).1, fun hm => (h1 y hy).2 (by simp [hm])⟩
    · rw [if_neg hn] at h; cases h
theorem at_nodup : ∀ {l : List (List UInt8)} (k i : Nat) (hi : i < l.length), l.Nodup → atFrom l[i] k l = (k + i : Nat)
  | x :: r, k, 0, _, _ => by simp [atFrom]
  | x :: r, k, i + 1, hi, h => by
    obtain ⟨h1, h2⟩ := List.nodup_cons.1 h
    have hi' : i < r.length := by simpa using hi
    have hne : (x == r[i]) = false := by rw [beq_eq_false_iff_ne]; intro e; exact h1 (by rw [e]; exact List.getElem_mem _)
    show (if (x == r[i]) = true then (k : Int) else atFrom r[i] (k + 1) r) = _
    rw [hne, if_neg (by simp), at_nodup (k + 1) i hi' h2]
    omega
theorem right_all {T : List TSig} {Y : List ByteArray} (h : checkSig T Y = 0) : badB (T.map (·.1.toList)) = false ∧ badB (Y.map (·.toList)) = false ∧ (∀ t ∈ T, badB (fieldsOf t) = false) ∧ ∀ t ∈ T, ∀ f ∈ t.2, 1 ≤ f.kind ∧ f.kind ≤ 4 := by
  unfold checkSig at h
  split at h
  · cases h
  · split at h
    · cases h
    · rename_i h1 h2
      simp only [Bool.or_eq_true, not_or, Bool.not_eq_true] at h2
      have h3 : T.any kindT = false := by
        unfold eZ at h
        split at h
        · cases h
        · rename_i h3; simpa using h3
      refine ⟨h2.1.2, h2.2, fun t ht => ?_, fun t ht f hf => ?_⟩
      · have := h2.1.1
        rw [List.any_eq_false] at this
        simpa [nameT] using this t ht
      · rw [List.any_eq_false] at h3
        have := h3 t ht
        simp only [kindT, Bool.not_eq_true, List.any_eq_false] at this
        have := this f hf
        simp [kindBadB] at this
        omega

theorem walk (s : SchemaV) (w : World) (h : s.ok w w.heap.size) :
    Calls Try.prog 8 #[s.val] w fun e w' => e = .returned (.bool true) ∧ Below w.heap.size w w' := by
  unfold SchemaV.val
  go_enter Try.func8, Try.ntmps8
  go_wp2_with fail
  have k0 := Bk.new w 30 #[.slice s.ta s.types.length s.tc, .slice s.sa s.syms.length s.sc]
  have b0 : Below w.heap.size w (w.alloc (.cells #[.slice s.ta s.types.length s.tc, .slice s.sa s.syms.length s.sc] 30)) := (Below.refl _ _).alloc (Nat.le_refl _) _
  have h0 := h.old b0
  clear h
  refine (to_any s _ h0).mono ?_
  rintro e w1 ⟨s', rfl, hok', hsig, hsyms, hb⟩
  have k1 := k0.old hb
  have h1 := h0.old hb
  have b1 := b0.trans (hb.mono b0.size)
  have HS := Lib.hid hsig
  have HY := Lib.hid hsyms
  clear hsig hsyms k0 h0 b0 hb
  unfold SchemaV.val
  go_wp2_with fail
  have k2 := k1.alloc (.cells #[.slice s'.ta s'.types.length s'.tc, .slice s'.sa s'.syms.length s'.sc] 33)
  have k3 := Bk.new w1 33 #[.slice s'.ta s'.types.length s'.tc, .slice s'.sa s'.syms.length s'.sc]
  have bb : Below w1.heap.size w1 (w1.alloc (.cells #[.slice s'.ta s'.types.length s'.tc, .slice s'.sa s'.syms.length s'.sc] 33)) := (Below.refl _ _).alloc (Nat.le_refl _) _
  have h2 := h1.old bb
  have h2' := hok'.old bb
  have b2 := b1.trans (bb.mono b1.size)
  clear k1 h1 hok' bb b1
  refine (awake_any _).mono ?_
  rintro e w2 ⟨rfl, hb⟩
  have k4 := k2.old hb
  have k5 := k3.old hb
  have h4 := h2.old hb
  have h4' := h2'.old hb
  have b4 := b2.trans (hb.mono b2.size)
  clear k2 k3 h2 h2' b2 hb
  have c0 : w2.cell? ⟨w1.heap.size, 0, none⟩ = some (.slice s'.ta s'.types.length s'.tc) := k5.cell 0
  have c1 : w2.cell? ⟨w1.heap.size, 1, none⟩ = some (.slice s'.sa s'.syms.length s'.sc) := k5.cell 1
  go_wp2_with fail
  clear c0 c1
  refine (pcheck_any s' _ h4').mono ?_
  rintro e w3 ⟨rfl, hb⟩
  have k6 := k4.old hb
  have k7 := k5.old hb
  have h6 := h4.old hb
  have h6' := h4'.old hb
  have b6 := b4.trans (hb.mono b4.size)
  clear k4 k5 h4 h4' b4 hb
  generalize hck : checkSig (s'.types.map sig) s'.syms = ck
  rw [show s'.types.map sig = s.types.map sig from HS.out, HY.out] at hck
  by_cases hz : ck = 0
  · subst hz
    obtain ⟨r1, r2, r3, r4⟩ := right_all hck
    have R1 := Lib.hid (bad_not r1)
    have R2 := Lib.hid (bad_not r2)
    have R3 := Lib.hid r3
    have R4 := Lib.hid r4
    clear r1 r2 r3 r4 hck
    have c0 : w3.cell? ⟨w.heap.size, 0, none⟩ = some (.slice s.ta s.types.length s.tc) := k6.cell 0
    obtain ⟨rd, len, each, srd, slen, ssize⟩ := h6
    obtain ⟨W, rfl⟩ : ∃ W : World, W = w3 := ⟨_, rfl⟩
    go_wp2
    clear c0
    have fT : ∀ k (hk : k < s.types.length), typeAt s' s.types[k].name.toList = (k : Int) ∧ nameB s.types[k].name.toList = true := by
      intro k hk
      have hl : k < ((s.types.map sig).map (·.1.toList)).length := by simpa using hk
      have e : ((s.types.map sig).map (·.1.toList))[k] = s.types[k].name.toList := by simp [sig]
      refine ⟨?_, ?_⟩
      · rw [typeAt_sig, show s'.types.map sig = s.types.map sig from HS.out, typeSig, ← e, at_nodup 0 k hl R1.out.2]; simp
      · rw [← e]; exact (R1.out.1 _ (List.getElem_mem _)).1
    have fF : ∀ k (hk : k < s.types.length) j (hj : j < s.types[k].fields.length), attrAt s' k s.types[k].fields[j].name.toList = (j : Int) ∧ kindAt s' k j = s.types[k].fields[j].kind ∧ 1 ≤ s.types[k].fields[j].kind ∧ s.types[k].fields[j].kind ≤ 4 := by
      intro k hk j hj
      have hm : sig s.types[k] ∈ s.types.map sig := List.mem_map_of_mem (List.getElem_mem _)
      have hb := bad_not (R3.out _ hm)
      have hl : j < (fieldsOf (sig s.types[k])).length := by simpa [fieldsOf, sig] using hj
      have e : (fieldsOf (sig s.types[k]))[j] = s.types[k].fields[j].name.toList := by simp [fieldsOf, sig]
      refine ⟨?_, ?_, R4.out _ hm _ (List.getElem_mem _)⟩
      · have ha : attrAt s' k s.types[k].fields[j].name.toList = attrAt s k s.types[k].fields[j].name.toList := by rw [attrAt_sig, attrAt_sig, show s'.types.map sig = s.types.map sig from HS.out]
        rw [ha, attrAt, if_pos (by omega), Int.toNat_natCast, List.getElem?_eq_getElem hk]
        show atFrom _ 0 (fieldsOf (sig s.types[k])) = _
        rw [← e, at_nodup 0 j hl hb.2]; simp
      · rw [kindAt_sig, show s'.types.map sig = s.types.map sig from HS.out, ← kindAt_sig, kindAt_some s k j hk, if_neg (by omega), if_pos (by omega), Int.toNat_natCast, List.getElem?_eq_getElem hj]
    have fY : ∀ k (hk : k < s.syms.length), atFrom s.syms[k].toList 0 (s'.syms.map (·.toList)) = (k : Int) := by
      intro k hk
      have hl : k < (s.syms.map (·.toList)).length := by simpa using hk
      have e : (s.syms.map (·.toList))[k] = s.syms[k].toList := by simp
      rw [HY.out, ← e, at_nodup 0 k hl R2.out.2]; simp
    have FT := Lib.hid fT
    have FF := Lib.hid fF
    have FY := Lib.hid fY
    have H6' := Lib.hid h6'
    clear fT fF fY h6' HS HY R1 R2 R3 R4
    go_loopw [20] (fun i wr => ∃ k : Nat, k ≤ s.types.length ∧ i = .int .i64 k ∧ Below W.heap.size W wr) (fun i _ => s.types.length - (intOf i).toNat)
    case atStart => exact ⟨0, Nat.zero_le _, rfl, Below.refl _ _⟩
    case round =>
      obtain ⟨k, hk, rfl, hbel⟩ := hrel
      obtain ⟨wo, rfl⟩ : ∃ wo : World, wo = wr := ⟨_, rfl⟩
      by_cases hlt : k < s.types.length
      · obtain ⟨b, o, hfa, hb, hc⟩ := (rd.below hbel).elem (n := 2) (fun _ => rfl) (by omega) hlt
        have hc0 : wo.cell? ⟨b, o + k * 2, none⟩ = some (.string s.types[k].name) := hc 0 _ rfl
        have hc1 : wo.cell? ⟨b, o + k * 2 + 1, none⟩ = some (.slice s.types[k].fa s.types[k].fields.length s.types[k].fc) := hc 1 _ rfl
        obtain ⟨frd, flen, _, _⟩ := each s.types[k] (by simp)
        obtain ⟨e1, e2⟩ := FT.out k hlt
        have ff := FF.out k hlt
        have FK := Lib.hid ff
        clear hc ff
        rw [hfa]
        clear hfa
        generalize s.types[k] = T at *
        have hzo := hbel.size
        have hz7 : w1.heap.size < wo.heap.size := by have := k7.lt; omega
        have c0 : wo.cell? ⟨w1.heap.size, 0, none⟩ = some (.slice s'.ta s'.types.length s'.tc) := (k7.old hbel).cell 0
        have c1 : wo.cell? ⟨w1.heap.size, 1, none⟩ = some (.slice s'.sa s'.syms.length s'.sc) := (k7.old hbel).cell 1
        go_wp2_with fail
        clear c0 c1 hc0 hc1
        have kt := Bk.new wo 53 #[.string T.name, .slice T.fa T.fields.length T.fc]
        have hbel1 := hbel.alloc hzo (.cells #[.string T.name, .slice T.fa T.fields.length T.fc] 53)
        refine (ptype_any s' _ _ (H6'.out.old hbel1)).mono ?_
        rintro e w4 ⟨rfl, hb4⟩
        have kt := kt.old hb4
        have hbel1 := hbel1.trans (hb4.mono hbel1.size)
        clear hb4
        have t0 : w4.cell? ⟨wo.heap.size, 0, none⟩ = some (.string T.name) := kt.cell 0
        go_wp2_with fail
        clear t0
        refine (pname_any _ _).mono ?_
        rintro e w5 ⟨rfl, hb4⟩
        have kt := kt.old hb4
        have hbel1 := hbel1.trans (hb4.mono hbel1.size)
        clear hb4
        have t1 : w5.cell? ⟨wo.heap.size, 1, none⟩ = some (.slice T.fa T.fields.length T.fc) := kt.cell 1
        go_wp2
        clear t1 kt e1 e2
        go_loopw [40] (fun i wr => ∃ j : Nat, j ≤ T.fields.length ∧ i = .int .i64 j ∧ Below W.heap.size W wr) (fun i _ => T.fields.length - (intOf i).toNat)
        case atStart => exact ⟨0, Nat.zero_le _, rfl, hbel1⟩
        case round =>
          clear hbel1
          obtain ⟨j, hj, rfl, hbel1⟩ := hrel
          by_cases hlj : j < T.fields.length
          · obtain ⟨b, o, hfa, hb, hc⟩ := (frd.below hbel1).elem (n := 2) (fun _ => rfl) (by omega) hlj
            have hc0 : wr.cell? ⟨b, o + j * 2, none⟩ = some (.string T.fields[j].name) := hc 0 _ rfl
            have hc1 : wr.cell? ⟨b, o + j * 2 + 1, none⟩ = some (.int .i64 T.fields[j].kind) := hc 1 _ rfl
            obtain ⟨e1, e2, e3, e4⟩ := FK.out j hlj
            clear hc
            rw [hfa]
            clear hfa
            generalize T.fields[j] = f at *
            go_wp2
            have hz1 := hbel1.size
            have kx := (k7.old hbel1).alloc (.cells #[.string f.name, .int .i64 f.kind] 55)
            have kf := Bk.new wr 55 #[.string f.name, .int .i64 f.kind]
            have hbel2 := hbel1.alloc hz1 (.cells #[.string f.name, .int .i64 f.kind] 55)
            have hx' := H6'.out.old hbel2
            generalize hV : wr.alloc (.cells #[.string f.name, .int .i64 f.kind] 55) = V at *
            clear hV hc0 hc1
            have hkeep : ∀ w', Below V.heap.size V w' → Below V.heap.size V w' ∧ w'.cell? ⟨w1.heap.size, 0, none⟩ = some (.slice s'.ta s'.types.length s'.tc) ∧ w'.cell? ⟨w1.heap.size, 1, none⟩ = some (.slice s'.sa s'.syms.length s'.sc) ∧
                w'.cell? ⟨wr.heap.size, 0, none⟩ = some (.string f.name) ∧ w'.cell? ⟨wr.heap.size, 1, none⟩ = some (.int .i64 f.kind) :=
              fun w' hb => ⟨hb, (kx.old hb).cell 0, (kx.old hb).cell 1, (kf.old hb).cell 0, (kf.old hb).cell 1⟩
            have HK := Lib.hid hkeep
            have HX := Lib.hid hx'
            have g1 : decide (f.kind < 1) = false := decide_eq_false (by omega)
            have g2 : decide (4 < f.kind) = false := decide_eq_false (by omega)
            clear e3 e4
            clear hkeep hx' kx kf
            go_region_held3 (fun w' => Below V.heap.size V w' ∧ w'.cell? ⟨w1.heap.size, 0, none⟩ = some (.slice s'.ta s'.types.length s'.tc) ∧ w'.cell? ⟨w1.heap.size, 1, none⟩ = some (.slice s'.sa s'.syms.length s'.sc) ∧
                w'.cell? ⟨wr.heap.size, 0, none⟩ = some (.string f.name) ∧ w'.cell? ⟨wr.heap.size, 1, none⟩ = some (.int .i64 f.kind))
              (first | exact HK.out _ (by assumption) | exact HK.out _ (Below.drew (Below.refl _ _)))
              (first
                | (go_at_call 18; refine (pattr_any s' _ _ _ (HX.out.step (by assumption))).mono ?_; rintro e w3 ⟨rfl, hb3⟩; have hb4 : Below V.heap.size V w3 := (by apply bel_step (hb := hb3); assumption); clear hb3)
                | (go_at_call 23; refine (pkind_any s' _ _ _ (HX.out.step (by assumption))).mono ?_; rintro e w3 ⟨rfl, hb3⟩; have hb4 : Below V.heap.size V w3 := (by apply bel_step (hb := hb3); assumption); clear hb3))
            go_wp2
            go_roundw
            case rel => exact ⟨j + 1, by omega, by go_num, hbel2.trans (Below.mono (by assumption) hbel2.size)⟩
            case measure => simp [intOf]; omega
          · go_wp2
            go_roundw
            case rel => exact ⟨k + 1, by omega, by go_num, hbel1⟩
            case measure => simp [intOf]; omega
      · have c1 : wo.cell? ⟨w.heap.size, 1, none⟩ = some (.slice s.sa s.syms.length s.sc) := (k6.old hbel).cell 1
        go_wp2
        clear c1
        go_loopw [76] (fun i wr => ∃ j : Nat, j ≤ s.syms.length ∧ i = .int .i64 j ∧ Below W.heap.size W wr) (fun i _ => s.syms.length - (intOf i).toNat)
        case atStart => exact ⟨0, Nat.zero_le _, rfl, hbel⟩
        case round =>
          clear hbel
          obtain ⟨j, hj, rfl, hbel⟩ := hrel
          by_cases hlj : j < s.syms.length
          · obtain ⟨b, o, hfa, hb, hc0⟩ := (srd.below hbel).elem1 hlj
            have e1 := FY.out j hlj
            rw [hfa]
            clear hfa
            generalize s.syms[j] = y at *
            have c0 : wr.cell? ⟨w1.heap.size, 0, none⟩ = some (.slice s'.ta s'.types.length s'.tc) := (k7.old hbel).cell 0
            have c1 : wr.cell? ⟨w1.heap.size, 1, none⟩ = some (.slice s'.sa s'.syms.length s'.sc) := (k7.old hbel).cell 1
            go_wp2_with fail
            clear c0 c1
            refine (psym_any s' _ _ (H6'.out.old hbel)).mono ?_
            rintro e w4 ⟨rfl, hb4⟩
            have hbel2 := hbel.trans (hb4.mono hbel.size)
            clear hb4
            go_wp2
            go_roundw
            case rel => exact ⟨j + 1, by omega, by go_num, hbel2⟩
            case measure => simp [intOf]; omega
          · go_wp2
            go_ret
            exact ⟨rfl, b6.trans (hbel.mono b6.size)⟩
  · have hne : (ck != 0) = true := by simpa using hz
    clear hz hck
    go_wp2
    go_ret
    exact ⟨rfl, b6⟩

theorem own : ownKnob Try.prog.godebug = none := by kernel_rfl
theorem laidOut : laidOutB Try.prog = true := by kernel_rfl
theorem rec0 : (Try.f8.params.toList.all fun t => Try.prog.readableRec t && decide (t < Try.prog.types.size)) = true := by kernel_rfl

set_option maxRecDepth 100000 in
theorem lifted (os : Os) (started : os.Started) (H : Type) (enc : TypeId × Value → H) :
    ReturnsInHanded {} Try.checked os 8 .any (Rows.schemaThereSpec.pre6 enc Try.prog Try.f8 Rows.schemaThereRow.domain false) (Rows.schemaThereSpec.post enc Try.prog Try.f8 false true false false) := by
  refine law_step (C := Try.checked) (tb := 4) own started (by kernel_rfl) Try.func8
    (ChangeSpec.witness6 (enc := enc) (C := Try.checked) false ⟨#[], #[.agg #[.slice none 0 0, .slice none 0 0]], []⟩ 8 (by kernel_rfl) (by kernel_rfl) (by kernel_rfl) (by kernel_rfl)) laidOut ?_ rfl Try.underlying4 rfl ?_ ?_
  · intro t ht
    have := List.all_eq_true.1 rec0 t ht
    simp only [Bool.and_eq_true, decide_eq_true_eq] at this
    exact this
  · intro ds hd
    match ds, hd with
    | [d0], _ => exact ⟨rfl, rfl, rfl⟩
  intro W base args ds p hval hA hsz
  rw [Try.params8] at hA hval hsz
  obtain ⟨v0, vs0, d0, ds0, p0, q0, hargs, rfl, rfl, h0, r0⟩ := trodAll_cons hA
  obtain ⟨rfl, rfl, rfl⟩ := trodAll_nil r0
  obtain rfl : args = #[v0] := by cases args; simp_all
  obtain ⟨s, rfl, hok⟩ := open_schema (hval 0 _ v0 rfl rfl) h0 (weights_each (i := 0) hsz rfl rfl)
  exact walk s W hok

theorem schemaThere_holds : Rows.SchemaThereSaid :=
  OpenClaim.holds_of_wide 8 Try.f8 rfl rfl rfl rfl rfl rfl rfl ⟨rfl, rfl, rfl, rfl, rfl⟩ rfl rfl rfl rfl rfl (by kernel_rfl) Try.func8 (by kernel_rfl)
    (of_decide_eq_true (by kernel_rfl)) (by unfold Func.isWrapper; first | (rw [if_pos (by decide +kernel)]; kernel_rfl) | (rw [if_neg (by decide +kernel)]; exact ⟨rfl, rfl⟩))
    (fun os started H enc _ => lifted os started H enc)
#print axioms schemaThere_holds
end Go.Proofs.Ytdgblfcfojadcaa.schemaThere
