/- SchemaKinds holds: in any schema the program tells the kinds of attributes, and for each type the attribute of a name, as the document does. No conditions. -/
import Derived.Test.YtdgblfcfojadcaaSchG
import Derived.Deep.RegionHeld3
import Derived.Test.YtdgblfcfojadcaaSchRd
namespace Go.Proofs.Ytdgblfcfojadcaa.schemaKinds
open Go.ChangeShapes Go.WideShapes Go.ChangeAt Go.RowKit
open Go.ChangeMaps (open_string shut_string)

theorem infoI : (Try.prog.info? 3).map (fun i => (i.zero, i.size, i.bytes)) = some (some (.int .i64 0), 1, 8) := by kernel_rfl

/-- For each type the attribute of the name. -/
def keyL (s : SchemaV) (nm : List UInt8) (k : Nat) : List Value := (List.range k).map fun t : Nat => .int .i64 (attrAt s t nm)
theorem keyL_succ (s : SchemaV) (nm : List UInt8) (k : Nat) : keyL s nm (k + 1) = keyL s nm k ++ [.int .i64 (attrAt s k nm)] := by simp [keyL, List.range_succ]
theorem keyL_len (s : SchemaV) (nm : List UInt8) (k : Nat) : (keyL s nm k).length = k := by simp [keyL]

theorem pkey_any (s : SchemaV) (nm : ByteArray) (w : World) (h : s.ok w w.heap.size) :
    Calls Try.prog 22 #[s.val, .string nm] w fun e w' => ∃ A c, e = .returned (.slice A s.types.length c) ∧ Rd w' w'.heap.size A (keyL s nm.toList s.types.length) ∧ Below w.heap.size w w' := by
  obtain ⟨iI, hI, hI0, hI1, hI2⟩ := info_parts infoI
  have len := h.len
  have H := Lib.hid h; clear h
  unfold SchemaV.val
  go_enter Try.func22, Try.ntmps22
  go_wp2
  go_loopw [5, 10] (fun v i wr => ∃ (k : Nat) (A : Option Addr) (c : Nat), k ≤ s.types.length ∧ i = .int .i64 k ∧ v = .slice A k c ∧ Below w.heap.size w wr ∧
      Bk wr w.heap.size 33 #[.slice s.ta s.types.length s.tc, .slice s.sa s.syms.length s.sc] ∧
      wr.ownsRow (w.heap.size + 1) 3 1 (.slice A k c) k (keyL s nm.toList k)) (fun _ i _ => s.types.length - (intOf i).toNat)
  case atStart => exact ⟨0, none, 0, Nat.zero_le _, rfl, rfl, (Below.refl _ _).alloc (Nat.le_refl _) _, Bk.new _ _ _, World.ownsRow_nil _ _ _ _⟩
  case round =>
    obtain ⟨k, A, c, hk, rfl, rfl, hbel, hb0, hown⟩ := hrel
    by_cases hlt : k < s.types.length
    · have hc0 : wr.cell? ⟨w.heap.size, 0, none⟩ = some (.slice s.ta s.types.length s.tc) := hb0.cell 0
      have hc1 : wr.cell? ⟨w.heap.size, 1, none⟩ = some (.slice s.sa s.syms.length s.sc) := hb0.cell 1
      go_wp2_with fail
      refine (pattr_any s _ _ _ (H.out.old hbel)).mono ?_
      rintro e w1 ⟨rfl, hb⟩
      clear hc0 hc1
      have hb0 := hb0.old hb
      have hown := own_old hown hb
      have hbel := hbel.trans (hb.mono hbel.size)
      have hz := hbel.size
      clear hb
      go_wp2_with (at_builtin; refine wpList_append_rd rfl _ _ 42 rfl (w.heap.size + 1) 3 iI _ 1 8 Try.underlying42 hI hI0 hI1 hI2 rfl (by decide) (.slice A k c) k (keyL s nm.toList k) rfl (hown.alloc _) (w1.heap.size + 1) (some ⟨w1.heap.size, 0, none⟩) 1 1 [.int .i64 (attrAt s k nm.toList)] rfl (Rd.lit rfl _ _) rfl ?c2 ?c3 ?c4 ?c5 ?_)
      case c2 => intro u hu; simp at hu; subst hu; rfl
      case c3 => unfold maxLen; omega
      case c4 => omega
      case c5 => have := hb0.lt; simp; omega
      intro A2 c2 w2 hown2 hg _
      have hb2 := (hb0.alloc _).grown hg (own_ne_bk hown hb0 (by decide))
      have hbel2 : Below w.heap.size w w2 := below_own (hbel.alloc hz _) (hown.alloc _) (by omega) hg (by simp; omega)
      clear hg hown hb0
      go_wp2
      go_roundw
      case rel => exact ⟨k + 1, A2, c2, by omega, by go_num, rfl, hbel2, hb2, by rw [keyL_succ]; exact hown2⟩
      case measure => simp [intOf]; omega
    · obtain rfl : k = s.types.length := by omega
      go_wp2
      go_ret
      exact ⟨A, c, rfl, own_rd hown, hbel⟩

theorem walk (s : SchemaV) (nm : ByteArray) (t a : Int) (w : World) (h : s.ok w w.heap.size) :
    Calls Try.prog 6 #[s.val, .string nm, .agg #[.int .i64 t, .int .i64 a]] w fun e w' => e = .returned (.bool true) ∧ Below w.heap.size w w' := by
  unfold SchemaV.val
  go_enter Try.func6, Try.ntmps6
  go_wp2_with fail
  have ka := Bk.newAt (w := w.alloc (.cells #[.slice s.ta s.types.length s.tc, .slice s.sa s.syms.length s.sc] 30)) (g := w.heap.size + 1) (by simp) 41 #[.int .i64 t, .int .i64 a]
  have k0 := (Bk.new w 30 #[.slice s.ta s.types.length s.tc, .slice s.sa s.syms.length s.sc]).alloc (.cells #[.int .i64 t, .int .i64 a] 41)
  have b0 := ((Below.refl w.heap.size w).alloc (Nat.le_refl _) (.cells #[.slice s.ta s.types.length s.tc, .slice s.sa s.syms.length s.sc] 30)).alloc (by simp) (.cells #[.int .i64 t, .int .i64 a] 41)
  have h0 := h.old b0
  clear h
  refine (to_any s _ h0).mono ?_
  rintro e w1 ⟨s', rfl, hok', hsig, hsyms, hb⟩
  have k1 := k0.old hb
  have ka1 := ka.old hb
  have h1 := h0.old hb
  have b1 := b0.trans (hb.mono b0.size)
  have HS := Lib.hid hsig
  clear hsig hsyms k0 h0 b0 hb ka
  unfold SchemaV.val
  go_wp2_with fail
  have k2 := k1.alloc (.cells #[.slice s'.ta s'.types.length s'.tc, .slice s'.sa s'.syms.length s'.sc] 33)
  have ka2 := ka1.alloc (.cells #[.slice s'.ta s'.types.length s'.tc, .slice s'.sa s'.syms.length s'.sc] 33)
  have k3 := Bk.new w1 33 #[.slice s'.ta s'.types.length s'.tc, .slice s'.sa s'.syms.length s'.sc]
  have bb : Below w1.heap.size w1 (w1.alloc (.cells #[.slice s'.ta s'.types.length s'.tc, .slice s'.sa s'.syms.length s'.sc] 33)) := (Below.refl _ _).alloc (Nat.le_refl _) _
  have h2 := h1.old bb
  have h2' := hok'.old bb
  have b2 := b1.trans (bb.mono b1.size)
  clear k1 h1 hok' bb b1 ka1
  refine (pkey_any s' _ _ h2').mono ?_
  rintro e w2 ⟨A, c, rfl, hrd, hb⟩
  have hlen : s'.types.length = s.types.length := by simpa using congrArg List.length HS.out
  have e2 : ∀ t, attrAt s' t nm.toList = attrAt s t nm.toList := fun t => by rw [attrAt_sig, attrAt_sig, show s'.types.map sig = s.types.map sig from HS.out]
  have e3 : ∀ t a, kindAt s' t a = kindAt s t a := fun t a => by rw [kindAt_sig, kindAt_sig, show s'.types.map sig = s.types.map sig from HS.out]
  have k4 := k2.old hb
  have ka4 := ka2.old hb
  have k5 := k3.old hb
  have h4 := h2.old hb
  have h4' := h2'.old hb
  have b4 := b2.trans (hb.mono b2.size)
  clear k2 ka2 k3 h2 h2' b2 hb
  have c0 : w2.cell? ⟨w.heap.size, 0, none⟩ = some (.slice s.ta s.types.length s.tc) := k4.cell 0
  have E2 := Lib.hid e2
  have E3 := Lib.hid e3
  have len := h4.len
  clear e2 e3
  rw [hlen] at hrd ⊢
  clear hlen
  go_wp2
  clear c0
  obtain ⟨W, rfl⟩ : ∃ W : World, W = w2 := ⟨_, rfl⟩
  go_loopw [24] (fun i wr => ∃ k : Nat, k ≤ s.types.length ∧ i = .int .i64 k ∧ Below W.heap.size W wr) (fun i _ => s.types.length - (intOf i).toNat)
  case atStart => exact ⟨0, Nat.zero_le _, rfl, Below.refl _ _⟩
  case round =>
    obtain ⟨k, hk, rfl, hbel⟩ := hrel
    by_cases hlt : k < s.types.length
    · obtain ⟨b, o, hA, hb, hc⟩ := (hrd.below hbel).at_ (j := k) (by rw [keyL_len]; exact hlt)
      have hc0 : wr.cell? ⟨b, o + k, none⟩ = some (.int .i64 (attrAt s k nm.toList)) := hc k _ (by rw [← E2.out]; simp [keyL, hlt])
      clear hc
      rw [hA]
      have c0 : wr.cell? ⟨w.heap.size, 0, none⟩ = some (.slice s.ta s.types.length s.tc) := (k4.old hbel).cell 0
      have c1 : wr.cell? ⟨w.heap.size, 1, none⟩ = some (.slice s.sa s.syms.length s.sc) := (k4.old hbel).cell 1
      go_wp2_with fail
      clear c0 c1 hc0
      refine (attrAt_any s _ _ _ (h4.old hbel)).mono ?_
      rintro e w3 ⟨rfl, hb3⟩
      have hbel := hbel.trans (hb3.mono hbel.size)
      clear hb3
      go_wp2
      go_roundw
      case rel => exact ⟨k + 1, by omega, by go_num, hbel⟩
      case measure => simp [intOf]; omega
    · go_wp2
      have hkeep : ∀ w', Below W.heap.size W w' → Below W.heap.size W w' ∧ w'.cell? ⟨w.heap.size, 0, none⟩ = some (.slice s.ta s.types.length s.tc) ∧ w'.cell? ⟨w.heap.size, 1, none⟩ = some (.slice s.sa s.syms.length s.sc) ∧
          w'.cell? ⟨w1.heap.size, 0, none⟩ = some (.slice s'.ta s'.types.length s'.tc) ∧ w'.cell? ⟨w1.heap.size, 1, none⟩ = some (.slice s'.sa s'.syms.length s'.sc) ∧
          w'.cell? ⟨w.heap.size + 1, 0, none⟩ = some (.int .i64 t) ∧ w'.cell? ⟨w.heap.size + 1, 1, none⟩ = some (.int .i64 a) :=
        fun w' hb => ⟨hb, (k4.old hb).cell 0, (k4.old hb).cell 1, (k5.old hb).cell 0, (k5.old hb).cell 1, (ka4.old hb).cell 0, (ka4.old hb).cell 1⟩
      have HK := Lib.hid hkeep
      have H2 := Lib.hid h4
      have H2' := Lib.hid h4'
      have e3 := E3.out t a
      clear hkeep h4 h4' k4 ka4 k5 hrd
      go_region_held3 (fun w' => Below W.heap.size W w' ∧ w'.cell? ⟨w.heap.size, 0, none⟩ = some (.slice s.ta s.types.length s.tc) ∧ w'.cell? ⟨w.heap.size, 1, none⟩ = some (.slice s.sa s.syms.length s.sc) ∧
          w'.cell? ⟨w1.heap.size, 0, none⟩ = some (.slice s'.ta s'.types.length s'.tc) ∧ w'.cell? ⟨w1.heap.size, 1, none⟩ = some (.slice s'.sa s'.syms.length s'.sc) ∧
          w'.cell? ⟨w.heap.size + 1, 0, none⟩ = some (.int .i64 t) ∧ w'.cell? ⟨w.heap.size + 1, 1, none⟩ = some (.int .i64 a))
        (first | exact HK.out _ (by assumption) | exact HK.out _ (Below.drew (by assumption)))
        (first
          | (go_at_call 9; refine (awake_any _).mono ?_; rintro e w3 ⟨rfl, hb3⟩; have hb4 : Below W.heap.size W w3 := (by apply bel_step (hb := hb3); assumption); clear hb3)
          | (go_at_call 23; refine (pkind_any s' _ _ _ (H2'.out.step (by assumption))).mono ?_; rintro e w3 ⟨rfl, hb3⟩; have hb4 : Below W.heap.size W w3 := (by apply bel_step (hb := hb3); assumption); clear hb3)
          | (go_at_call 24; refine (kind_any s _ _ _ (H2.out.step (by assumption))).mono ?_; rintro e w3 ⟨rfl, hb3⟩; have hb4 : Below W.heap.size W w3 := (by apply bel_step (hb := hb3); assumption); clear hb3))
      go_wp2
      go_ret
      exact ⟨rfl, b4.trans (Below.mono (by assumption) b4.size)⟩

theorem own : ownKnob Try.prog.godebug = none := by kernel_rfl
theorem laidOut : laidOutB Try.prog = true := by kernel_rfl
theorem rec0 : (Try.f6.params.toList.all fun t => Try.prog.readableRec t && decide (t < Try.prog.types.size)) = true := by kernel_rfl
theorem pair : ∃ n e, Try.prog.underlying 41 = some (.array n e) ∧ n = 2 ∧ e = 3 := ⟨_, _, Try.underlying41, rfl, rfl⟩
theorem cPair : Try.prog.cellsOf 41 = 2 := by kernel_rfl
/-- A pair of ints as an argument. -/
theorem open_pair {H : Type} {enc : TypeId × Value → H} {w : World} {r : Reach} {b0 : Nat} {v : Value} {d : DataW H} {p : List MemPlace} (hv : Value.okWide Try.prog w r b0 41 v) (h : DataW.Trod enc Try.prog w 0 (fun _ => true) true 41 v d p) :
    ∃ x y : Int, v = .agg #[.int .i64 x, .int .i64 y] := by
  obtain ⟨n, e, hu, rfl, rfl⟩ := pair
  have hv' := hv
  simp only [Value.okWide, hu] at hv'
  obtain ⟨cs, rfl, hsz, _⟩ := hv'
  rw [cPair] at hsz
  obtain ⟨l⟩ := cs
  have hl : l.length = 2 := hsz
  match l, hl with
  | [a, b], _ =>
    obtain ⟨fuel, hf⟩ := h
    obtain ⟨xs, n1, _, _, _, hn3, hel⟩ := DataW.trod_array hu hf
    have h0 := hel 0 (by omega)
    have h1 := hel 1 (by omega)
    rw [List.getElem?_eq_getElem (by omega), cInt] at h0 h1
    obtain ⟨x, e0, _⟩ := DataW.trod_int Try.underlying3 h0
    obtain ⟨y, e1, _⟩ := DataW.trod_int Try.underlying3 h1
    simp [Value.cells] at e0 e1
    subst e0; subst e1
    exact ⟨x, y, rfl⟩
set_option maxRecDepth 100000 in
theorem lifted (os : Os) (started : os.Started) (H : Type) (enc : TypeId × Value → H) :
    ReturnsInHanded {} Try.checked os 6 .any (Rows.schemaKindsSpec.pre6 enc Try.prog Try.f6 Rows.schemaKindsRow.domain false) (Rows.schemaKindsSpec.post enc Try.prog Try.f6 false true false false) := by
  refine law_step (C := Try.checked) (tb := 4) own started (by kernel_rfl) Try.func6
    (ChangeSpec.witness6 (enc := enc) (C := Try.checked) false ⟨#[], #[.agg #[.slice none 0 0, .slice none 0 0], .string .empty, .agg #[.int .i64 0, .int .i64 0]], []⟩ 8 (by kernel_rfl) (by kernel_rfl) (by kernel_rfl) (by kernel_rfl)) laidOut ?_ rfl Try.underlying4 rfl ?_ ?_
  · intro t ht
    have := List.all_eq_true.1 rec0 t ht
    simp only [Bool.and_eq_true, decide_eq_true_eq] at this
    exact this
  · intro ds hd
    match ds, hd with
    | [d0, d1, d2], _ => exact ⟨rfl, rfl, rfl⟩
  intro W base args ds p hval hA hsz
  rw [Try.params6] at hA hval hsz
  obtain ⟨v0, vs0, d0, ds0, p0, q0, hargs, rfl, rfl, h0, r0⟩ := trodAll_cons hA
  obtain ⟨v1, vs1, d1, ds1, p1, q1, rfl, rfl, rfl, h1, r1⟩ := trodAll_cons r0
  obtain ⟨v2, vs2, d2, ds2, p2, q2, rfl, rfl, rfl, h2, r2⟩ := trodAll_cons r1
  obtain ⟨rfl, rfl, rfl⟩ := trodAll_nil r2
  obtain rfl : args = #[v0, v1, v2] := by cases args; simp_all
  obtain ⟨s, rfl, hok⟩ := open_schema (hval 0 _ v0 rfl rfl) h0 (weights_each (i := 0) hsz rfl rfl)
  obtain ⟨nm, rfl, _, _, _⟩ := open_string Try.underlying9 (hval 1 9 v1 rfl rfl) h1
  obtain ⟨t, a, rfl⟩ := open_pair (hval 2 _ v2 rfl rfl) h2
  exact walk s nm t a W hok

theorem schemaKinds_holds : Rows.SchemaKindsSaid :=
  OpenClaim.holds_of_wide 6 Try.f6 rfl rfl rfl rfl rfl rfl rfl ⟨rfl, rfl, rfl, rfl, rfl⟩ rfl rfl rfl rfl rfl (by kernel_rfl) Try.func6 (by kernel_rfl)
    (of_decide_eq_true (by kernel_rfl)) (by unfold Func.isWrapper; first | (rw [if_pos (by decide +kernel)]; kernel_rfl) | (rw [if_neg (by decide +kernel)]; exact ⟨rfl, rfl⟩))
    (fun os started H enc _ => lifted os started H enc)
#print axioms schemaKinds_holds
end Go.Proofs.Ytdgblfcfojadcaa.schemaKinds
