/- SchemaFinds holds: in any schema the program finds types, attributes and symbols where the document does. No conditions. -/
import Derived.Test.YtdgblfcfojadcaaSchG
import Derived.Deep.RegionHeld3
import Derived.Test.YtdgblfcfojadcaaSchRd
namespace Go.Proofs.Ytdgblfcfojadcaa.schemaFinds
open Go.ChangeShapes Go.WideShapes Go.ChangeAt Go.RowKit
open Go.ChangeMaps (open_string shut_string)

theorem walk (s : SchemaV) (nm : ByteArray) (t : Int) (w : World) (h : s.ok w w.heap.size) :
    Calls Try.prog 5 #[s.val, .string nm, .int .i64 t] w fun e w' => e = .returned (.bool true) ∧ Below w.heap.size w w' := by
  unfold SchemaV.val
  go_enter Try.func5, Try.ntmps5
  go_wp2_with fail
  have k0 := Bk.new w 30 #[.slice s.ta s.types.length s.tc, .slice s.sa s.syms.length s.sc]
  have b0 : Below w.heap.size w (w.alloc (.cells #[.slice s.ta s.types.length s.tc, .slice s.sa s.syms.length s.sc] 30)) := (Below.refl _ _).alloc (Nat.le_refl _) _
  have h0 := h.old b0
  clear h
  refine (to_any s _ h0).mono ?_
  rintro e w1 ⟨s', rfl, hok', hsig, hsyms, hb⟩
  have k1 := k0.old hb
  have h1 := h0.old hb
  have b1 := b0.trans (hb.mono b0.size)
  have HS := Lib.hid hsig
  have HY := Lib.hid hsyms
  clear hsig hsyms k0 h0 b0 hb
  unfold SchemaV.val
  go_wp2_with fail
  have k2 := k1.alloc (.cells #[.slice s'.ta s'.types.length s'.tc, .slice s'.sa s'.syms.length s'.sc] 33)
  have k3 := Bk.new w1 33 #[.slice s'.ta s'.types.length s'.tc, .slice s'.sa s'.syms.length s'.sc]
  have bb : Below w1.heap.size w1 (w1.alloc (.cells #[.slice s'.ta s'.types.length s'.tc, .slice s'.sa s'.syms.length s'.sc] 33)) := (Below.refl _ _).alloc (Nat.le_refl _) _
  have h2 := h1.old bb
  have h2' := hok'.old bb
  have b2 := b1.trans (bb.mono b1.size)
  clear k1 h1 hok' bb
  generalize hW : w1.alloc (.cells #[.slice s'.ta s'.types.length s'.tc, .slice s'.sa s'.syms.length s'.sc] 33) = W at *
  clear hW b1
  have e1 : typeAt s' nm.toList = typeAt s nm.toList := by rw [typeAt_sig, typeAt_sig, show s'.types.map sig = s.types.map sig from HS.out]
  have e2 : attrAt s' t nm.toList = attrAt s t nm.toList := by rw [attrAt_sig, attrAt_sig, show s'.types.map sig = s.types.map sig from HS.out]
  have e3 : atFrom nm.toList 0 (s'.syms.map (·.toList)) = atFrom nm.toList 0 (s.syms.map (·.toList)) := by rw [HY.out]
  have hkeep : ∀ w', Below W.heap.size W w' → Below W.heap.size W w' ∧ w'.cell? ⟨w.heap.size, 0, none⟩ = some (.slice s.ta s.types.length s.tc) ∧ w'.cell? ⟨w.heap.size, 1, none⟩ = some (.slice s.sa s.syms.length s.sc) ∧
      w'.cell? ⟨w1.heap.size, 0, none⟩ = some (.slice s'.ta s'.types.length s'.tc) ∧ w'.cell? ⟨w1.heap.size, 1, none⟩ = some (.slice s'.sa s'.syms.length s'.sc) :=
    fun w' hb => ⟨hb, (k2.old hb).cell 0, (k2.old hb).cell 1, (k3.old hb).cell 0, (k3.old hb).cell 1⟩
  have HK := Lib.hid hkeep
  have H2 := Lib.hid h2
  have H2' := Lib.hid h2'
  clear hkeep h2 h2' k2 k3
  go_region_held3 (fun w' => Below W.heap.size W w' ∧ w'.cell? ⟨w.heap.size, 0, none⟩ = some (.slice s.ta s.types.length s.tc) ∧ w'.cell? ⟨w.heap.size, 1, none⟩ = some (.slice s.sa s.syms.length s.sc) ∧
      w'.cell? ⟨w1.heap.size, 0, none⟩ = some (.slice s'.ta s'.types.length s'.tc) ∧ w'.cell? ⟨w1.heap.size, 1, none⟩ = some (.slice s'.sa s'.syms.length s'.sc))
    (first | exact HK.out _ (by assumption) | exact HK.out _ (Below.drew (Below.refl _ _)))
    (first
      | (go_at_call 9; refine (awake_any _).mono ?_; rintro e w3 ⟨rfl, hb3⟩; have hb4 : Below W.heap.size W w3 := (by apply bel_step (hb := hb3); assumption); clear hb3)
      | (go_at_call 16; refine (ptype_any s' _ _ (H2'.out.step (by assumption))).mono ?_; rintro e w3 ⟨rfl, hb3⟩; have hb4 : Below W.heap.size W w3 := (by apply bel_step (hb := hb3); assumption); clear hb3)
      | (go_at_call 17; refine (typeAt_any s _ _ (H2.out.step (by assumption))).mono ?_; rintro e w3 ⟨rfl, hb3⟩; have hb4 : Below W.heap.size W w3 := (by apply bel_step (hb := hb3); assumption); clear hb3)
      | (go_at_call 18; refine (pattr_any s' _ _ _ (H2'.out.step (by assumption))).mono ?_; rintro e w3 ⟨rfl, hb3⟩; have hb4 : Below W.heap.size W w3 := (by apply bel_step (hb := hb3); assumption); clear hb3)
      | (go_at_call 19; refine (attrAt_any s _ _ _ (H2.out.step (by assumption))).mono ?_; rintro e w3 ⟨rfl, hb3⟩; have hb4 : Below W.heap.size W w3 := (by apply bel_step (hb := hb3); assumption); clear hb3)
      | (go_at_call 20; refine (psym_any s' _ _ (H2'.out.step (by assumption))).mono ?_; rintro e w3 ⟨rfl, hb3⟩; have hb4 : Below W.heap.size W w3 := (by apply bel_step (hb := hb3); assumption); clear hb3)
      | (go_at_call 21; refine (at_any s.sa _ s.syms _ _ _ (H2.out.step (by assumption)).syms (by have := H2.out.slen; unfold maxLen; omega)).mono ?_; rintro e w3 ⟨rfl, rfl⟩; have hb4 : Below W.heap.size W _ := (by apply bel_step (hb := Below.refl _ _); assumption)))
  go_wp2
  go_ret
  exact ⟨rfl, b2.trans (Below.mono (by assumption) b2.size)⟩

theorem own : ownKnob Try.prog.godebug = none := by kernel_rfl
theorem laidOut : laidOutB Try.prog = true := by kernel_rfl
theorem rec0 : (Try.f5.params.toList.all fun t => Try.prog.readableRec t && decide (t < Try.prog.types.size)) = true := by kernel_rfl

set_option maxRecDepth 100000 in
theorem lifted (os : Os) (started : os.Started) (H : Type) (enc : TypeId × Value → H) :
    ReturnsInHanded {} Try.checked os 5 .any (Rows.schemaFindsSpec.pre6 enc Try.prog Try.f5 Rows.schemaFindsRow.domain false) (Rows.schemaFindsSpec.post enc Try.prog Try.f5 false true false false) := by
  refine law_step (C := Try.checked) (tb := 4) own started (by kernel_rfl) Try.func5
    (ChangeSpec.witness6 (enc := enc) (C := Try.checked) false ⟨#[], #[.agg #[.slice none 0 0, .slice none 0 0], .string .empty, .int .i64 0], []⟩ 8 (by kernel_rfl) (by kernel_rfl) (by kernel_rfl) (by kernel_rfl)) laidOut ?_ rfl Try.underlying4 rfl ?_ ?_
  · intro t ht
    have := List.all_eq_true.1 rec0 t ht
    simp only [Bool.and_eq_true, decide_eq_true_eq] at this
    exact this
  · intro ds hd
    match ds, hd with
    | [d0, d1, d2], _ => exact ⟨rfl, rfl, rfl⟩
  intro W base args ds p hval hA hsz
  rw [Try.params5] at hA hval hsz
  obtain ⟨v0, vs0, d0, ds0, p0, q0, hargs, rfl, rfl, h0, r0⟩ := trodAll_cons hA
  obtain ⟨v1, vs1, d1, ds1, p1, q1, rfl, rfl, rfl, h1, r1⟩ := trodAll_cons r0
  obtain ⟨v2, vs2, d2, ds2, p2, q2, rfl, rfl, rfl, h2, r2⟩ := trodAll_cons r1
  obtain ⟨rfl, rfl, rfl⟩ := trodAll_nil r2
  obtain rfl : args = #[v0, v1, v2] := by cases args; simp_all
  obtain ⟨s, rfl, hok⟩ := open_schema (hval 0 _ v0 rfl rfl) h0 (weights_each (i := 0) hsz rfl rfl)
  obtain ⟨nm, rfl, _, _, _⟩ := open_string Try.underlying9 (hval 1 9 v1 rfl rfl) h1
  obtain ⟨t, rfl, _, _, _⟩ := open_int Try.underlying3 (hval 2 3 v2 rfl rfl) h2
  exact walk s nm t W hok

theorem schemaFinds_holds : Rows.SchemaFindsSaid :=
  OpenClaim.holds_of_wide 5 Try.f5 rfl rfl rfl rfl rfl rfl rfl ⟨rfl, rfl, rfl, rfl, rfl⟩ rfl rfl rfl rfl rfl (by kernel_rfl) Try.func5 (by kernel_rfl)
    (of_decide_eq_true (by kernel_rfl)) (by unfold Func.isWrapper; first | (rw [if_pos (by decide +kernel)]; kernel_rfl) | (rw [if_neg (by decide +kernel)]; exact ⟨rfl, rfl⟩))
    (fun os started H enc _ => lifted os started H enc)
#print axioms schemaFinds_holds
end Go.Proofs.Ytdgblfcfojadcaa.schemaFinds
