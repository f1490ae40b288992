/- SchemaChecks holds: the program tells what is wrong with any schema as the document does. No conditions. -/
import Derived.Test.YtdgblfcfojadcaaSchJ
import Derived.Deep.RegionHeld3
import Derived.Test.YtdgblfcfojadcaaSchRd
namespace Go.Proofs.Ytdgblfcfojadcaa.schemaChecks
open Go.ChangeShapes Go.WideShapes Go.ChangeAt Go.RowKit

theorem walk (s : SchemaV) (w : World) (h : s.ok w w.heap.size) :
    Calls Try.prog 7 #[s.val] w fun e w' => e = .returned (.bool true) ∧ Below w.heap.size w w' := by
  unfold SchemaV.val
  go_enter Try.func7, Try.ntmps7
  go_wp2
  have k0 := Bk.new w 30 #[.slice s.ta s.types.length s.tc, .slice s.sa s.syms.length s.sc]
  have b0 : Below w.heap.size w (w.alloc (.cells #[.slice s.ta s.types.length s.tc, .slice s.sa s.syms.length s.sc] 30)) := (Below.refl _ _).alloc (Nat.le_refl _) _
  have h0 := h.old b0
  clear h
  generalize hW : w.alloc (.cells #[.slice s.ta s.types.length s.tc, .slice s.sa s.syms.length s.sc] 30) = W at *
  clear hW
  have hkeep : ∀ w', Below W.heap.size W w' → Below W.heap.size W w' ∧ w'.cell? ⟨w.heap.size, 0, none⟩ = some (.slice s.ta s.types.length s.tc) ∧ w'.cell? ⟨w.heap.size, 1, none⟩ = some (.slice s.sa s.syms.length s.sc) :=
    fun w' hb => ⟨hb, (k0.old hb).cell 0, (k0.old hb).cell 1⟩
  have HK := Lib.hid hkeep
  have H2 := Lib.hid h0
  clear hkeep h0 k0
  go_region_held3 (fun w' => Below W.heap.size W w' ∧ w'.cell? ⟨w.heap.size, 0, none⟩ = some (.slice s.ta s.types.length s.tc) ∧ w'.cell? ⟨w.heap.size, 1, none⟩ = some (.slice s.sa s.syms.length s.sc))
    (first | exact HK.out _ (by assumption) | exact HK.out _ (Below.drew (Below.refl _ _)))
    (first
      | (go_at_call 9; refine (awake_any _).mono ?_; rintro e w3 ⟨rfl, hb3⟩; have hb4 : Below W.heap.size W w3 := (by apply bel_step (hb := hb3); assumption); clear hb3)
      | (go_at_call 15; refine (to_any s _ (H2.out.step (by assumption))).mono ?_; rintro e w3 ⟨s', rfl, hok', hsig, hsyms, hb3⟩; have hb4 : Below W.heap.size W w3 := (by apply bel_step (hb := hb3); assumption); have HOK := Lib.hid hok'; have HSG := Lib.hid hsig; have HSY := Lib.hid hsyms; clear hb3 hok' hsig hsyms; unfold SchemaV.val)
      | (go_at_call 25; refine (pcheck_any s' _ HOK.out).mono ?_; rintro e w3 ⟨rfl, hb3⟩; have hb4 : Below W.heap.size W w3 := (by apply bel_step (hb := hb3); assumption); clear hb3; rw [show s'.types.map sig = s.types.map sig from HSG.out, HSY.out])
      | (go_at_call 26; refine (rcheck_any s _ (H2.out.step (by assumption))).mono ?_; rintro e w3 ⟨rfl, hb3⟩; have hb4 : Below W.heap.size W w3 := (by apply bel_step (hb := hb3); assumption); clear hb3))
  go_wp2
  go_ret
  exact ⟨rfl, b0.trans (Below.mono (by assumption) b0.size)⟩

theorem own : ownKnob Try.prog.godebug = none := by kernel_rfl
theorem laidOut : laidOutB Try.prog = true := by kernel_rfl
theorem rec0 : (Try.f7.params.toList.all fun t => Try.prog.readableRec t && decide (t < Try.prog.types.size)) = true := by kernel_rfl

set_option maxRecDepth 100000 in
theorem lifted (os : Os) (started : os.Started) (H : Type) (enc : TypeId × Value → H) :
    ReturnsInHanded {} Try.checked os 7 .any (Rows.schemaChecksSpec.pre6 enc Try.prog Try.f7 Rows.schemaChecksRow.domain false) (Rows.schemaChecksSpec.post enc Try.prog Try.f7 false true false false) := by
  refine law_step (C := Try.checked) (tb := 4) own started (by kernel_rfl) Try.func7
    (ChangeSpec.witness6 (enc := enc) (C := Try.checked) false ⟨#[], #[.agg #[.slice none 0 0, .slice none 0 0]], []⟩ 8 (by kernel_rfl) (by kernel_rfl) (by kernel_rfl) (by kernel_rfl)) laidOut ?_ rfl Try.underlying4 rfl ?_ ?_
  · intro t ht
    have := List.all_eq_true.1 rec0 t ht
    simp only [Bool.and_eq_true, decide_eq_true_eq] at this
    exact this
  · intro ds hd
    match ds, hd with
    | [d0], _ => exact ⟨rfl, rfl, rfl⟩
  intro W base args ds p hval hA hsz
  rw [Try.params7] at hA hval hsz
  obtain ⟨v0, vs0, d0, ds0, p0, q0, hargs, rfl, rfl, h0, r0⟩ := trodAll_cons hA
  obtain ⟨rfl, rfl, rfl⟩ := trodAll_nil r0
  obtain rfl : args = #[v0] := by cases args; simp_all
  obtain ⟨s, rfl, hok⟩ := open_schema (hval 0 _ v0 rfl rfl) h0 (weights_each (i := 0) hsz rfl rfl)
  exact walk s W hok

theorem schemaChecks_holds : Rows.SchemaChecksSaid :=
  OpenClaim.holds_of_wide 7 Try.f7 rfl rfl rfl rfl rfl rfl rfl ⟨rfl, rfl, rfl, rfl, rfl⟩ rfl rfl rfl rfl rfl (by kernel_rfl) Try.func7 (by kernel_rfl)
    (of_decide_eq_true (by kernel_rfl)) (by unfold Func.isWrapper; first | (rw [if_pos (by decide +kernel)]; kernel_rfl) | (rw [if_neg (by decide +kernel)]; exact ⟨rfl, rfl⟩))
    (fun os started H enc _ => lifted os started H enc)
#print axioms schemaChecks_holds
end Go.Proofs.Ytdgblfcfojadcaa.schemaChecks
