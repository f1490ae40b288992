/- SchemaWords holds: each word is one and no name, with a sign more it is a name and no word. No conditions. -/
import Derived.Test.YtdgblfcfojadcaaSchG
import Derived.Test.YtdgblfcfojadcaaLaw
namespace Go.Proofs.Ytdgblfcfojadcaa.schemaWords
open Go.ChangeShapes Go.WideShapes Go.ChangeAt Go.RowKit

theorem word_facts : ∀ l ∈ wordsL, wordB l = true ∧ nameB l = false ∧ nameB (l ++ [95]) = true ∧ wordB (l ++ [95]) = false := by decide +kernel

theorem word_sizes : ∀ s ∈ wordsS, s.size ≤ 9 := by decide +kernel
theorem cat_list (a b : ByteArray) : (a ++ b).toList = a.toList ++ b.toList := by simp only [ByteArray.toList_eq, _root_.ByteArray.toList_data_append]

theorem walk (k : Int) (w : World) :
    Calls Try.prog 4 #[.int .i64 k] w fun e w' => e = .returned (.bool true) ∧ Below w.heap.size w w' := by
  obtain ⟨m, hm, hlt⟩ : ∃ m : Nat, wrap64 ((IntKind.u64.wrap k).tmod 25) = (m : Int) ∧ m < 25 := by
    have h0 : 0 ≤ IntKind.u64.wrap k := by simp [IntKind.wrap, IntKind.bits, IntKind.signed]; omega
    refine ⟨((IntKind.u64.wrap k).tmod 25).toNat, ?_, ?_⟩
    · rw [Int.tmod_eq_emod_of_nonneg h0]
      have : 0 ≤ (IntKind.u64.wrap k) % 25 ∧ (IntKind.u64.wrap k) % 25 < 25 := by omega
      generalize (IntKind.u64.wrap k) % 25 = z at *
      unfold wrap64; omega
    · rw [Int.tmod_eq_emod_of_nonneg h0]; omega
  have hl : m < wordsS.length := hlt
  have hw : wordsS[m].toList ∈ wordsL := by rw [← wordsS_list]; exact List.mem_map_of_mem (List.getElem_mem _)
  obtain ⟨f1, f2, f3, f4⟩ := word_facts _ hw
  have hsz := word_sizes _ (List.getElem_mem hl)
  have h95 : (⟨#[95]⟩ : ByteArray).toList = [95] := by rw [ByteArray.toList_eq]
  have g3 : nameB (wordsS[m] ++ ⟨#[95]⟩).toList = true := by rw [cat_list, h95]; exact f3
  have g4 : wordB (wordsS[m] ++ ⟨#[95]⟩).toList = false := by rw [cat_list, h95]; exact f4
  clear hw f3 f4 h95
  go_enter Try.func4, Try.ntmps4
  go_wp2_with fail
  refine (words_any _).mono ?_
  rintro e w1 ⟨rfl, hrd, hb⟩
  obtain ⟨b, o, hA, _, hc⟩ := hrd.elem1 hl
  injection hA with hA
  injection hA with hA1 hA2
  subst hA1; subst hA2
  rw [Nat.zero_add] at hc
  generalize wordsS[m] = W at *
  clear hrd hl
  go_wp2_with fail
  refine (awake_any _).mono ?_
  rintro e w2 ⟨rfl, hb2⟩
  have hb := hb.trans (hb2.mono hb.size)
  clear hb2 hc
  go_wp2_with fail
  refine (word_any _ _).mono ?_
  rintro e w3 ⟨rfl, rfl⟩
  go_wp2_with fail
  refine (pname_any _ _).mono ?_
  rintro e w3 ⟨rfl, hb2⟩
  have hb := hb.trans (hb2.mono hb.size)
  clear hb2
  go_wp2_with fail
  refine (pname_any _ _).mono ?_
  rintro e w4 ⟨rfl, hb2⟩
  have hb := hb.trans (hb2.mono hb.size)
  clear hb2
  go_wp2_with fail
  refine (word_any _ _).mono ?_
  rintro e w5 ⟨rfl, rfl⟩
  go_wp2
  go_ret
  exact ⟨rfl, hb⟩

theorem own : ownKnob Try.prog.godebug = none := by kernel_rfl
theorem laidOut : laidOutB Try.prog = true := by kernel_rfl
theorem rec9 : Try.prog.readableRec 3 = true := by kernel_rfl
theorem lt9 : decide (3 < Try.prog.types.size) = true := by kernel_rfl

set_option maxRecDepth 100000 in
theorem lifted (os : Os) (started : os.Started) (H : Type) (enc : TypeId × Value → H) :
    ReturnsInHanded {} Try.checked os 4 .any (Rows.schemaWordsSpec.pre6 enc Try.prog Try.f4 Rows.schemaWordsRow.domain false) (Rows.schemaWordsSpec.post enc Try.prog Try.f4 false true false false) := by
  refine law_step (C := Try.checked) (tb := 4) own started (by kernel_rfl) Try.func4
    (ChangeSpec.witness6 (enc := enc) (C := Try.checked) false ⟨#[], #[.int .i64 0], []⟩ 8 (by kernel_rfl) (by kernel_rfl) (by kernel_rfl) (by kernel_rfl)) laidOut ?_ rfl Try.underlying4 rfl ?_ ?_
  · rw [Try.params4]
    intro t ht
    obtain rfl : t = 3 := by simpa using ht
    exact ⟨rec9, of_decide_eq_true lt9⟩
  · intro ds hd
    match ds, hd with
    | [d], _ => exact ⟨rfl, rfl, rfl⟩
  intro W base args ds p hval hA _
  rw [Try.params4] at hA hval
  obtain ⟨v0, vs0, d0, ds0, p0, q0, hargs, rfl, rfl, h0, r0⟩ := trodAll_cons hA
  obtain ⟨rfl, rfl, rfl⟩ := trodAll_nil r0
  obtain rfl : args = #[v0] := by cases args; simp_all
  obtain ⟨k, rfl, _, _, _⟩ := open_int Try.underlying3 (hval 0 3 v0 rfl rfl) h0
  exact walk k W

theorem schemaWords_holds : Rows.SchemaWordsSaid :=
  OpenClaim.holds_of_wide 4 Try.f4 rfl rfl rfl rfl rfl rfl rfl ⟨rfl, rfl, rfl, rfl, rfl⟩ rfl rfl rfl rfl rfl (by kernel_rfl) Try.func4 (by kernel_rfl)
    (of_decide_eq_true (by kernel_rfl)) (by unfold Func.isWrapper; first | (rw [if_pos (by decide +kernel)]; kernel_rfl) | (rw [if_neg (by decide +kernel)]; exact ⟨rfl, rfl⟩))
    (fun os started H enc _ => lifted os started H enc)
#print axioms schemaWords_holds
end Go.Proofs.Ytdgblfcfojadcaa.schemaWords
