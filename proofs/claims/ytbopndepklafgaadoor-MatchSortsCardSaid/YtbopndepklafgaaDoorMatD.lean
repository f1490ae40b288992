/- Layer 10: contracts of Cut, Split, Atoi as the reader needs them. No conditions. -/
import Derived.Test.YtbopndepklafgaaDoorMatC
namespace Go.Proofs.YtbopndepklafgaaDoor
open Go.RowKit
set_option maxRecDepth 10000
set_option linter.unusedVariables false
set_option linter.unusedSimpArgs false

/-- What the library's own variables hold. -/
structure Env (w : World) : Prop where
  tab : Tab w
  max : ∃ n, w.cell? ⟨0, 0, none⟩ = some (.int .i64 n)
  syn : ∃ t p, w.cell? ⟨1, 0, none⟩ = some (.iface t p)
  rng : ∃ t p, w.cell? ⟨2, 0, none⟩ = some (.iface t p)
theorem Env.old {w w' : World} (h : Env w) (hb : Below w.heap.size w w') : Env w' := by
  obtain ⟨h1, ⟨n, h2⟩, ⟨t, p, h3⟩, t', p', h4⟩ := h
  exact ⟨h1.old hb, ⟨n, (bcell hb _ _ (World.block_lt_of_cell? _ _ h2)).trans h2⟩, ⟨t, p, (bcell hb _ _ (World.block_lt_of_cell? _ _ h3)).trans h3⟩, t', p', (bcell hb _ _ (World.block_lt_of_cell? _ _ h4)).trans h4⟩
theorem cut_any (s sep : ByteArray) (c1 c2 : List UInt8) (cf : Bool) (hc : Lib.cut s.data.toList sep.data.toList = (c1, c2, cf)) (w : World) (hE : Env w) (hs : s.size < 4294967281) :
    Calls Tryd.prog 17 #[.string s, .string sep] w fun e w' => e = .returned (.tuple #[.string (bytes c1), .string (bytes c2), .bool cf]) ∧ Below w.heap.size w w' := by
  obtain ⟨m, hm⟩ := hE.max
  refine (Any.strings_Cut { Tryd.laysM145 with } s sep m w hs hm).mono ?_
  rintro e w' ⟨rfl, n, rfl⟩
  rw [hc]
  exact ⟨rfl, ⟨rfl, rfl, rfl, Nat.le_refl _, fun _ _ => rfl⟩⟩
def splitL (s sep : ByteArray) : List ByteArray := Lib.splitB sep 0 (Lib.countB s sep) s
theorem spl_len (s sep : ByteArray) (h1 : 1 ≤ sep.size) : (splitL s sep).length = Lib.countB s sep + 1 := Lib.splitB_all sep h1 0 _ s rfl
theorem spl_le (s sep : ByteArray) (h1 : 1 ≤ sep.size) : (splitL s sep).length ≤ s.size + 1 := by
  rw [spl_len s sep h1]
  have := Lib.countB_le sep h1 s.size s (Nat.le_refl _)
  omega
theorem split_any (s sep : ByteArray) (w : World) (hE : Env w) (hs : s.size < 4294967281) (h1 : 1 ≤ sep.size) :
    Calls Tryd.prog 18 #[.string s, .string sep] w fun e w' => ∃ A, e = .returned (.slice A (splitL s sep).length (splitL s sep).length) ∧ Rd w' w'.heap.size A ((splitL s sep).map Value.string) ∧ Below w.heap.size w w' ∧ A = some ⟨w.heap.size, 0, none⟩ := by
  obtain ⟨m, hm⟩ := hE.max
  refine (Any.strings_Split { Tryd.laysM146 with } Tryd.laysM146.i9 s sep m w hs hm h1).mono ?_
  rintro e w' ⟨rfl, rfl⟩
  refine ⟨_, by rw [spl_len s sep h1], ?_, (Below.refl _ _).alloc (Nat.le_refl _) _, rfl⟩
  have := (Rd.lit (w := w) (g := w.heap.size) rfl ((splitL s sep).map Value.string).toArray 9).more (B' := (w.alloc (.cells ((splitL s sep).map Value.string).toArray 9)).heap.size) (by simp)
  show Rd (w.alloc (.cells ((splitL s sep).map Value.string).toArray 9)) (w.alloc (.cells ((splitL s sep).map Value.string).toArray 9)).heap.size _ _
  simpa using this
def atoiV (s : ByteArray) : Int := match Lib.atoiAll s.data.toList with | .ok v => v | .«syntax» => 0 | .range => Lib.atoiSat s.data.toList
theorem atoi_any (s : ByteArray) (w : World) (hE : Env w) (hs : s.size < 4294967281) :
    Calls Tryd.prog 19 #[.string s] w fun e w' => ∃ ev, e = .returned (.tuple #[.int .i64 (atoiV s), ev]) ∧ Below w.heap.size w w' := by
  unfold atoiV
  cases hq : Lib.atoiAll s.data.toList with
  | ok v =>
    refine (Tryd.strconv_Atoi_ok s (by omega) v hq w).mono ?_
    rintro e w' ⟨rfl, hw⟩
    refine ⟨_, rfl, ?_⟩
    rcases hw with rfl | ⟨t, rfl⟩
    · exact Below.refl _ _
    · exact Lib.bytesWorld_below w _ t
  | «syntax» =>
    obtain ⟨t, p, h3⟩ := hE.syn
    refine (Tryd.strconv_Atoi_syntax s (by omega) hq _ w h3 (.inr ⟨t, p, rfl⟩)).mono ?_
    rintro e w' ⟨N, rfl, _, _, hb⟩
    exact ⟨_, rfl, hb⟩
  | range =>
    obtain ⟨t, p, h3⟩ := hE.rng
    refine (Tryd.strconv_Atoi_range s (by omega) hq _ w h3 (.inr ⟨t, p, rfl⟩)).mono ?_
    rintro e w' ⟨N, rfl, _, _, hb⟩
    exact ⟨_, rfl, hb⟩
def sp : ByteArray := ⟨#[32]⟩
def semi : ByteArray := ⟨#[59]⟩
/-- What is read. -/
def partP (s : ByteArray) : List Int := ((splitL s sp).drop 1).map atoiV
def bodyM (s : ByteArray) (c2 : List UInt8) (hd : List ByteArray) : Option (Int × Int × List (List Int)) :=
  match hd with
  | [x0, x1] => if s.size = 0 then none else if bytes (lineT (atoiV x0) (atoiV x1) ((splitL (bytes c2) semi).map partP)) = s then some (atoiV x0, atoiV x1, (splitL (bytes c2) semi).map partP) else none
  | _ => none
def parseM (s : ByteArray) : Option (Int × Int × List (List Int)) :=
  if (Lib.cut s.data.toList [58]).2.2 = true then bodyM s (Lib.cut s.data.toList [58]).2.1 (splitL (bytes (Lib.cut s.data.toList [58]).1) sp) else none
theorem part_len (x : ByteArray) : (partP x).length = (splitL x sp).length - 1 := by simp [partP]
theorem part_snoc (x : ByteArray) (j : Nat) (h : j < (splitL x sp).length) (h0 : 0 < j) : (((partP x).take (j - 1 + 1)).map fun n : Int => Value.int .i64 n) = (((partP x).take (j - 1)).map fun n : Int => Value.int .i64 n) ++ [Value.int .i64 (atoiV (splitL x sp)[j])] := by
  obtain ⟨i, rfl⟩ : ∃ i, j = i + 1 := ⟨j - 1, by omega⟩
  rw [Nat.add_sub_cancel, List.take_succ_eq_append_getElem (by rw [part_len]; omega), List.map_append]
  unfold partP
  simp [Nat.add_comm]
/-- The sizes of what is read. -/
structure Small (s : ByteArray) : Prop where
  z : s.size < 4294967281
  c1 : (Lib.cut s.data.toList [58]).1.length < 4294967281
  c2 : (Lib.cut s.data.toList [58]).2.1.length < 4294967281
  h : ∀ x ∈ splitL (bytes (Lib.cut s.data.toList [58]).1) sp, x.size < 4294967281
  p : ∀ x ∈ splitL (bytes (Lib.cut s.data.toList [58]).2.1) semi, x.size < 4294967281 ∧ ∀ y ∈ splitL x sp, y.size < 4294967281
  l : ∀ st br, -9223372036854775808 ≤ st ∧ st ≤ 9223372036854775807 → -9223372036854775808 ≤ br ∧ br ≤ 9223372036854775807 → (lineL st br ((splitL (bytes (Lib.cut s.data.toList [58]).2.1) semi).map partP)).length ≤ 140737488355328
theorem atoi_range (s : ByteArray) : -9223372036854775808 ≤ atoiV s ∧ atoiV s ≤ 9223372036854775807 := by
  unfold atoiV
  cases hq : Lib.atoiAll s.data.toList with
  | ok v =>
    show -9223372036854775808 ≤ v ∧ v ≤ 9223372036854775807
    unfold Lib.atoiAll at hq
    simp only at hq
    repeat' (split at hq)
    all_goals first | (cases hq; done) | skip
    all_goals
      simp only [Lib.NumEnd.ok.injEq] at hq
      subst hq
      omega
  | «syntax» => exact (by decide : -9223372036854775808 ≤ (0 : Int) ∧ (0 : Int) ≤ 9223372036854775807)
  | range =>
    show -9223372036854775808 ≤ Lib.atoiSat s.data.toList ∧ Lib.atoiSat s.data.toList ≤ 9223372036854775807
    unfold Lib.atoiSat
    split <;> omega
end Go.Proofs.YtbopndepklafgaaDoor
