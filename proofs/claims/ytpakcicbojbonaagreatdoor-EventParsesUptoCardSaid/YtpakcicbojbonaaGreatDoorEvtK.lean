/- Layer 4: what the library's variables hold; Split; numbers and bits that are read, by the program. No conditions. -/
import Derived.Test.YtpakcicbojbonaaGreatDoorEvtJ
namespace Go.Proofs.YtpakcicbojbonaaGreatDoor
open Go.RowKit
set_option maxRecDepth 10000
set_option linter.unusedVariables false
set_option linter.unusedSimpArgs false

/-- What the library's own variables hold. -/
structure Env (w : World) : Prop where
  tab : Tab w
  max : ∃ n, w.cell? ⟨0, 0, none⟩ = some (.int .i64 n)
  syn : ∃ t p, w.cell? ⟨1, 0, none⟩ = some (.iface t p)
  rng : ∃ t p, w.cell? ⟨2, 0, none⟩ = some (.iface t p)
theorem Env.old {w w' : World} (h : Env w) (hb : Below w.heap.size w w') : Env w' := by
  obtain ⟨h1, ⟨n, h2⟩, ⟨t, p, h3⟩, t', p', h4⟩ := h
  exact ⟨h1.old hb, ⟨n, (bcell hb _ _ (World.block_lt_of_cell? _ _ h2)).trans h2⟩, ⟨t, p, (bcell hb _ _ (World.block_lt_of_cell? _ _ h3)).trans h3⟩, t', p', (bcell hb _ _ (World.block_lt_of_cell? _ _ h4)).trans h4⟩
theorem split_any (s sep : ByteArray) (w : World) (hE : Env w) (hs : s.size < 4294967281) (h1 : 1 ≤ sep.size) :
    Calls Tryz.prog 10 #[.string s, .string sep] w fun e w' => ∃ A, e = .returned (.slice A (splitL s sep).length (splitL s sep).length) ∧ Rd w' w'.heap.size A ((splitL s sep).map Value.string) ∧ Below w.heap.size w w' := by
  obtain ⟨m, hm⟩ := hE.max
  refine (Any.strings_Split { Tryz.laysM146 with } Tryz.laysM146.i9 s sep m w hs hm h1).mono ?_
  rintro e w' ⟨rfl, rfl⟩
  refine ⟨_, by rw [spl_len s sep h1], ?_, (Below.refl _ _).alloc (Nat.le_refl _) _⟩
  have := (Rd.lit (w := w) (g := w.heap.size) rfl ((splitL s sep).map Value.string).toArray 9).more (B' := (w.alloc (.cells ((splitL s sep).map Value.string).toArray 9)).heap.size) (by simp)
  show Rd (w.alloc (.cells ((splitL s sep).map Value.string).toArray 9)) (w.alloc (.cells ((splitL s sep).map Value.string).toArray 9)).heap.size _ _
  simpa using this
/-- What ParseInt tells, whatever the text. -/
def numT (l : List UInt8) : Int := match Lib.atoiAll l with | .ok n => n | .«syntax» => 0 | .range => Lib.atoiSat l
theorem numT_range (l : List UInt8) : -9223372036854775808 ≤ numT l ∧ numT l ≤ 9223372036854775807 := by
  unfold numT
  cases hq : Lib.atoiAll l with
  | ok v => exact Lib.atoiAll_bounds hq
  | «syntax» => exact ⟨by show (-9223372036854775808 : Int) ≤ 0; omega, by show (0 : Int) ≤ _; omega⟩
  | range => exact Lib.atoiSat_bounds l
theorem numP_T {l : List UInt8} {n : Int} (h : numP l = some n) : numT l = n := by
  unfold numP at h
  unfold numT
  cases hq : Lib.atoiAll l with
  | ok v =>
    rw [hq] at h
    simp only at h
    split at h
    · injection h
    · cases h
  | «syntax» => rw [hq] at h; cases h
  | range => rw [hq] at h; cases h
theorem pint_any (s : ByteArray) (w : World) (hE : Env w) (hs : s.size ≤ 281474976710656) :
    Calls Tryz.prog 32 #[.string s, .int .i64 10, .int .i64 64] w fun e w' => ∃ (ev : Value) (nil : Bool), e = .returned (.tuple #[.int .i64 (numT s.toList), ev]) ∧ (nil = true ∧ ev = .nilIface ∧ Lib.atoiAll s.toList = .ok (numT s.toList) ∨ nil = false ∧ (∃ t p, ev = .iface t p) ∧ numP s.toList = none) ∧ Below w.heap.size w w' := by
  have ht : s.toList = s.data.toList := ByteArray.toList_eq s
  unfold numT numP
  rw [ht]
  cases hq : Lib.atoiAll s.data.toList with
  | ok v =>
    have h64 := (Lib.parseIntB_64 s.data.toList).trans hq
    refine (Tryz.strconv_ParseInt_10_at64_ok s (by omega) v h64 w).mono ?_
    rintro e w' ⟨rfl, hw⟩
    refine ⟨_, true, rfl, .inl ⟨rfl, rfl, rfl⟩, ?_⟩
    rcases hw with rfl | ⟨t, rfl⟩
    · exact Below.refl _ _
    · exact Lib.bytesWorld_below w _ t
  | «syntax» =>
    obtain ⟨t, p, h3⟩ := hE.syn
    refine (Tryz.strconv_ParseInt_10_at64_syntax s hs ((Lib.parseIntB_64 s.data.toList).trans hq) _ w h3 (.inr ⟨t, p, rfl⟩)).mono ?_
    rintro e w' ⟨N, rfl, _, _, hb⟩
    exact ⟨_, false, rfl, .inr ⟨rfl, ⟨_, _, rfl⟩, rfl⟩, hb⟩
  | range =>
    obtain ⟨t, p, h3⟩ := hE.rng
    refine (Tryz.strconv_ParseInt_10_at64_range s hs ((Lib.parseIntB_64 s.data.toList).trans hq) _ w h3 (.inr ⟨t, p, rfl⟩)).mono ?_
    rintro e w' ⟨N, rfl, _, _, hb2⟩
    rw [Lib.intSat_64]
    exact ⟨_, false, rfl, .inr ⟨rfl, ⟨_, _, rfl⟩, rfl⟩, hb2⟩
def NumIs (l : List UInt8) (w : World) (e : Ending) (w' : World) : Prop := e = .returned (.tuple #[.int .i64 (numT l), .bool (numP l).isSome]) ∧ Below w.heap.size w w'
set_option maxRecDepth 100000 in
set_option maxHeartbeats 4000000 in
theorem number_any (s : ByteArray) (w : World) (hE : Env w) (hs : s.size ≤ 281474976710656) :
    Calls Tryz.prog 13 #[.string s] w (NumIs s.toList w) := by
  have HP := Lib.hid (pint_any s w hE hs)
  have HE := Lib.hid hE
  have hrg := numT_range s.toList
  have HD : Hid (∀ n, numT s.toList = n → Lib.atoiAll s.toList = .ok n → numP s.toList = if Lib.itoa n = s.toList then some n else none) := Lib.hid fun n _ h => by unfold numP; rw [h]
  unfold NumIs
  obtain ⟨n, hn⟩ : ∃ n, numT s.toList = n := ⟨_, rfl⟩
  rw [hn] at HP hrg ⊢
  have HD2 := Lib.hid (HD.out n hn)
  obtain ⟨o, ho⟩ : ∃ o, numP s.toList = o := ⟨_, rfl⟩
  rw [ho] at HP HD2 ⊢
  clear hE HD hn ho
  obtain ⟨q, hq⟩ : ∃ q, o.isSome = q := ⟨_, rfl⟩
  rw [hq]
  have HQ := Lib.hid hq
  clear hq
  go_enter Tryz.func13, Tryz.ntmps13
  go_wp2_with fail
  refine HP.out.mono ?_
  rintro r w2 ⟨ev, nl, rfl, hc, hb2⟩
  clear HP
  rcases hc with ⟨rfl, rfl, hq⟩ | ⟨rfl, ⟨t, p, rfl⟩, hq⟩
  · have HN := Lib.hid (HD2.out hq)
    clear hq HD2
    go_wp2_with fail
    refine (fmt_any n hrg w2 (HE.out.old hb2).tab).mono ?_
    rintro r w3 ⟨rfl, hb3⟩
    have hbe := hb2.trans (hb3.mono hb2.size)
    clear hb2 hb3
    by_cases hT : Lib.itoa n = s.toList
    · have hT2 : ((bytes (Lib.itoa n)).toList == s.toList) = true := by rw [bytes_list, hT]; exact beq_self_eq_true _
      have HX : Hid (true = q) := Lib.hid (by rw [← HQ.out, HN.out, if_pos hT]; rfl)
      clear hT HN
      go_wp2
      go_ret2
      exact ⟨by rw [← HX.out]; rfl, hbe⟩
    · have hT2 : ((bytes (Lib.itoa n)).toList == s.toList) = false := by rw [bytes_list]; exact beq_eq_false_iff_ne.2 hT
      have HX : Hid (false = q) := Lib.hid (by rw [← HQ.out, HN.out, if_neg hT]; rfl)
      clear hT HN
      go_wp2
      go_ret2
      exact ⟨by rw [← HX.out]; rfl, hbe⟩
  · have HX : Hid (false = q) := Lib.hid (by rw [← HQ.out, hq]; rfl)
    clear hq
    go_wp2
    go_ret2
    exact ⟨by rw [← HX.out]; rfl, hb2⟩
end Go.Proofs.YtpakcicbojbonaaGreatDoor
