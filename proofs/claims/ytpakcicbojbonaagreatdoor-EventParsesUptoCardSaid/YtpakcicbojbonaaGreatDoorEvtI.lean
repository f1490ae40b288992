/- Layer 4: awake: the chapter's example. No conditions. -/
import Derived.Test.YtpakcicbojbonaaGreatDoorEvtH
namespace Go.Proofs.YtpakcicbojbonaaGreatDoor
open Go.RowKit
set_option linter.unusedVariables false
set_option linter.unusedSimpArgs false

/-- A schema, an event that can be read. -/
def SchAt (T : List TSig) (Y : List ByteArray) (v : Value) (w : World) : Prop := ∃ s : SchemaV, v = s.val ∧ s.ok w w.heap.size ∧ s.types.map sig = T ∧ s.syms = Y
theorem SchAt.keep {T : List TSig} {Y : List ByteArray} (v : Value) (w w' : World) (hb : Below w.heap.size w w') (h : SchAt T Y v w) : SchAt T Y v w' := by
  obtain ⟨s, h1, h2, h3⟩ := h
  exact ⟨s, h1, h2.old hb, h3⟩
def EvAt (x : Int × Int × List V) (v : Value) (w : World) : Prop := ∃ e : EventV, v = e.val ∧ e.ok w w.heap.size ∧ e.sig = x
theorem EvAt.keep {x : Int × Int × List V} (v : Value) (w w' : World) (hb : Below w.heap.size w w') (h : EvAt x v w) : EvAt x v w' := by
  obtain ⟨e, h1, h2, h3⟩ := h
  exact ⟨e, h1, h2.old hb, h3⟩
theorem sTo_any (s : SchemaV) (w : World) (h : s.ok w w.heap.size) : Calls Tryz.prog 5 #[s.val] w fun r w' => ∃ v, r = .returned v ∧ SchAt (s.types.map sig) s.syms v w' ∧ Below w.heap.size w w' :=
  (to_any s w h).mono fun r w' ⟨s', h1, h2, h3, h4, h5⟩ => ⟨_, h1, ⟨s', rfl, h2, h3, h4⟩, h5⟩
theorem eTo_any (e : EventV) (w : World) (h : e.ok w w.heap.size) : Calls Tryz.prog 22 #[e.val] w fun r w' => ∃ v, r = .returned v ∧ EvAt e.sig v w' ∧ Below w.heap.size w w' :=
  (evTo_any e w h).mono fun r w' ⟨A, c, h1, h2, h3⟩ => ⟨_, h1, ⟨⟨e.type, e.time, A, c, e.attrs⟩, rfl, ⟨own_rd h2, h.len, h.fits, h.time⟩, rfl⟩, h3⟩

theorem SchemaV.ok.keep2 {s : SchemaV} {w w' : World} (h : s.ok w w.heap.size) (hb : Below w.heap.size w w') : s.ok w' w'.heap.size := h.old hb
def exT : List TSig := [(⟨#[66, 117, 121]⟩, [⟨⟨#[119, 104, 111]⟩, 3⟩, ⟨⟨#[110]⟩, 1⟩])]
def exY : List ByteArray := [⟨#[97, 110, 110]⟩]
def exE : Int × Int × List V := (0, 3, [⟨3, 0⟩, ⟨1, 18446744073709551614⟩])
theorem ex_check : checkSig exT exY = 0 := by
  have h1 : exT.any nameT = false := by
    unfold exT
    rw [List.any_cons, List.any_nil, Bool.or_false]
    unfold nameT fieldsOf
    simp only [List.map_cons, List.map_nil, ByteArray.toList_eq]
    decide
  have h2 : badB (exT.map (·.1.toList)) = false := by
    unfold exT
    simp only [List.map_cons, List.map_nil, ByteArray.toList_eq]
    decide
  have h3 : badB (exY.map (·.toList)) = false := by
    unfold exY
    simp only [List.map_cons, List.map_nil, ByteArray.toList_eq]
    decide
  unfold checkSig
  rw [h1, h2, h3]
  decide
theorem ex_valid : validB exT exY exE = true := by
  unfold validB
  rw [ex_check]
  decide
theorem ex_line : lineF (textL exY) [66, 117, 121] 3 [⟨3, 0⟩, ⟨1, 18446744073709551614⟩] = [66, 117, 121, 32, 51, 32, 39, 97, 110, 110, 32, 45, 50] := by
  have e1 : Lib.itoa 3 = [51] := by unfold Lib.itoa; rw [if_neg (by decide)]; unfold Lib.decDigits; rfl
  have e2 : Lib.itoa (wrap64 ((18446744073709551614 : Nat) : Int)) = [45, 50] := by
    rw [show wrap64 ((18446744073709551614 : Nat) : Int) = -2 from by unfold wrap64; omega]
    unfold Lib.itoa; rw [if_pos (by decide)]; unfold Lib.decDigits; rfl
  have t1 : textL exY ⟨3, 0⟩ = [39, 97, 110, 110] := by
    unfold textL
    rw [if_neg (by decide), if_neg (by decide)]
    show 39 :: (ByteArray.toList ⟨#[97, 110, 110]⟩) = _
    rw [ByteArray.toList_eq]
  have t2 : textL exY ⟨1, 18446744073709551614⟩ = [45, 50] := by
    unfold textL
    rw [if_pos rfl]
    exact e2
  unfold lineF
  rw [e1, List.flatMap_cons, List.flatMap_cons, List.flatMap_nil, t1, t2]
  rfl
set_option maxRecDepth 100000 in
theorem ex_line_any (s : SchemaV) (e : EventV) (w : World) (hs : s.ok w w.heap.size) (he : e.ok w w.heap.size) (ht : Tab w) (hT : s.types.map sig = exT) (hY : s.syms = exY) (hx : e.sig = exE) :
    Calls Tryz.prog 23 #[s.val, e.val] w fun r w' => r = .returned (.string ⟨#[66, 117, 121, 32, 51, 32, 39, 97, 110, 110, 32, 45, 50]⟩) ∧ Below w.heap.size w w' := by
  have hlen : s.types.length = 1 := by have := congrArg List.length hT; simpa [exT] using this
  have h0 : 0 < s.types.length := by omega
  have hnm : s.types[0].name = ⟨#[66, 117, 121]⟩ := by
    have h : (s.types.map sig)[0]? = some (sig s.types[0]) := by rw [List.getElem?_map, List.getElem?_eq_getElem h0]; rfl
    rw [hT] at h
    have h := Option.some.inj h
    exact (congrArg Prod.fst h).symm
  have hnl : s.types[0].name.toList = [66, 117, 121] := by rw [hnm, ByteArray.toList_eq]
  simp only [EventV.sig, exE, Prod.mk.injEq] at hx
  obtain ⟨hx1, hx2, hx3⟩ := hx
  have hl : lineF (textL exY) s.types[0].name.toList e.time e.attrs = [66, 117, 121, 32, 51, 32, 39, 97, 110, 110, 32, 45, 50] := by rw [hnl, hx2, hx3]; exact ex_line
  have hv : validB (s.types.map sig) s.syms e.sig = true := by
    rw [hT, hY, show e.sig = exE from by simp [EventV.sig, exE, hx1, hx2, hx3]]; exact ex_valid
  have h := line_yes (textL exY) s e 0 w hs he ht hv (by rw [hx1]; rfl) h0 (fun x hxm W hW => by
    rw [hx3] at hxm
    simp only [List.mem_cons, List.not_mem_nil, or_false] at hxm
    have hsW := hs.keep2 hW
    rcases hxm with rfl | rfl
    · have hyl : 0 < s.syms.length := by rw [hY]; decide
      have e1 : textL exY ⟨3, 0⟩ = (39 : UInt8) :: (s.syms[0]'hyl).toList := by
        have : s.syms[0]? = some ⟨#[97, 110, 110]⟩ := by rw [hY]; rfl
        have h2 : s.syms[0]'hyl = ⟨#[97, 110, 110]⟩ := by rw [List.getElem?_eq_getElem hyl] at this; exact Option.some.inj this
        rw [h2]; rfl
      rw [e1]
      exact text_sym s 0 hyl W hsW
    · exact text_int s 18446744073709551614 (by decide) W (ht.old hW)) (by rw [hl]; decide)
  rw [hl] at h
  exact h
def awkR (w : World) : List Spec := [.is (.agg #[.slice (some ⟨w.heap.size + 1, 0, none⟩) 1 1, .slice (some ⟨w.heap.size + 1 + 1, 0, none⟩) 1 1]),
  .st (SchAt exT exY) (SchAt.keep),
  .is (.agg #[.int .i64 0, .int .i64 3, .slice (some ⟨w.heap.size + 1 + 1 + 1 + 1, 0, none⟩) 2 2]),
  .st (EvAt exE) (EvAt.keep),
  .is (.bool true),
  .is (.bool true),
  .is (.agg #[.slice (some ⟨w.heap.size + 1, 0, none⟩) 1 1, .slice (some ⟨w.heap.size + 1 + 1, 0, none⟩) 1 1]),
  .st (SchAt exT exY) (SchAt.keep),
  .is (.agg #[.int .i64 0, .int .i64 3, .slice (some ⟨w.heap.size + 1 + 1 + 1 + 1, 0, none⟩) 2 2]),
  .st (EvAt exE) (EvAt.keep),
  .is (.string ⟨#[66, 117, 121, 32, 51, 32, 39, 97, 110, 110, 32, 45, 50]⟩),
  .is (.bool true),
  .is (.bool true),
  .is (.bool true)]
set_option maxRecDepth 100000 in
set_option maxHeartbeats 1000000 in
theorem awake_any (w : World) (ht : Tab w) : Calls Tryz.prog 7 #[] w fun r w' => r = .returned (.bool true) ∧ Below w.heap.size w w' := by
  have HT := Lib.hid ht
  clear ht
  go_enter Tryz.func7, Tryz.ntmps7
  go_wp2_with fail
  have hbW : Below w.heap.size w ((((((w.alloc (.cells #[.string ⟨#[119, 104, 111]⟩, .int .i64 3, .string ⟨#[110]⟩, .int .i64 1] 64)).alloc (.cells #[.string ⟨#[66, 117, 121]⟩, .slice (some ⟨w.heap.size, 0, none⟩) 2 2] 63)).alloc (.cells #[.string ⟨#[97, 110, 110]⟩] 9)).alloc (.cells #[.slice (some ⟨w.heap.size + 1, 0, none⟩) 1 1, .slice (some ⟨w.heap.size + 1 + 1, 0, none⟩) 1 1] 25)).alloc (.cells #[.int .i64 3, .int .u64 0, .int .i64 1, .int .u64 18446744073709551614] 68)).alloc (.cells #[.int .i64 0, .int .i64 3, .slice (some ⟨w.heap.size + 1 + 1 + 1 + 1, 0, none⟩) 2 2] 37)) := (((((((Below.refl w.heap.size w).alloc (Nat.le_refl _) _).alloc (by simp) _).alloc (by simp; omega) _).alloc (by simp; omega) _).alloc (by simp; omega) _).alloc (by simp; omega) _)
  have k0 := (((((Bk.newAt (w := w) (g := w.heap.size) (by simp) 64 #[.string ⟨#[119, 104, 111]⟩, .int .i64 3, .string ⟨#[110]⟩, .int .i64 1]).alloc (.cells #[.string ⟨#[66, 117, 121]⟩, .slice (some ⟨w.heap.size, 0, none⟩) 2 2] 63)).alloc (.cells #[.string ⟨#[97, 110, 110]⟩] 9)).alloc (.cells #[.slice (some ⟨w.heap.size + 1, 0, none⟩) 1 1, .slice (some ⟨w.heap.size + 1 + 1, 0, none⟩) 1 1] 25)).alloc (.cells #[.int .i64 3, .int .u64 0, .int .i64 1, .int .u64 18446744073709551614] 68)).alloc (.cells #[.int .i64 0, .int .i64 3, .slice (some ⟨w.heap.size + 1 + 1 + 1 + 1, 0, none⟩) 2 2] 37)
  have k1 := ((((Bk.newAt (w := (w.alloc (.cells #[.string ⟨#[119, 104, 111]⟩, .int .i64 3, .string ⟨#[110]⟩, .int .i64 1] 64))) (g := w.heap.size + 1) (by simp) 63 #[.string ⟨#[66, 117, 121]⟩, .slice (some ⟨w.heap.size, 0, none⟩) 2 2]).alloc (.cells #[.string ⟨#[97, 110, 110]⟩] 9)).alloc (.cells #[.slice (some ⟨w.heap.size + 1, 0, none⟩) 1 1, .slice (some ⟨w.heap.size + 1 + 1, 0, none⟩) 1 1] 25)).alloc (.cells #[.int .i64 3, .int .u64 0, .int .i64 1, .int .u64 18446744073709551614] 68)).alloc (.cells #[.int .i64 0, .int .i64 3, .slice (some ⟨w.heap.size + 1 + 1 + 1 + 1, 0, none⟩) 2 2] 37)
  have k2 := (((Bk.newAt (w := ((w.alloc (.cells #[.string ⟨#[119, 104, 111]⟩, .int .i64 3, .string ⟨#[110]⟩, .int .i64 1] 64)).alloc (.cells #[.string ⟨#[66, 117, 121]⟩, .slice (some ⟨w.heap.size, 0, none⟩) 2 2] 63))) (g := w.heap.size + 1 + 1) (by simp) 9 #[.string ⟨#[97, 110, 110]⟩]).alloc (.cells #[.slice (some ⟨w.heap.size + 1, 0, none⟩) 1 1, .slice (some ⟨w.heap.size + 1 + 1, 0, none⟩) 1 1] 25)).alloc (.cells #[.int .i64 3, .int .u64 0, .int .i64 1, .int .u64 18446744073709551614] 68)).alloc (.cells #[.int .i64 0, .int .i64 3, .slice (some ⟨w.heap.size + 1 + 1 + 1 + 1, 0, none⟩) 2 2] 37)
  have k3 := ((Bk.newAt (w := (((w.alloc (.cells #[.string ⟨#[119, 104, 111]⟩, .int .i64 3, .string ⟨#[110]⟩, .int .i64 1] 64)).alloc (.cells #[.string ⟨#[66, 117, 121]⟩, .slice (some ⟨w.heap.size, 0, none⟩) 2 2] 63)).alloc (.cells #[.string ⟨#[97, 110, 110]⟩] 9))) (g := w.heap.size + 1 + 1 + 1) (by simp) 25 #[.slice (some ⟨w.heap.size + 1, 0, none⟩) 1 1, .slice (some ⟨w.heap.size + 1 + 1, 0, none⟩) 1 1]).alloc (.cells #[.int .i64 3, .int .u64 0, .int .i64 1, .int .u64 18446744073709551614] 68)).alloc (.cells #[.int .i64 0, .int .i64 3, .slice (some ⟨w.heap.size + 1 + 1 + 1 + 1, 0, none⟩) 2 2] 37)
  have k4 := (Bk.newAt (w := ((((w.alloc (.cells #[.string ⟨#[119, 104, 111]⟩, .int .i64 3, .string ⟨#[110]⟩, .int .i64 1] 64)).alloc (.cells #[.string ⟨#[66, 117, 121]⟩, .slice (some ⟨w.heap.size, 0, none⟩) 2 2] 63)).alloc (.cells #[.string ⟨#[97, 110, 110]⟩] 9)).alloc (.cells #[.slice (some ⟨w.heap.size + 1, 0, none⟩) 1 1, .slice (some ⟨w.heap.size + 1 + 1, 0, none⟩) 1 1] 25))) (g := w.heap.size + 1 + 1 + 1 + 1) (by simp) 68 #[.int .i64 3, .int .u64 0, .int .i64 1, .int .u64 18446744073709551614]).alloc (.cells #[.int .i64 0, .int .i64 3, .slice (some ⟨w.heap.size + 1 + 1 + 1 + 1, 0, none⟩) 2 2] 37)
  have k5 := Bk.newAt (w := (((((w.alloc (.cells #[.string ⟨#[119, 104, 111]⟩, .int .i64 3, .string ⟨#[110]⟩, .int .i64 1] 64)).alloc (.cells #[.string ⟨#[66, 117, 121]⟩, .slice (some ⟨w.heap.size, 0, none⟩) 2 2] 63)).alloc (.cells #[.string ⟨#[97, 110, 110]⟩] 9)).alloc (.cells #[.slice (some ⟨w.heap.size + 1, 0, none⟩) 1 1, .slice (some ⟨w.heap.size + 1 + 1, 0, none⟩) 1 1] 25)).alloc (.cells #[.int .i64 3, .int .u64 0, .int .i64 1, .int .u64 18446744073709551614] 68))) (g := w.heap.size + 1 + 1 + 1 + 1 + 1) (by simp) 37 #[.int .i64 0, .int .i64 3, .slice (some ⟨w.heap.size + 1 + 1 + 1 + 1, 0, none⟩) 2 2]
  generalize ((((((w.alloc (.cells #[.string ⟨#[119, 104, 111]⟩, .int .i64 3, .string ⟨#[110]⟩, .int .i64 1] 64)).alloc (.cells #[.string ⟨#[66, 117, 121]⟩, .slice (some ⟨w.heap.size, 0, none⟩) 2 2] 63)).alloc (.cells #[.string ⟨#[97, 110, 110]⟩] 9)).alloc (.cells #[.slice (some ⟨w.heap.size + 1, 0, none⟩) 1 1, .slice (some ⟨w.heap.size + 1 + 1, 0, none⟩) 1 1] 25)).alloc (.cells #[.int .i64 3, .int .u64 0, .int .i64 1, .int .u64 18446744073709551614] 68)).alloc (.cells #[.int .i64 0, .int .i64 3, .slice (some ⟨w.heap.size + 1 + 1 + 1 + 1, 0, none⟩) 2 2] 37)) = W at *
  have hsok : (⟨some ⟨w.heap.size + 1, 0, none⟩, 1, [⟨⟨#[66, 117, 121]⟩, some ⟨w.heap.size, 0, none⟩, 2, [⟨⟨#[119, 104, 111]⟩, 3⟩, ⟨⟨#[110]⟩, 1⟩]⟩], some ⟨w.heap.size + 1 + 1, 0, none⟩, 1, [⟨#[97, 110, 110]⟩]⟩ : SchemaV).ok W W.heap.size :=
    ⟨bk_rd k1, by show 1 ≤ _; omega, fun t ht => by obtain rfl := List.mem_singleton.1 ht; exact ⟨bk_rd k0, by show 2 ≤ _; omega, by show 3 ≤ _; omega, fun f hf => by simp only [List.mem_cons, List.not_mem_nil, or_false] at hf; rcases hf with rfl | rfl <;> decide⟩, bk_rd k2, by show 1 ≤ _; omega, fun x hx => by obtain rfl := List.mem_singleton.1 hx; decide⟩
  have heok : (⟨0, 3, some ⟨w.heap.size + 1 + 1 + 1 + 1, 0, none⟩, 2, [⟨3, 0⟩, ⟨1, 18446744073709551614⟩]⟩ : EventV).ok W W.heap.size :=
    ⟨bk_rd k4, by show 2 ≤ _; omega, fun x hx => by simp only [List.mem_cons, List.not_mem_nil, or_false] at hx; rcases hx with rfl | rfl <;> (show _ < _; decide), by show _ ≤ (3 : Int) ∧ (3 : Int) ≤ _; omega⟩
  have hts : ∀ wr, Below W.heap.size W wr → Calls Tryz.prog 5 #[.agg #[.slice (some ⟨w.heap.size + 1, 0, none⟩) 1 1, .slice (some ⟨w.heap.size + 1 + 1, 0, none⟩) 1 1]] wr fun r w' => ∃ v, r = .returned v ∧ SchAt exT exY v w' ∧ Below wr.heap.size wr w' := fun wr hB => sTo_any _ wr (hsok.old hB)
  have hte : ∀ wr, Below W.heap.size W wr → Calls Tryz.prog 22 #[.agg #[.int .i64 0, .int .i64 3, .slice (some ⟨w.heap.size + 1 + 1 + 1 + 1, 0, none⟩) 2 2]] wr fun r w' => ∃ v, r = .returned v ∧ EvAt exE v w' ∧ Below wr.heap.size wr w' := fun wr hB => eTo_any _ wr (heok.old hB)
  have HTS := Lib.hid hts
  have HTE := Lib.hid hte
  have c30 := k3.cell 0
  have c31 := k3.cell 1
  have c50 := k5.cell 0
  have c51 := k5.cell 1
  have c52 := k5.cell 2
  clear hts hte hsok heok k0 k1 k2 k3 k4 k5
  refine wp_region_b (by kernel_rfl) (fun qk => (awkR w).getD qk .any) (by kernel_rfl) ?_ ?_
  · refine BOk.cons rfl [] [1] rfl rfl (by kernel_rfl) (by kernel_rfl) (fun qK qa wr hB qO qF hK => ?_) ?_
    · have e1 : qa.tmps[1]? = some (.pointer (some ⟨w.heap.size + 1 + 1 + 1, 0, none⟩)) := qO.1.trans rfl
      clear qO qF
      have hc30 := (bcell hB _ _ (World.block_lt_of_cell? _ _ c30)).trans c30
      have hc31 := (bcell hB _ _ (World.block_lt_of_cell? _ _ c31)).trans c31
      go_simp
      exact hK _ _ (Below.refl _ _) rfl
    refine BOk.cons rfl [0] [] rfl rfl (by kernel_rfl) (by kernel_rfl) (fun qK qa wr hB qO qF hK => ?_) ?_
    · have e14 : qa.tmps[14]? = some (.agg #[.slice (some ⟨w.heap.size + 1, 0, none⟩) 1 1, .slice (some ⟨w.heap.size + 1 + 1, 0, none⟩) 1 1]) := fis qF.1 rfl rfl
      clear qO qF
      go_simp
      go_at_call 5
      refine (HTS.out _ hB).mono ?_
      rintro e9 w9 ⟨v9, rfl, hat, hb9⟩
      exact hK _ _ hb9 hat
    refine BOk.cons rfl [] [2] rfl rfl (by kernel_rfl) (by kernel_rfl) (fun qK qa wr hB qO qF hK => ?_) ?_
    · have e2 : qa.tmps[2]? = some (.pointer (some ⟨w.heap.size + 1 + 1 + 1 + 1 + 1, 0, none⟩)) := qO.1.trans rfl
      clear qO qF
      have hc50 := (bcell hB _ _ (World.block_lt_of_cell? _ _ c50)).trans c50
      have hc51 := (bcell hB _ _ (World.block_lt_of_cell? _ _ c51)).trans c51
      have hc52 := (bcell hB _ _ (World.block_lt_of_cell? _ _ c52)).trans c52
      go_simp
      exact hK _ _ (Below.refl _ _) rfl
    refine BOk.cons rfl [2] [] rfl rfl (by kernel_rfl) (by kernel_rfl) (fun qK qa wr hB qO qF hK => ?_) ?_
    · have e16 : qa.tmps[16]? = some (.agg #[.int .i64 0, .int .i64 3, .slice (some ⟨w.heap.size + 1 + 1 + 1 + 1, 0, none⟩) 2 2]) := fis qF.1 rfl rfl
      clear qO qF
      go_simp
      go_at_call 22
      refine (HTE.out _ hB).mono ?_
      rintro e9 w9 ⟨v9, rfl, hat, hb9⟩
      exact hK _ _ hb9 hat
    refine BOk.cons rfl [1, 3] [] rfl rfl (by kernel_rfl) (by kernel_rfl) (fun qK qa wr hB qO qF hK => ?_) ?_
    · obtain ⟨u15, e15, r1⟩ := qF.1
      obtain ⟨s15, h15, hs15, hT15, hY15⟩ := (show SchAt exT exY u15 wr from r1)
      subst h15
      have e15 : qa.tmps[15]? = some s15.val := e15
      obtain ⟨u17, e17, r3⟩ := qF.2.1
      obtain ⟨q17, h17, he17, hx17⟩ := (show EvAt exE u17 wr from r3)
      subst h17
      have e17 : qa.tmps[17]? = some q17.val := e17
      clear qO qF
      go_simp
      go_at_call 15
      refine (pvalid_any s15 q17 wr hs15 he17).mono ?_
      rw [hT15, hY15, hx17, ex_valid]
      rintro e9 w9 ⟨rfl, hb9⟩
      exact hK _ _ hb9 rfl
    refine BOk.cons rfl [4] [] rfl rfl (by kernel_rfl) (by kernel_rfl) (fun qK qa wr hB qO qF hK => ?_) ?_
    · have e18 : qa.tmps[18]? = some (.bool true) := fis qF.1 rfl rfl
      clear qO qF
      go_simp
      exact hK _ _ (Below.refl _ _) (by first | rfl | (show (_ : Value) = _; simp_all; done))
    refine BOk.yes rfl [] [1] rfl 5 true rfl rfl rfl (by kernel_rfl) (by kernel_rfl) (by kernel_rfl) (fun qK qa wr hB qO qF hK => ?_) ?_
    · have e1 : qa.tmps[1]? = some (.pointer (some ⟨w.heap.size + 1 + 1 + 1, 0, none⟩)) := qO.1.trans rfl
      clear qO qF
      have hc30 := (bcell hB _ _ (World.block_lt_of_cell? _ _ c30)).trans c30
      have hc31 := (bcell hB _ _ (World.block_lt_of_cell? _ _ c31)).trans c31
      go_simp
      exact hK _ _ (Below.refl _ _) rfl
    refine BOk.yes rfl [6] [] rfl 5 true rfl rfl rfl (by kernel_rfl) (by kernel_rfl) (by kernel_rfl) (fun qK qa wr hB qO qF hK => ?_) ?_
    · have e20 : qa.tmps[20]? = some (.agg #[.slice (some ⟨w.heap.size + 1, 0, none⟩) 1 1, .slice (some ⟨w.heap.size + 1 + 1, 0, none⟩) 1 1]) := fis qF.1 rfl rfl
      clear qO qF
      go_simp
      go_at_call 5
      refine (HTS.out _ hB).mono ?_
      rintro e9 w9 ⟨v9, rfl, hat, hb9⟩
      exact hK _ _ hb9 hat
    refine BOk.yes rfl [] [2] rfl 5 true rfl rfl rfl (by kernel_rfl) (by kernel_rfl) (by kernel_rfl) (fun qK qa wr hB qO qF hK => ?_) ?_
    · have e2 : qa.tmps[2]? = some (.pointer (some ⟨w.heap.size + 1 + 1 + 1 + 1 + 1, 0, none⟩)) := qO.1.trans rfl
      clear qO qF
      have hc50 := (bcell hB _ _ (World.block_lt_of_cell? _ _ c50)).trans c50
      have hc51 := (bcell hB _ _ (World.block_lt_of_cell? _ _ c51)).trans c51
      have hc52 := (bcell hB _ _ (World.block_lt_of_cell? _ _ c52)).trans c52
      go_simp
      exact hK _ _ (Below.refl _ _) rfl
    refine BOk.yes rfl [8] [] rfl 5 true rfl rfl rfl (by kernel_rfl) (by kernel_rfl) (by kernel_rfl) (fun qK qa wr hB qO qF hK => ?_) ?_
    · have e22 : qa.tmps[22]? = some (.agg #[.int .i64 0, .int .i64 3, .slice (some ⟨w.heap.size + 1 + 1 + 1 + 1, 0, none⟩) 2 2]) := fis qF.1 rfl rfl
      clear qO qF
      go_simp
      go_at_call 22
      refine (HTE.out _ hB).mono ?_
      rintro e9 w9 ⟨v9, rfl, hat, hb9⟩
      exact hK _ _ hb9 hat
    refine BOk.yes rfl [7, 9] [] rfl 5 true rfl rfl rfl (by kernel_rfl) (by kernel_rfl) (by kernel_rfl) (fun qK qa wr hB qO qF hK => ?_) ?_
    · obtain ⟨u21, e21, r7⟩ := qF.1
      obtain ⟨s21, h21, hs21, hT21, hY21⟩ := (show SchAt exT exY u21 wr from r7)
      subst h21
      have e21 : qa.tmps[21]? = some s21.val := e21
      obtain ⟨u23, e23, r9⟩ := qF.2.1
      obtain ⟨q23, h23, he23, hx23⟩ := (show EvAt exE u23 wr from r9)
      subst h23
      have e23 : qa.tmps[23]? = some q23.val := e23
      clear qO qF
      go_simp
      go_at_call 23
      refine (ex_line_any s21 q23 wr hs21 he23 (HT.out.old (hbW.trans (hB.mono hbW.size))) hT21 hY21 hx23).mono ?_
      rintro e9 w9 ⟨rfl, hb9⟩
      exact hK _ _ hb9 rfl
    refine BOk.yes rfl [10] [] rfl 5 true rfl rfl rfl (by kernel_rfl) (by kernel_rfl) (by kernel_rfl) (fun qK qa wr hB qO qF hK => ?_) ?_
    · have e24 : qa.tmps[24]? = some (.string ⟨#[66, 117, 121, 32, 51, 32, 39, 97, 110, 110, 32, 45, 50]⟩) := fis qF.1 rfl rfl
      clear qO qF
      go_simp
      exact hK _ _ (Below.refl _ _) (by show (_ : Value) = _; first | rfl | (simp; done) | decide)
    refine BOk.cons rfl [5, 11] [] rfl rfl (by kernel_rfl) (by kernel_rfl) (fun qK qa wr hB qO qF hK => ?_) ?_
    · have e19 : qa.tmps[19]? = some (.bool true) := fis qF.1 rfl rfl
      have e25 : qa.tmps[25]? = some (.bool true) := fis qF.2.1 rfl rfl
      clear qO qF
      go_simp
      refine hK _ _ (Below.refl _ _) ?_
      show (_ : Value) = _
      first | rfl | (simp; done) | (simp; omega)
    refine BOk.cons rfl [12] [] rfl rfl (by kernel_rfl) (by kernel_rfl) (fun qK qa wr hB qO qF hK => ?_) ?_
    · have e26 : qa.tmps[26]? = some (.bool true) := fis qF.1 rfl rfl
      clear qO qF
      go_simp
      exact hK _ _ (Below.refl _ _) (by first | rfl | (show (_ : Value) = _; simp_all; done))
    exact BOk.nil
  intro vals wr hl hB hR
  match vals, hl with
  | [z14, z15, z16, z17, z18, z19, z20, z21, z22, z23, z24, z25, z26, z0], _ =>
  have r13 : z0 = .bool true := hR 13 _ rfl
  subst r13
  clear hR
  simp only [List.cons_append, List.nil_append, putAll, Act.put, List.setIfInBounds_toArray, List.set_cons_zero, List.set_cons_succ]
  go_wp2
  go_ret
  exact ⟨rfl, hbW.trans (hB.mono hbW.size)⟩
end Go.Proofs.YtpakcicbojbonaaGreatDoor
