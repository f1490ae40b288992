/- Layer 4: the text of a value, the line of an event, by the program. No conditions. -/
import Derived.Test.YtpakcicbojbonaaGreatDoorEvtG
import Derived.Test.YtpakcicbojbonaaGreatDoorBld
import Derived.Test.YtpakcicbojbonaaGreatDoorDec
import Derived.Test.YtpakcicbojbonaaGreatDoorShA
import Derived.Lib.AppendIntMem
namespace Go.Proofs.YtpakcicbojbonaaGreatDoor
open Go.RowKit
set_option linter.unusedVariables false
set_option linter.unusedSimpArgs false

/-- The library's table of powers of ten is there. -/
def Tab (w : World) : Prop := Lib.TabIs Tryz.prog w "internal/strconv.uint64pow10" .u64 Lib.pow10Tab
theorem Tab.old {w w' : World} (h : Tab w) (hb : Below w.heap.size w w') : Tab w' := Lib.tabBelow_of_tabIs h w' hb
theorem fmt_any (n : Int) (h : -9223372036854775808 ≤ n ∧ n ≤ 9223372036854775807) (w : World) (ht : Tab w) :
    Calls Tryz.prog 33 #[.int .i64 n, .int .i64 10] w fun e w' => e = .returned (.string (bytes (Lib.itoa n))) ∧ Below w.heap.size w w' :=
  (Tryz.strconv_FormatInt_10 n h.1 h.2 w ht).mono fun e w' ⟨h1, k, os, h2⟩ => ⟨h1, by rw [h2]; exact Lib.below_grow _ w (Nat.le_refl _) k os⟩

/-- The text of a value of kinds 1 to 3. -/
def textL (Y : List ByteArray) (v : V) : List UInt8 :=
  if v.k = 1 then Lib.itoa (wrap64 v.b) else if v.k = 2 then (if v.b = 1 then [116, 114, 117, 101] else [102, 97, 108, 115, 101]) else 39 :: (Y.getD v.b ⟨#[]⟩).toList
set_option maxRecDepth 100000 in
set_option maxHeartbeats 2000000 in
theorem text_int (s : SchemaV) (b : Nat) (hb : b < 18446744073709551616) (w : World) (ht : Tab w) :
    Calls Tryz.prog 46 #[s.val, .agg #[.int .i64 1, .int .u64 b]] w fun e w' => e = .returned (.string (bytes (Lib.itoa (wrap64 b)))) ∧ Below w.heap.size w w' := by
  have hW : Below w.heap.size w ((w.alloc (.cells #[.slice s.ta s.types.length s.tc, .slice s.sa s.syms.length s.sc] 33)).alloc (.cells #[.int .i64 1, .int .u64 b] 57)) := ((Below.refl _ _).alloc (Nat.le_refl _) _).alloc (by simp) _
  have HF := Lib.hid (fmt_any (wrap64 b) (by unfold wrap64; omega) _ (ht.old hW))
  have HW := Lib.hid hW
  clear hW
  unfold SchemaV.val
  go_enter Tryz.func46, Tryz.ntmps46
  go_wp2_with fail
  refine HF.out.mono ?_
  rintro e w2 ⟨rfl, hb2⟩
  have hb3 := HW.out.trans (hb2.mono HW.out.size)
  clear hb2 HF
  go_wp2
  go_ret
  exact ⟨rfl, hb3⟩
set_option maxRecDepth 100000 in
set_option maxHeartbeats 2000000 in
theorem text_bool (s : SchemaV) (b : Nat) (w : World) :
    Calls Tryz.prog 46 #[s.val, .agg #[.int .i64 2, .int .u64 b]] w fun e w' => e = .returned (.string (bytes (if b = 1 then [116, 114, 117, 101] else [102, 97, 108, 115, 101]))) ∧ Below w.heap.size w w' := by
  unfold SchemaV.val
  by_cases h1 : b = 1
  · subst h1
    rw [if_pos rfl]
    go_enter Tryz.func46, Tryz.ntmps46
    go_wp2_with fail
    refine (Tryz.strconv_FormatBool true _).mono ?_
    rintro e w2 ⟨rfl, rfl⟩
    go_wp2
    go_ret
    exact ⟨rfl, ((Below.refl _ _).alloc (Nat.le_refl _) _).alloc (by simp) _⟩
  · rw [if_neg h1]
    have hq : ((b : Int) == 1) = false := by rw [beq_eq_false_iff_ne]; omega
    clear h1
    go_enter Tryz.func46, Tryz.ntmps46
    go_wp2_with fail
    refine (Tryz.strconv_FormatBool false _).mono ?_
    rintro e w2 ⟨rfl, rfl⟩
    go_wp2
    go_ret
    exact ⟨rfl, ((Below.refl _ _).alloc (Nat.le_refl _) _).alloc (by simp) _⟩
set_option maxRecDepth 100000 in
set_option maxHeartbeats 2000000 in
theorem text_sym (s : SchemaV) (b : Nat) (hb : b < s.syms.length) (w : World) (hs : s.ok w w.heap.size) :
    Calls Tryz.prog 46 #[s.val, .agg #[.int .i64 3, .int .u64 b]] w fun e w' => e = .returned (.string (bytes (39 :: s.syms[b].toList))) ∧ Below w.heap.size w w' := by
  have hbI : (b : Int) < (s.syms.length : Int) := by omega
  have hsl := hs.slen
  have hss := hs.ssize s.syms[b] (List.getElem_mem _)
  obtain ⟨yb, yo, hA, hyb, hc⟩ := hs.syms.elem1 hb
  have hx : bytes (39 :: s.syms[b].toList) = ⟨#[39]⟩ ++ s.syms[b] := by rw [cat_bytes, ByteArray.toList_eq (bs := ⟨#[39]⟩)]; rfl
  rw [hx]
  unfold SchemaV.val
  rw [hA]
  clear hx hA hs
  generalize s.syms[b] = y at *
  go_enter Tryz.func46, Tryz.ntmps46
  go_wp2
  go_ret
  exact ⟨rfl, ((Below.refl _ _).alloc (Nat.le_refl _) _).alloc (by simp) _⟩
/-- The line of an event, by the texts of its values. -/
def lineF (tx : V → List UInt8) (nm : List UInt8) (tm : Int) (a : List V) : List UInt8 := nm ++ 32 :: (Lib.itoa tm ++ a.flatMap fun v => 32 :: tx v)
theorem cells_bytes (l : List UInt8) : Lib.strCells (bytes l) = Lib.byteCells l := by simp [Lib.strCells, bytes, Lib.byteCells]
def linR4 (s : SchemaV) (tb tO tn : Nat) (nm : ByteArray) (etm : Int) (w : World) : List Spec := [.is (.pointer (some ⟨w.heap.size, 0, none⟩)),
  .is (.slice (some ⟨tb, tO, none⟩) s.types.length s.tc),
  .is (.pointer (some ⟨w.heap.size + 1, 0, none⟩)),
  .is (.int .i64 (tn : Nat)),
  .is (.pointer (some ⟨tb, tO + tn * 2, none⟩)),
  .is (.pointer (some ⟨tb, tO + tn * 2, none⟩)),
  .is (.string nm),
  .is (.string (nm ++ ⟨#[32]⟩)),
  .is (.pointer (some ⟨w.heap.size + 1, 1, none⟩)),
  .is (.int .i64 etm),
  .is (.string (bytes (Lib.itoa etm))),
  .is (.string (nm ++ ⟨#[32]⟩ ++ bytes (Lib.itoa etm)))]
set_option maxRecDepth 100000 in
set_option maxHeartbeats 4000000 in
/-- The line of a valid event whose values have texts. -/
theorem line_yes (tx : V → List UInt8) (s : SchemaV) (e : EventV) (tn : Nat) (w : World) (hs : s.ok w w.heap.size) (he : e.ok w w.heap.size) (ht : Tab w) (hv : validB (s.types.map sig) s.syms e.sig = true) (hty : e.type = tn) (htn : tn < s.types.length)
    (htx : ∀ x ∈ e.attrs, ∀ W, Below w.heap.size w W → Calls Tryz.prog 46 #[s.val, x.v] W fun r W' => r = .returned (.string (bytes (tx x))) ∧ Below W.heap.size W W')
    (hlen : (lineF tx s.types[tn].name.toList e.time e.attrs).length ≤ 140737488355328) :
    Calls Tryz.prog 23 #[s.val, e.val] w fun r w' => r = .returned (.string (bytes (lineF tx s.types[tn].name.toList e.time e.attrs))) ∧ Below w.heap.size w w' := by
  have hW : Below w.heap.size w ((w.alloc (.cells #[.slice s.ta s.types.length s.tc, .slice s.sa s.syms.length s.sc] 33)).alloc (.cells #[.int .i64 e.type, .int .i64 e.time, .slice e.A e.attrs.length e.c] 28)) := ((Below.refl _ _).alloc (Nat.le_refl _) _).alloc (by simp) _
  have x0 := (Bk.new w 33 #[.slice s.ta s.types.length s.tc, .slice s.sa s.syms.length s.sc]).alloc (.cells #[.int .i64 e.type, .int .i64 e.time, .slice e.A e.attrs.length e.c] 28)
  have x1 := Bk.newAt (w := w.alloc (.cells #[.slice s.ta s.types.length s.tc, .slice s.sa s.syms.length s.sc] 33)) (g := w.heap.size + 1) (by simp) 28 #[.int .i64 e.type, .int .i64 e.time, .slice e.A e.attrs.length e.c]
  have HV := Lib.hid (pvalid_any s e _ (hs.old hW) (he.old hW))
  rw [hv] at HV
  have HTX := Lib.hid htx
  have HS := Lib.hid hs
  have HE := Lib.hid he
  have HT := Lib.hid ht
  have HL := Lib.hid hlen
  clear htx hs he ht hlen hv
  obtain ⟨ety, etm, eA, ec, eat⟩ := e
  obtain rfl : ety = tn := hty
  obtain ⟨T, hT⟩ : ∃ T, s.types[tn] = T := ⟨_, rfl⟩
  rw [hT]
  rw [hT] at HL
  obtain ⟨nm, fa, fc, flds⟩ := T
  have HTT := Lib.hid hT
  clear hT
  show Calls _ _ _ _ fun r w' => r = .returned (.string (bytes (lineF tx nm.toList etm eat))) ∧ _
  replace HL : Hid ((lineF tx nm.toList etm eat).length ≤ 140737488355328) := HL
  unfold SchemaV.val EventV.val
  unfold SchemaV.val EventV.val at HV
  have s0 := x0.cell 0
  have s1 := x0.cell 1
  have e0 := x1.cell 0
  have e1 := x1.cell 1
  have e2 := x1.cell 2
  go_enter Tryz.func23, Tryz.ntmps23
  go_wp2_with fail
  refine HV.out.mono ?_
  rintro r w2 ⟨rfl, hb2⟩
  have hb3 := hW.trans (hb2.mono hW.size)
  have y0 := x0.old hb2
  have y1 := x1.old hb2
  clear x0 x1 HV hb2 hW s0 s1 e0 e1 e2
  obtain ⟨tb, tO, hta, htb, htc⟩ := (HS.out.rd.below hb3).elem (n := 2) (fun _ => rfl) (by omega) htn
  rw [HTT.out] at htc
  have tc0 : w2.cell? ⟨tb, tO + tn * 2, none⟩ = some (.string nm) := htc 0 _ rfl
  have htl := HS.out.len
  rw [hta]
  have HTA := Lib.hid hta
  clear hta htc
  go_wp2_with fail
  have hbW : Below w2.heap.size w2 (w2.alloc (.cells #[.pointer none, .slice none 0 0] 99)) := (Below.refl _ _).alloc (Nat.le_refl _) _
  have hbl := Lib.fresh_isBuilder 99 5 w2
  have hzz : (w2.alloc (.cells #[.pointer none, .slice none 0 0] 99)).heap.size = w2.heap.size + 1 := by simp
  generalize w2.alloc (.cells #[.pointer none, .slice none 0 0] 99) = W at *
  have s0 := (y0.old hbW).cell 0
  have e0 := (y1.old hbW).cell 0
  have e1 := (y1.old hbW).cell 1
  have tcW := (bcell hbW _ _ (World.block_lt_of_cell? _ _ tc0)).trans tc0
  have htW : Tab W := (HT.out.old hb3).old hbW
  have htI : (tn : Int) < (s.types.length : Int) := by omega
  have htm : -9223372036854775808 ≤ etm ∧ etm ≤ 9223372036854775807 := HE.out.time
  rw [HTA.out] at s0
  have hcat : nm.size + 1 + (bytes (Lib.itoa etm)).size ≤ 140737488355328 := by
    have h2 := HL.out
    unfold lineF at h2
    simp only [List.length_append, List.length_cons] at h2
    have h3 : nm.toList.length = nm.size := by rw [ByteArray.toList_eq]; simp
    rw [bytes_size]; omega
  have hcat1 : ¬ 9223372036854775807 < nm.size + 1 := by omega
  have hcat2 : ¬ 9223372036854775807 < nm.size + 1 + (bytes (Lib.itoa etm)).size := by omega
  refine wp_region_t 12 (fun k => false) (by kernel_rfl) (fun qk => (linR4 s tb tO tn nm etm w).getD qk .any) (by kernel_rfl) ?_ ?_
  · refine BOk.cons rfl [] [2] rfl rfl (by kernel_rfl) (by kernel_rfl) (fun qK qa wr hB qO qF hK => ?_) ?_
    · have e2 : qa.tmps[2]? = some (.pointer (some ⟨w.heap.size, 0, none⟩)) := qO.1.trans rfl
      clear qO qF
      go_simp
      exact hK _ _ (Below.refl _ _) rfl
    refine BOk.cons rfl [0] [] rfl rfl (by kernel_rfl) (by kernel_rfl) (fun qK qa wr hB qO qF hK => ?_) ?_
    · have e12 : qa.tmps[12]? = some (.pointer (some ⟨w.heap.size, 0, none⟩)) := fis qF.1 rfl rfl
      clear qO qF
      have hs0 := (bcell hB _ _ (World.block_lt_of_cell? _ _ s0)).trans s0
      go_simp
      exact hK _ _ (Below.refl _ _) rfl
    refine BOk.cons rfl [] [3] rfl rfl (by kernel_rfl) (by kernel_rfl) (fun qK qa wr hB qO qF hK => ?_) ?_
    · have e3 : qa.tmps[3]? = some (.pointer (some ⟨w.heap.size + 1, 0, none⟩)) := qO.1.trans rfl
      clear qO qF
      go_simp
      exact hK _ _ (Below.refl _ _) rfl
    refine BOk.cons rfl [2] [] rfl rfl (by kernel_rfl) (by kernel_rfl) (fun qK qa wr hB qO qF hK => ?_) ?_
    · have e14 : qa.tmps[14]? = some (.pointer (some ⟨w.heap.size + 1, 0, none⟩)) := fis qF.1 rfl rfl
      clear qO qF
      have he0 := (bcell hB _ _ (World.block_lt_of_cell? _ _ e0)).trans e0
      go_simp
      exact hK _ _ (Below.refl _ _) rfl
    refine BOk.cons rfl [1, 3] [] rfl rfl (by kernel_rfl) (by kernel_rfl) (fun qK qa wr hB qO qF hK => ?_) ?_
    · have e13 : qa.tmps[13]? = some (.slice (some ⟨tb, tO, none⟩) s.types.length s.tc) := fis qF.1 rfl rfl
      have e15 : qa.tmps[15]? = some (.int .i64 (tn : Nat)) := fis qF.2.1 rfl rfl
      clear qO qF
      go_simp
      exact hK _ _ (Below.refl _ _) rfl
    refine BOk.cons rfl [4] [] rfl rfl (by kernel_rfl) (by kernel_rfl) (fun qK qa wr hB qO qF hK => ?_) ?_
    · have e16 : qa.tmps[16]? = some (.pointer (some ⟨tb, tO + tn * 2, none⟩)) := fis qF.1 rfl rfl
      clear qO qF
      go_simp
      exact hK _ _ (Below.refl _ _) rfl
    refine BOk.cons rfl [5] [] rfl rfl (by kernel_rfl) (by kernel_rfl) (fun qK qa wr hB qO qF hK => ?_) ?_
    · have e17 : qa.tmps[17]? = some (.pointer (some ⟨tb, tO + tn * 2, none⟩)) := fis qF.1 rfl rfl
      clear qO qF
      have htcW := (bcell hB _ _ (World.block_lt_of_cell? _ _ tcW)).trans tcW
      go_simp
      exact hK _ _ (Below.refl _ _) rfl
    refine BOk.cons rfl [6] [] rfl rfl (by kernel_rfl) (by kernel_rfl) (fun qK qa wr hB qO qF hK => ?_) ?_
    · have e18 : qa.tmps[18]? = some (.string nm) := fis qF.1 rfl rfl
      clear qO qF
      go_simp
      exact hK _ _ (Below.refl _ _) (by first | rfl | (show (_ : Value) = _; simp; done))
    refine BOk.cons rfl [] [3] rfl rfl (by kernel_rfl) (by kernel_rfl) (fun qK qa wr hB qO qF hK => ?_) ?_
    · have e3 : qa.tmps[3]? = some (.pointer (some ⟨w.heap.size + 1, 0, none⟩)) := qO.1.trans rfl
      clear qO qF
      go_simp
      exact hK _ _ (Below.refl _ _) rfl
    refine BOk.cons rfl [8] [] rfl rfl (by kernel_rfl) (by kernel_rfl) (fun qK qa wr hB qO qF hK => ?_) ?_
    · have e20 : qa.tmps[20]? = some (.pointer (some ⟨w.heap.size + 1, 1, none⟩)) := fis qF.1 rfl rfl
      clear qO qF
      have he1 := (bcell hB _ _ (World.block_lt_of_cell? _ _ e1)).trans e1
      go_simp
      exact hK _ _ (Below.refl _ _) rfl
    refine BOk.cons rfl [9] [] rfl rfl (by kernel_rfl) (by kernel_rfl) (fun qK qa wr hB qO qF hK => ?_) ?_
    · have e21 : qa.tmps[21]? = some (.int .i64 etm) := fis qF.1 rfl rfl
      clear qO qF
      go_simp
      go_at_call 33
      refine (fmt_any etm htm _ (htW.old hB)).mono ?_
      rintro e9 w9 ⟨rfl, hb9⟩
      exact hK _ _ hb9 rfl
    refine BOk.cons rfl [7, 10] [] rfl rfl (by kernel_rfl) (by kernel_rfl) (fun qK qa wr hB qO qF hK => ?_) ?_
    · have e19 : qa.tmps[19]? = some (.string (nm ++ ⟨#[32]⟩)) := fis qF.1 rfl rfl
      have e22 : qa.tmps[22]? = some (.string (bytes (Lib.itoa etm))) := fis qF.2.1 rfl rfl
      clear qO qF
      go_simp
      exact hK _ _ (Below.refl _ _) (by first | rfl | (show (_ : Value) = _; simp; done))
    exact BOk.nil
  intro vals wr hl hB hR hS
  match vals, hl with
  | [y12, y13, y14, y15, y16, y17, y18, y19, y20, y21, y22, y23], _ =>
  have r11 : y23 = .string (nm ++ ⟨#[32]⟩ ++ bytes (Lib.itoa etm)) := hR 11 _ rfl
  subst r11
  clear hS
  clear hR
  simp only [List.take_succ_cons, List.take_zero, List.drop_succ_cons, List.drop_zero, List.toList_toArray, List.cons_append, List.nil_append, putAll, Act.put, List.setIfInBounds_toArray, List.set_cons_zero, List.set_cons_succ]
  clear hcat1 hcat2 hcat
  have hblr := bld_old hbl hB
  have hbr := hbW.trans (hB.mono hbW.size)
  have hsz := hB.size
  clear s0 e0 e1 tcW htW hB hbW hbl
  have hcells : Lib.strCells (nm ++ ⟨#[32]⟩ ++ bytes (Lib.itoa etm)) = Lib.byteCells (nm.toList ++ 32 :: (Lib.itoa etm)) := by
    rw [cat_bytes (nm ++ ⟨#[32]⟩), cat_bytes nm, ByteArray.toList_eq (bs := ⟨#[32]⟩), bytes_list, bytes_list, cells_bytes]
    simp
  have hsize : (nm ++ ⟨#[32]⟩ ++ bytes (Lib.itoa etm)).size ≤ 140737488355328 := by
    have := congrArg List.length hcells
    rw [Lib.strCells_length] at this
    rw [this]
    have h2 := HL.out
    unfold lineF at h2
    simp only [Lib.byteCells, List.length_map, List.length_append, List.length_cons] at h2 ⊢
    omega
  have HC := Lib.hid hcells
  clear hcells
  generalize nm ++ ⟨#[32]⟩ ++ bytes (Lib.itoa etm) = STR at *
  go_wp2_with fail
  refine (write_any w2.heap.size w2.heap.size [] STR _ hblr (by simpa using hsize) (by omega)).mono ?_
  rintro r w3 ⟨rfl, hbl3, hb4⟩
  rw [List.nil_append, HC.out] at hbl3
  have hbx := hbr.trans hb4
  have z1 := y1.below hbx y1.lt
  have z0 := y0.below hbx y0.lt
  have q2 := z1.cell 2
  have hz1 := z1.lt
  have hxl : eat.length ≤ 8796093021952 := HE.out.len
  clear hblr hb4 hbr HC hsize
  go_wp2
  clear q2
  go_loopw [28] (fun i wr => ∃ k : Nat, k ≤ eat.length ∧ i = .int .i64 k ∧ Below w2.heap.size w2 wr ∧ Hid (Lib.IsBuilder 99 5 w2.heap.size w2.heap.size (Lib.byteCells (nm.toList ++ 32 :: (Lib.itoa etm ++ (eat.take k).flatMap fun v => 32 :: tx v))) wr)) (fun i _ => eat.length - (intOf i).toNat)
  case atStart => exact ⟨0, Nat.zero_le _, rfl, hbx, Lib.hid (by simpa using hbl3)⟩
  case round =>
    obtain ⟨k, hk, rfl, hbel, hbld⟩ := hrel
    have hsz4 := hbel.size
    by_cases hlk : k < eat.length
    · as_aux_lemma =>
      obtain ⟨vb, vo, rfl, hvb, hvc⟩ := (((show Rd w w.heap.size eA (eat.flatMap V.cells) from HE.out.rd).below hb3).below (hbel.mono hb3.size)).elem (n := 2) (fun _ => rfl) (by omega) hlk
      have hmem : eat[k] ∈ eat := List.getElem_mem _
      have hnx : (eat.take (k + 1)).flatMap (fun v => 32 :: tx v) = (eat.take k).flatMap (fun v => 32 :: tx v) ++ 32 :: tx eat[k] := by rw [List.take_succ_eq_append_getElem hlk, List.flatMap_append]; simp
      have hle : ((eat.take (k + 1)).flatMap (fun v => 32 :: tx v)).length ≤ (eat.flatMap fun v => 32 :: tx v).length := by
        have h := congrArg List.length (congrArg (List.flatMap fun v => 32 :: tx v) (List.take_append_drop (k + 1) eat))
        rw [List.flatMap_append, List.length_append] at h
        omega
      have hx2 := HTX.out eat[k] hmem
      have HNX := Lib.hid hnx
      have HLE := Lib.hid hle
      clear hnx hle
      generalize eat[k] = x at *
      have hv0 : wr.cell? ⟨vb, vo + k * 2, none⟩ = some (.int .i64 x.k) := hvc 0 _ rfl
      have hv1 : wr.cell? ⟨vb, vo + k * 2 + 1, none⟩ = some (.int .u64 x.b) := hvc 1 _ rfl
      have s0 := (y0.below hbel y0.lt).cell 0
      have s1 := (y0.below hbel y0.lt).cell 1
      have hkl := (y0.below hbel y0.lt).lt
      have hbW : Below wr.heap.size wr (wr.alloc (.cells #[.int .i64 x.k, .int .u64 x.b] 57)) := (Below.refl _ _).alloc (Nat.le_refl _) _
      have HTT := Lib.hid (hx2 _ (hb3.trans ((hbel.trans (hbW.mono hbel.size)).mono hb3.size)))
      unfold SchemaV.val at HTT
      clear hvc hx2
      go_wp2_with fail
      refine HTT.out.mono ?_
      rintro r w4 ⟨rfl, hb4⟩
      have hbO : Below wr.heap.size wr w4 := hbW.trans (hb4.mono hbW.size)
      have hbe4 := hbel.trans (hbO.mono hbel.size)
      have hbld4 := bld_old hbld.out hbO
      have hz4 := hbe4.size
      have hsum : (nm.toList ++ 32 :: (Lib.itoa etm ++ (eat.take (k + 1)).flatMap fun v => 32 :: tx v)).length ≤ 140737488355328 := by
        have h2 := HL.out
        have h3 := HLE.out
        unfold lineF at h2
        simp only [List.length_append, List.length_cons] at h2 ⊢
        omega
      rw [HNX.out] at hsum
      have hx9 : Lib.strCells (⟨#[32]⟩ ++ bytes (tx x)) = Lib.byteCells (32 :: tx x) := by rw [cat_bytes, ByteArray.toList_eq (bs := ⟨#[32]⟩), bytes_list, cells_bytes]; rfl
      have hs9 : (⟨#[32]⟩ ++ bytes (tx x) : ByteArray).size = (tx x).length + 1 := by rw [← Lib.strCells_length, hx9]; simp [Lib.byteCells]
      have hcat : ¬ 9223372036854775807 < 1 + (bytes (tx x)).size := by
        rw [bytes_size]
        simp only [List.length_append, List.length_cons] at hsum
        omega
      have HX9 := Lib.hid hx9
      have HS9 := Lib.hid hs9
      clear hx9 hs9 hb4 hbO hbW HTT s0 s1 hv0 hv1
      go_wp2_with fail
      refine (write_any w2.heap.size w2.heap.size _ _ _ hbld4 ?_ hz4).mono ?_
      · rw [HS9.out]
        simp only [Lib.byteCells, List.length_map, List.length_append, List.length_cons] at hsum ⊢
        omega
      rintro r w5 ⟨rfl, hbld5, hb5⟩
      rw [HX9.out] at hbld5
      have hbe5 := hbe4.trans hb5
      have HB5 : Hid (Lib.IsBuilder 99 5 w2.heap.size w2.heap.size (Lib.byteCells (nm.toList ++ 32 :: (Lib.itoa etm ++ (eat.take (k + 1)).flatMap fun v => 32 :: tx v))) w5) := Lib.hid (by
        rw [HNX.out]
        have e : nm.toList ++ 32 :: (Lib.itoa etm ++ ((eat.take k).flatMap (fun v => 32 :: tx v) ++ 32 :: tx x)) = (nm.toList ++ 32 :: (Lib.itoa etm ++ (eat.take k).flatMap fun v => 32 :: tx v)) ++ (32 :: tx x) := by simp
        rw [e, Lib.byteCells_append]
        exact hbld5)
      clear hbld5 hbld4 hb5 hbe4 hcat HX9 HS9 hsum HNX HLE
      go_wp2
      go_roundw
      case rel => exact ⟨k + 1, by omega, by go_num, hbe5, HB5⟩
      case measure => simp [intOf]; omega
    · as_aux_lemma =>
      obtain rfl : k = eat.length := by omega
      rw [List.take_length] at hbld
      go_wp2_with fail
      refine (Tryz.Builder_String_any w2.heap.size w2.heap.size _ _ hbld.out hsz4).mono ?_
      rintro r w5 ⟨rfl, hb5⟩
      have hfin := hb3.trans ((hbel.trans hb5).mono hb3.size)
      clear hb5 hbel hbld
      go_wp2
      go_ret
      exact ⟨rfl, hfin⟩
end Go.Proofs.YtpakcicbojbonaaGreatDoor
