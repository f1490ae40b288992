/- Layer 4: a symbol that is read; any value that is read; the text of any value, the line of any event, by the program. No conditions. -/
import Derived.Test.YtpakcicbojbonaaGreatDoorEvtM
namespace Go.Proofs.YtpakcicbojbonaaGreatDoor
open Go.RowKit
set_option maxRecDepth 10000
set_option linter.unusedVariables false
set_option linter.unusedSimpArgs false

theorem tail_list (t : ByteArray) : (t.extract 1 t.size).toList = t.toList.drop 1 := by
  rw [ByteArray.toList_eq, ByteArray.toList_eq, Lib.extract_to_end]
theorem symP_39 (Y : List ByteArray) (t : ByteArray) (h : 0 < t.size) : symP Y t.toList = if t[0] = 39 then atFrom (t.toList.drop 1) 0 (Y.map (·.toList)) else -1 := by
  have h1 := drop_list t 0 h
  rw [List.drop_zero, Nat.zero_add] at h1
  conv => lhs; rw [h1]
  unfold symP
  split
  · rename_i nm e
    injection e with e1 e2
    rw [if_pos e1, e2]
  · rename_i h2
    rw [if_neg]
    intro e
    exact h2 (t.toList.drop 1) (by rw [e])
theorem valT_no (Y : List ByteArray) (t : ByteArray) (h : t.toList = [] ∨ ∃ h0 : 0 < t.size, ¬ t[0] = 39) : valT Y 3 t.toList = ⟨0, 0⟩ := by
  rw [valT3]
  split
  · rename_i x e
    rcases h with h | ⟨h0, h⟩
    · rw [h] at e; cases e
    · have h1 := drop_list t 0 h0
      rw [List.drop_zero, e] at h1
      injection h1 with h1 _
      exact absurd h1.symm h
  · rfl
theorem valT_39 (Y : List ByteArray) (t : ByteArray) (h0 : 0 < t.size) (h : t[0] = 39) : valT Y 3 t.toList = ⟨3, u64 (symP Y t.toList)⟩ := by
  rw [valT3]
  split
  · rfl
  · rename_i h2
    have h1 := drop_list t 0 h0
    rw [List.drop_zero, Nat.zero_add, h] at h1
    exact absurd h1 (h2 _)
def rdsR12 (s : SchemaV) (t : ByteArray) (n : Int) (w : World) : List Spec := [.is (.agg #[.slice s.ta s.types.length s.tc, .slice s.sa s.syms.length s.sc]),
  .is (.string t),
  .is (.string (t.extract 1 t.size)),
  .is (.int .i64 n),
  .is (.int .i64 n)]
set_option maxRecDepth 100000 in
set_option maxHeartbeats 1000000 in
theorem read_sym (s : SchemaV) (t : ByteArray) (w : World) (hs : s.ok w w.heap.size) :
    Calls Tryz.prog 14 #[s.val, .int .i64 3, .string t] w (ReadIs s.syms 3 t.toList w) := by
  have hW : Below w.heap.size w ((w.alloc (.cells #[.slice s.ta s.types.length s.tc, .slice s.sa s.syms.length s.sc] 33)).alloc (.cells #[.int .i64 0, .int .u64 0] 57)) := ((Below.refl _ _).alloc (Nat.le_refl _) _).alloc (by simp) _
  have k0 := (Bk.new w 33 #[.slice s.ta s.types.length s.tc, .slice s.sa s.syms.length s.sc]).alloc (.cells #[.int .i64 0, .int .u64 0] 57)
  have k1 := Bk.newAt (w := w.alloc (.cells #[.slice s.ta s.types.length s.tc, .slice s.sa s.syms.length s.sc] 33)) (g := w.heap.size + 1) (by simp) 57 #[.int .i64 0, .int .u64 0]
  have HV := Lib.hid (valP3 s.syms t.toList)
  have HS := Lib.hid (hs.old hW)
  clear hs
  unfold SchemaV.val
  by_cases h0 : t.size = 0
  · have ht : t = ⟨#[]⟩ := ByteArray.ext (Array.eq_empty_of_size_eq_zero h0)
    subst ht
    have HN : Hid (valP s.syms 3 (⟨#[]⟩ : ByteArray).toList = none) := Lib.hid (by
      rw [HV.out]
      have e : (⟨#[]⟩ : ByteArray).toList = [] := by rw [ByteArray.toList_eq]
      rw [e]; rfl)
    have HT := Lib.hid (valT_no s.syms ⟨#[]⟩ (.inl (by rw [ByteArray.toList_eq])))
    clear HV HS
    go_enter Tryz.func14, Tryz.ntmps14
    go_upto_region 10 with fail
    generalize (w.alloc (.cells #[.slice s.ta s.types.length s.tc, .slice s.sa s.syms.length s.sc] 33)).alloc (.cells #[.int .i64 0, .int .u64 0] 57) = W at *
    have d0 := k1.cell 0
    have d1 := k1.cell 1
    have f0 := k1.frozen 0
    have f1 := k1.frozen 1
    go_wp2
    refine bodyPost_ret (v := .tuple #[.agg #[.int .i64 0, .int .u64 0], .bool false]) (by simp [results, Tryz.results14, go_sem, d0, d1]) rfl ?_
    exact read_is (v := ⟨0, 0⟩) HT.out (by rw [HN.out]; rfl) (by repeat (first | exact hW | refine Below.setCell ?_ (by simp) _))
  have hpos : 0 < t.size := by omega
  have hsy := symP_39 s.syms t hpos
  have hse : ¬ t.toList = [] := by
    intro e
    have := len_list t
    rw [e] at this
    exact h0 this.symm
  have hse2 : t.toList.isEmpty = false := by cases h : t.toList with | nil => exact absurd h hse | cons _ _ => rfl
  have hposI : (0 : Int) < (t.size : Int) := by omega
  by_cases h39 : t[0] = 39
  case neg =>
    rw [if_neg h39] at hsy
    have HN : Hid (valP s.syms 3 t.toList = none) := Lib.hid (by rw [HV.out, hsy]; rfl)
    have HT := Lib.hid (valT_no s.syms t (.inr ⟨hpos, h39⟩))
    have h39I : ((t[0].toNat : Int) != 39) = true := by
      simp
      intro e
      apply h39
      apply UInt8.toNat_inj.1
      have : t[0].toNat = 39 := by omega
      rw [this]; rfl
    clear HV HS hsy h39 h0
    go_enter Tryz.func14, Tryz.ntmps14
    go_upto_region 10 with fail
    generalize (w.alloc (.cells #[.slice s.ta s.types.length s.tc, .slice s.sa s.syms.length s.sc] 33)).alloc (.cells #[.int .i64 0, .int .u64 0] 57) = W at *
    have d0 := k1.cell 0
    have d1 := k1.cell 1
    have f0 := k1.frozen 0
    have f1 := k1.frozen 1
    go_wp2
    refine bodyPost_ret (v := .tuple #[.agg #[.int .i64 0, .int .u64 0], .bool false]) (by simp [results, Tryz.results14, go_sem, d0, d1]) rfl ?_
    exact read_is (v := ⟨0, 0⟩) HT.out (by rw [HN.out]; rfl) (by repeat (first | exact hW | refine Below.setCell ?_ (by simp) _))
  rw [if_pos h39] at hsy
  have hT := valT_39 s.syms t hpos h39
  have h39I : ((t[0].toNat : Int) != 39) = false := by rw [h39]; rfl
  obtain ⟨n, hn⟩ : ∃ n, atFrom (t.toList.drop 1) 0 (s.syms.map (·.toList)) = n := ⟨_, rfl⟩
  have hrg := at_ge (t.toList.drop 1) (s.syms.map (·.toList)) 0
  rw [hn] at hsy hrg
  rw [hsy] at HV hT
  have HT := Lib.hid hT
  clear hT
  have hn1 := hrg.1
  have hn2 : n < (s.syms.length : Int) := by simpa using hrg.2.1
  have hsl := HS.out.slen
  have HSY : Hid (∀ W : World, s.ok W W.heap.size → Calls Tryz.prog 34 #[.agg #[.slice s.ta s.types.length s.tc, .slice s.sa s.syms.length s.sc], .string (t.extract 1 t.size)] W fun e w' => e = .returned (.int .i64 n) ∧ Below W.heap.size W w') := Lib.hid fun W h => by
    have h2 := psym_any s (t.extract 1 t.size) W h
    rw [tail_list, hn] at h2
    exact h2
  have h1sz : (1 : Int) ≤ (t.size : Int) := by omega
  clear h0 h39 hsy hn hrg
  go_enter Tryz.func14, Tryz.ntmps14
  go_upto_region 12 with fail
  generalize (w.alloc (.cells #[.slice s.ta s.types.length s.tc, .slice s.sa s.syms.length s.sc] 33)).alloc (.cells #[.int .i64 0, .int .u64 0] 57) = W at *
  have s0 := k0.cell 0
  have s1 := k0.cell 1
  refine wp_region_b (by kernel_rfl) (fun qk => (rdsR12 s t n w).getD qk .any) (by kernel_rfl) ?_ ?_
  · refine BOk.cons rfl [] [3] rfl rfl (by kernel_rfl) (by kernel_rfl) (fun qK qa wr hB qO qF hK => ?_) ?_
    · have e3 : qa.tmps[3]? = some (.pointer (some ⟨w.heap.size, 0, none⟩)) := qO.1.trans rfl
      clear qO qF
      have hs0 := (bcell hB _ _ (World.block_lt_of_cell? _ _ s0)).trans s0
      have hs1 := (bcell hB _ _ (World.block_lt_of_cell? _ _ s1)).trans s1
      go_simp
      exact hK _ _ (Below.refl _ _) rfl
    refine BOk.cons rfl [] [2] rfl rfl (by kernel_rfl) (by kernel_rfl) (fun qK qa wr hB qO qF hK => ?_) ?_
    · have e2 : qa.tmps[2]? = some (.string t) := qO.1.trans rfl
      clear qO qF
      go_simp
      exact hK _ _ (Below.refl _ _) rfl
    refine BOk.cons rfl [1] [] rfl rfl (by kernel_rfl) (by kernel_rfl) (fun qK qa wr hB qO qF hK => ?_) ?_
    · have e47 : qa.tmps[47]? = some (.string t) := fis qF.1 rfl rfl
      clear qO qF
      go_simp
      exact hK _ _ (Below.refl _ _) (by first | rfl | (show (_ : Value) = _; simp; done))
    refine BOk.cons rfl [0, 2] [] rfl rfl (by kernel_rfl) (by kernel_rfl) (fun qK qa wr hB qO qF hK => ?_) ?_
    · have e46 : qa.tmps[46]? = some (.agg #[.slice s.ta s.types.length s.tc, .slice s.sa s.syms.length s.sc]) := fis qF.1 rfl rfl
      have e48 : qa.tmps[48]? = some (.string (t.extract 1 t.size)) := fis qF.2.1 rfl rfl
      clear qO qF
      go_simp
      go_at_call 34
      refine (HSY.out _ (HS.out.old hB)).mono ?_
      rintro e9 w9 ⟨rfl, hb9⟩
      exact hK _ _ hb9 rfl
    refine BOk.cons rfl [3] [] rfl rfl (by kernel_rfl) (by kernel_rfl) (fun qK qa wr hB qO qF hK => ?_) ?_
    · have e49 : qa.tmps[49]? = some (.int .i64 n) := fis qF.1 rfl rfl
      clear qO qF
      go_simp
      exact hK _ _ (Below.refl _ _) rfl
    exact BOk.nil
  intro vals wr hl hB hR
  match vals, hl with
  | [y46, y47, y48, y49, y10], _ =>
  have r4 : y10 = .int .i64 n := hR 4 _ rfl
  subst r4
  clear hR
  simp only [List.cons_append, List.nil_append, putAll, Act.put, List.setIfInBounds_toArray, List.set_cons_zero, List.set_cons_succ]
  have hbe := hW.trans (hB.mono hW.size)
  have k2 := k1.old hB
  clear hB hW k0 k1 s0 s1 HS HSY
  have d0 := k2.cell 0
  have d1 := k2.cell 1
  have f0 := k2.frozen 0
  have f1 := k2.frozen 1
  have HU := Lib.hid (u64_int n)
  by_cases hnn : 0 ≤ n
  · rw [if_pos hnn] at HV
    have hun : u64 n = n.toNat := by unfold u64; omega
    rw [← hun] at HV
    clear hun
    have HU2 : Hid (((u64 n : Nat) : Int) = n) := Lib.hid (by unfold u64; omega)
    go_wp2
    refine bodyPost_ret (v := .tuple #[.agg #[.int .i64 3, .int .u64 n], .bool true]) (by simp [results, Tryz.results14, go_sem, d0, d1]) rfl ?_
    rw [← HU2.out]
    exact read_is (v := ⟨3, u64 n⟩) HT.out (by rw [HV.out]; rfl) (by repeat (first | exact hbe | refine Below.setCell ?_ (by have := hbe.size; simp; try omega) _))
  · rw [if_neg hnn] at HV
    go_wp2
    refine bodyPost_ret (v := .tuple #[.agg #[.int .i64 3, .int .u64 (IntKind.u64.wrap n)], .bool false]) (by simp [results, Tryz.results14, go_sem, d0, d1]) rfl ?_
    rw [← HU.out]
    exact read_is (v := ⟨3, u64 n⟩) HT.out (by rw [HV.out]; rfl) (by repeat (first | exact hbe | refine Below.setCell ?_ (by have := hbe.size; simp; try omega) _))
theorem read_any (s : SchemaV) (k : Int) (hk : 1 ≤ k ∧ k ≤ 4) (t : ByteArray) (w : World) (hE : Env w) (hs : s.ok w w.heap.size) (ht : t.size ≤ 281474976710656) :
    Calls Tryz.prog 14 #[s.val, .int .i64 k, .string t] w (ReadIs s.syms k t.toList w) := by
  have hc : k = 1 ∨ k = 2 ∨ k = 3 ∨ k = 4 := by omega
  rcases hc with rfl | rfl | rfl | rfl
  · exact read_int s t w hE ht
  · exact read_bool s t w
  · exact read_sym s t w hs
  · exact read_real s t w
theorem text_any (s : SchemaV) (v : V) (k : Int) (hk : 1 ≤ k ∧ k ≤ 4) (hv : attrOk s.syms.length k v = true) (hf : v.fits) (w : World) (ht : Tab w) (hs : s.ok w w.heap.size) :
    Calls Tryz.prog 46 #[s.val, v.v] w fun e w' => e = .returned (.string (bytes (textV s.syms v))) ∧ Below w.heap.size w w' := by
  obtain ⟨vk, b⟩ := v
  have hf : b < 18446744073709551616 := hf
  simp only [attrOk, cleanB, Bool.and_eq_true, decide_eq_true_eq, Bool.not_eq_true', Bool.and_eq_false_iff, decide_eq_false_iff_not] at hv
  obtain ⟨rfl, ⟨h1, h2⟩, h3⟩ := hv
  have hc : vk = 1 ∨ vk = 2 ∨ vk = 3 ∨ vk = 4 := by omega
  rcases hc with rfl | rfl | rfl | rfl
  · rw [textV1]
    exact text_int s b hf w ht
  · rw [textV2]
    exact text_bool s b w
  · have hb : b < s.syms.length := by
      rcases h3 with h | h
      · exact absurd rfl h
      · omega
    rw [textV3, List.getD_eq_getElem?_getD, List.getElem?_eq_getElem hb]
    exact text_sym s b hb w hs
  · rw [textV4]
    exact text_real s b hf w
theorem attrs_mem {n : Nat} : ∀ {ks : List Int} {vs : List V}, attrsOk n ks vs = true → ∀ v ∈ vs, ∃ k ∈ ks, attrOk n k v = true
  | [], [], _, v, hv => by cases hv
  | [], _ :: _, h, _, _ => by cases h
  | _ :: _, [], h, _, _ => by cases h
  | k :: ks, x :: vs, h, v, hv => by
    have h' : (attrOk n k x && attrsOk n ks vs) = true := h
    rw [Bool.and_eq_true] at h'
    rcases List.mem_cons.1 hv with rfl | hv
    · exact ⟨k, by simp, h'.1⟩
    · obtain ⟨k', h1, h2⟩ := attrs_mem h'.2 v hv
      exact ⟨k', by simp [h1], h2⟩
theorem text_short {Y : List ByteArray} {k : Int} {v : V} (hY : badB (Y.map (·.toList)) = false) (hk : 1 ≤ k ∧ k ≤ 4) (h : attrOk Y.length k v = true) (hf : v.fits) : (textV Y v).length ≤ 30 := by
  obtain ⟨vk, b⟩ := v
  have hf : b < 18446744073709551616 := hf
  simp only [attrOk, Bool.and_eq_true, decide_eq_true_eq, Bool.not_eq_true', Bool.and_eq_false_iff, decide_eq_false_iff_not] at h
  obtain ⟨rfl, _, h3⟩ := h
  have hc : vk = 1 ∨ vk = 2 ∨ vk = 3 ∨ vk = 4 := by omega
  rcases hc with rfl | rfl | rfl | rfl
  · rw [textV1]
    have := itoa_len (wrap64 b) (by unfold wrap64; omega)
    omega
  · rw [textV2]
    split <;> decide
  · have hb : b < Y.length := by
      rcases h3 with h | h
      · exact absurd rfl h
      · omega
    rw [textV3, List.getD_eq_getElem?_getD, List.getElem?_eq_getElem hb]
    have hn := ((bad_not hY).1 _ (List.mem_map_of_mem (List.getElem_mem hb))).1
    unfold nameB at hn
    simp only [Bool.and_eq_true, decide_eq_true_eq] at hn
    show (39 :: Y[b].toList).length ≤ 30
    rw [List.length_cons]; omega
  · rw [textV4]
    unfold realL
    rw [List.length_cons, hexN_len]; omega
theorem line_short {T : List TSig} {Y : List ByteArray} {e : Int × Int × List V} (hv : validB T Y e = true) (hf : ∀ v ∈ e.2.2, v.fits) : (lineV T Y e).length ≤ 300 := by
  have h := valid_e hv
  have hR := right_of h.check
  obtain ⟨t, ht⟩ : ∃ t : Nat, e.1 = t := ⟨e.1.toNat, by have := h.type; omega⟩
  have htl : t < T.length := by have := h.type; omega
  have hnm : (nameAt T e.1).length ≤ 24 := by
    have e' : nameAt T e.1 = T[t].1.toList := by
      unfold nameAt
      rw [ht, Int.toNat_natCast, List.getD_eq_getElem?_getD, List.getElem?_eq_getElem htl]; rfl
    have hn := ((bad_not (right_all h.check).1).1 _ (List.mem_map_of_mem (List.getElem_mem htl))).1
    unfold nameB at hn
    simp only [Bool.and_eq_true, decide_eq_true_eq] at hn
    rw [e']; omega
  have htm := itoa_len e.2.1 (by have := h.time; omega)
  have hal : e.2.2.length ≤ 8 := by
    have h1 := attrsOk_len h.attrs
    have h2 := (check_zero h.check).1
    unfold kindsOk at h2
    simp only [Bool.and_eq_true, List.all_eq_true] at h2
    have h3 : kindsAt T e.1 ∈ kindsOf T := by
      unfold kindsAt
      have hl : t < (kindsOf T).length := by simpa [kindsOf] using htl
      rw [ht, Int.toNat_natCast, List.getD_eq_getElem?_getD, List.getElem?_eq_getElem hl]
      exact List.getElem_mem hl
    have h4 := h2.2 _ h3
    unfold rowOk at h4
    simp only [Bool.and_eq_true, decide_eq_true_eq] at h4
    omega
  have hfl : ∀ l : List V, (∀ v ∈ l, (textV Y v).length ≤ 30) → (l.flatMap fun v => 32 :: textV Y v).length ≤ 31 * l.length := by
    intro l
    induction l with
    | nil => simp
    | cons v l ih =>
      intro hl
      have h1 := hl v (by simp)
      have h2 := ih fun x hx => hl x (by simp [hx])
      simp only [List.flatMap_cons, List.length_append, List.length_cons] at h2 ⊢
      omega
  have hx := hfl e.2.2 fun v hvm => by
    obtain ⟨k, hk, ha⟩ := attrs_mem h.attrs v hvm
    exact text_short hR.syms (hR.kinds _ k hk) ha (hf v hvm)
  unfold lineV lineF
  simp only [List.length_append, List.length_cons]
  omega
theorem line_no (s : SchemaV) (e : EventV) (w : World) (hs : s.ok w w.heap.size) (he : e.ok w w.heap.size) (hv : validB (s.types.map sig) s.syms e.sig = false) :
    Calls Tryz.prog 23 #[s.val, e.val] w fun r w' => r = .returned (.string (bytes [])) ∧ Below w.heap.size w w' := by
  have hW : Below w.heap.size w ((w.alloc (.cells #[.slice s.ta s.types.length s.tc, .slice s.sa s.syms.length s.sc] 33)).alloc (.cells #[.int .i64 e.type, .int .i64 e.time, .slice e.A e.attrs.length e.c] 28)) := ((Below.refl _ _).alloc (Nat.le_refl _) _).alloc (by simp) _
  have x0 := (Bk.new w 33 #[.slice s.ta s.types.length s.tc, .slice s.sa s.syms.length s.sc]).alloc (.cells #[.int .i64 e.type, .int .i64 e.time, .slice e.A e.attrs.length e.c] 28)
  have x1 := Bk.newAt (w := w.alloc (.cells #[.slice s.ta s.types.length s.tc, .slice s.sa s.syms.length s.sc] 33)) (g := w.heap.size + 1) (by simp) 28 #[.int .i64 e.type, .int .i64 e.time, .slice e.A e.attrs.length e.c]
  have HV := Lib.hid (pvalid_any s e _ (hs.old hW) (he.old hW))
  rw [hv] at HV
  clear hs he hv
  unfold SchemaV.val EventV.val at *
  have s0 := x0.cell 0
  have s1 := x0.cell 1
  have e0 := x1.cell 0
  have e1 := x1.cell 1
  have e2 := x1.cell 2
  go_enter Tryz.func23, Tryz.ntmps23
  go_wp2_with fail
  refine HV.out.mono ?_
  rintro r w2 ⟨rfl, hb2⟩
  have hb3 := hW.trans (hb2.mono hW.size)
  clear x0 x1 HV hb2 hW s0 s1 e0 e1 e2
  go_wp2
  go_ret
  exact ⟨rfl, hb3⟩
theorem line_any (s : SchemaV) (e : EventV) (w : World) (hs : s.ok w w.heap.size) (he : e.ok w w.heap.size) (ht : Tab w) :
    Calls Tryz.prog 23 #[s.val, e.val] w fun r w' => r = .returned (.string (bytes (lineB (s.types.map sig) s.syms e.sig))) ∧ Below w.heap.size w w' := by
  unfold lineB
  by_cases hv : validB (s.types.map sig) s.syms e.sig = true
  · rw [if_pos hv]
    have h := valid_e hv
    have hR := right_of h.check
    obtain ⟨t, htt⟩ : ∃ t : Nat, e.type = t := ⟨e.type.toNat, by have := h.type; simp only [EventV.sig] at this; omega⟩
    have htl : t < s.types.length := by have := h.type; simp only [EventV.sig, List.length_map] at this; omega
    have hnm : nameAt (s.types.map sig) e.sig.1 = s.types[t].name.toList := by
      unfold nameAt
      show ((s.types.map sig).getD e.type.toNat (⟨#[]⟩, [])).1.toList = _
      rw [htt, Int.toNat_natCast, List.getD_eq_getElem?_getD, List.getElem?_map, List.getElem?_eq_getElem htl]; rfl
    have hls := line_short hv he.fits
    unfold lineV at hls ⊢
    rw [hnm] at hls ⊢
    refine line_yes (textV s.syms) s e t w hs he ht hv htt htl (fun x hx W hb => ?_) (by have := hls; simp only [EventV.sig] at this; omega)
    obtain ⟨k, hk, ha⟩ := attrs_mem h.attrs x hx
    exact text_any s x k (hR.kinds _ k hk) ha (he.fits x hx) W (ht.old hb) (hs.old hb)
  · rw [if_neg hv]
    exact line_no s e w hs he (by simpa using hv)
end Go.Proofs.YtpakcicbojbonaaGreatDoor
