/- EventFits holds of what is of bounded bulk. No conditions. -/
import Derived.Test.YtpakcicbojbonaaDoorEvtV
import Derived.Lib.ItoaLen
namespace Go.Proofs.YtpakcicbojbonaaDoor.eventFits
open Go.ChangeShapes Go.WideShapes Go.ChangeAt Go.RowKit
open Go.ChangeMaps (open_string shut_string)
set_option linter.unusedSimpArgs false
set_option linter.unusedVariables false

theorem cat_nm (c : UInt8) (i : Nat) : (⟨#[c]⟩ : ByteArray) ++ bytes (Lib.itoa (i : Int)) = nameN c i := by rw [cat_bytes, bytes_list, ByteArray.toList_eq (bs := ⟨#[c]⟩)]; rfl
theorem itoa_len (i : Nat) (h : i ≤ 9223372036854775807) : (Lib.itoa (i : Int)).length ≤ 1000000 := Nat.le_trans (Lib.itoa_length_le i (by omega) (by omega)) (by decide)
theorem nameN_size (c : UInt8) (i : Nat) (h : i ≤ 9223372036854775807) : (nameN c i).size ≤ 140737488351232 := by
  unfold nameN
  rw [bytes_size, List.length_cons]
  have := itoa_len i h
  omega
theorem gen_ok {K : List (List Int)} (hK : K.length ≤ 1048576) (hrow : ∀ l ∈ K, l.length ≤ 1048576) {ts : List TypeV} (hsig : ts.map sig = genT K) {A A2 : Option Addr} {c c2 m B : Nat} {W : World}
    (h1 : W.ownsRow B 34 2 (.slice A K.length c) K.length (ts.flatMap TypeV.cells)) (h2 : ∀ t ∈ ts, W.ownsRow B 36 2 (.slice t.fa t.fields.length t.fc) t.fields.length (t.fields.flatMap FieldV.cells))
    (h3 : W.ownsRow B 9 1 (.slice A2 m c2) m ((namesN 115 m).map .string)) (hm : m ≤ 65) : (⟨A, c, ts, A2, c2, namesN 115 m⟩ : SchemaV).ok W W.heap.size ∧ ts.length = K.length := by
  have hlen : ts.length = K.length := by have := congrArg List.length hsig; simpa [genT] using this
  refine ⟨⟨own_rd h1, by show ts.length ≤ _; omega, fun t ht => ?_, own_rd h3, by show (namesN 115 m).length ≤ _; simp [namesN]; omega, fun x hx => ?_⟩, hlen⟩
  · have hs : sig t ∈ genT K := by rw [← hsig]; exact List.mem_map_of_mem ht
    obtain ⟨i, hi, he⟩ := List.mem_iff_getElem.1 hs
    have hi2 : i < K.length := by simpa [genT] using hi
    have e1 : t.name = nameN 84 i := by have := congrArg Prod.fst he; simpa [genT, sig] using this.symm
    have e2 : t.fields = genF K[i] := by have := congrArg Prod.snd he; simpa [genT, sig] using this.symm
    have hl2 := hrow K[i] (List.getElem_mem _)
    refine ⟨own_rd (h2 t ht), by rw [e2]; simp [genF]; omega, by rw [e1]; exact nameN_size _ _ (by omega), fun f hf => ?_⟩
    rw [e2] at hf
    obtain ⟨j, hj, rfl⟩ := List.mem_iff_getElem.1 hf
    have hj2 : j < K[i].length := by simpa [genF] using hj
    simp only [genF, List.getElem_mapIdx]
    exact nameN_size _ _ (by omega)
  · unfold namesN at hx
    obtain ⟨i, hi, rfl⟩ := List.mem_map.1 hx
    have := List.mem_range.1 hi
    exact nameN_size _ _ (by omega)
theorem infoF9 : (Tryd.prog.info? 36).map (fun i => (i.zero, i.size, i.bytes)) = some (some (.agg #[.string ⟨#[]⟩, .int .i64 0]), 2, 24) := by kernel_rfl
theorem infoT9 : (Tryd.prog.info? 34).map (fun i => (i.zero, i.size, i.bytes)) = some (some (.agg #[.string ⟨#[]⟩, .slice none 0 0]), 2, 40) := by kernel_rfl
theorem take_genF (l : List Int) (j : Nat) (h : j < l.length) : (genF l).take (j + 1) = (genF l).take j ++ [⟨nameN 102 j, l[j]⟩] := by
  rw [List.take_succ_eq_append_getElem (by simpa [genF] using h)]; simp [genF]
theorem take_genT (K : List (List Int)) (k : Nat) (h : k < K.length) : (genT K).take (k + 1) = (genT K).take k ++ [(nameN 84 k, genF K[k])] := by
  rw [List.take_succ_eq_append_getElem (by simpa [genT] using h)]; simp [genT]
section
variable {H : Type} {enc : TypeId × Value → H} {w : World}
set_option maxRecDepth 10000 in
theorem ob_rows (N : Nat) : OpensB enc Tryd.prog w N 22 (fun cs => ∃ (A : Option Addr) (c : Nat) (l : List RowV), cs = [.slice A l.length c] ∧ l.length ≤ 1048576 ∧ Rd w w.heap.size A (l.flatMap RowV.cells) ∧ ∀ x ∈ l, x.ok w w.heap.size ∧ x.l.length ≤ 1048576) := by
  cases N with
  | zero => exact opensB_zero
  | succ N =>
    refine (opensB_slice (f := RowV.cells) (Q := fun x => x.ok w w.heap.size ∧ x.l.length ≤ 1048576) Tryd.underlying22 cInts (by omega) (fun _ => rfl) ?_).imp fun cs ⟨A, c, l, h, _, hl, hr, hq⟩ => ⟨A, c, l, h, hl, hr, hq⟩
    cases N with
    | zero => exact opensB_zero
    | succ N =>
      refine (opensB_slice (f := fun n : Int => [Value.int .i64 n]) (Q := fun _ => True) Tryd.underlying30 cInt (by omega) (fun _ => rfl) ((opens_int Tryd.underlying3).b.imp fun cs ⟨n, h, _⟩ => ⟨n, h, trivial⟩)).imp ?_
      rintro cs ⟨A, c, l, h, hlc, hl, hr, _⟩
      exact ⟨⟨A, c, l⟩, h, ⟨by rw [ints, ← flat_one]; exact hr, by show l.length ≤ _; omega⟩, hl⟩
set_option maxRecDepth 10000 in
theorem open_rowsB {r : Reach} {b0 : Nat} {v : Value} {d : DataW H} {p : List MemPlace} (hv : Value.okWide Tryd.prog w r b0 22 v) (h : DataW.Trod enc Tryd.prog w 0 (fun _ => true) true 22 v d p)
    (hw : (d.weights Tryd.prog 22).all (· ≤ reachBytes) = true) (hb : Rows.uptoBulk d ≤ 1048576) : ∃ (A : Option Addr) (c : Nat) (l : List RowV), v = .slice A l.length c ∧ l.length ≤ 1048576 ∧ Rd w w.heap.size A (l.flatMap RowV.cells) ∧ ∀ x ∈ l, x.ok w w.heap.size ∧ x.l.length ≤ 1048576 := by
  obtain ⟨A0, n0, c0, rfl⟩ := okWide_slice Tryd.underlying22 hv
  obtain ⟨A, c, l, hx, hl, hr, hq⟩ := OpensB.arg (fun N => ob_rows N) h hw hb
  refine ⟨A, c, l, ?_, hl, hr, hq⟩
  simpa [Value.cells] using hx
end
def efR9 (w2 : World) (j : Nat) (A' : Option Addr) (c' : Nat) (fk : Int) : List Spec := [.is (.pointer (some ⟨w2.heap.size, 1, none⟩)),
  .is (.slice A' j c'),
  .is (.int .i64 (j : Nat)),
  .is (.string (bytes (Lib.itoa (j : Nat)))),
  .is (.string (nameN 102 j)),
  .is (.int .i64 fk),
  .is (.agg #[.string (nameN 102 j), .int .i64 fk]),
  .st (fun v w => ∃ g, v = .slice (some ⟨g, 0, none⟩) 1 1 ∧ Bk w g 36 #[.string (nameN 102 j), .int .i64 fk]) (fun _ _ _ hb ⟨g, h1, h2⟩ => ⟨g, h1, h2.old hb⟩)]
def efR16 (m : Nat) (A2 : Option Addr) (c2 : Nat) (w : World) : List Spec := [.is (.pointer (some ⟨w.heap.size + 1, 1, none⟩)),
  .is (.slice A2 m c2),
  .is (.int .i64 (m : Nat)),
  .is (.string (bytes (Lib.itoa (m : Nat)))),
  .is (.string (nameN 115 m)),
  .st (fun v w => ∃ g, v = .slice (some ⟨g, 0, none⟩) 1 1 ∧ Bk w g 9 #[.string (nameN 115 m)]) (fun _ _ _ hb ⟨g, h1, h2⟩ => ⟨g, h1, h2.old hb⟩)]
def efR17a (rows : List RowV) (KA : Option Addr) (kc : Nat) (n ety etm : Int) (eA : Option Addr) (ec : Nat) (eat : List V) (A A2 : Option Addr) (c c2 m : Nat) (w : World) : List Spec := [.is (.bool true),
  .is (.bool true),
  .is (.slice KA rows.length kc),
  .is (.int .i64 n),
  .is (.agg #[.int .i64 ety, .int .i64 etm, .slice eA eat.length ec]),
  .st (EvAt (ety, etm, eat)) (EvAt.keep),
  .is (.bool (fitsB (rows.map (·.l)) n (ety, etm, eat))),
  .is (.int .i64 n),
  .is (.bool true),
  .is (.bool true),
  .is (.agg #[.slice A rows.length c, .slice A2 m c2]),
  .is (.agg #[.int .i64 ety, .int .i64 etm, .slice eA eat.length ec]),
  .is (.bool (validB (genT (rows.map (·.l))) (genY n) (ety, etm, eat))),
  .is (.bool (validB (genT (rows.map (·.l))) (genY n) (ety, etm, eat))),
  .is (.bool true),
  .is (.bool true),
  .is (.bool true)]
def efR17b (rows : List RowV) (KA : Option Addr) (kc : Nat) (n ety etm : Int) (eA : Option Addr) (ec : Nat) (eat : List V) (A A2 : Option Addr) (c c2 m : Nat) (w : World) : List Spec := [.is (.bool true),
  .is (.bool true),
  .is (.slice KA rows.length kc),
  .is (.int .i64 n),
  .is (.agg #[.int .i64 ety, .int .i64 etm, .slice eA eat.length ec]),
  .st (EvAt (ety, etm, eat)) (EvAt.keep),
  .is (.bool (fitsB (rows.map (·.l)) n (ety, etm, eat))),
  .is (.int .i64 n),
  .is (.bool false),
  .is (.bool false),
  .is (undef),
  .is (undef),
  .is (undef),
  .is (.bool false),
  .is (.bool true),
  .is (.bool true),
  .is (.bool true)]
set_option maxRecDepth 100000 in
set_option maxHeartbeats 4000000 in
theorem walk (w : World) (ht : Tab w) (KA : Option Addr) (kc : Nat) (rows : List RowV) (hl : rows.length ≤ 1048576) (hr : Rd w w.heap.size KA (rows.flatMap RowV.cells)) (hrow : ∀ x ∈ rows, x.ok w w.heap.size ∧ x.l.length ≤ 1048576) (n : Int) (e : EventV) (he : e.ok w w.heap.size) :
    Calls Tryd.prog 3 #[.slice KA rows.length kc, .int .i64 n, e.val] w fun r w' => r = .returned (.bool true) ∧ Below w.heap.size w w' := by
  obtain ⟨iF, hF, hF0, hF1, hF2⟩ := info_parts infoF9
  obtain ⟨iT, hT, hT0, hT1, hT2⟩ := info_parts infoT9
  obtain ⟨iS, hS, hS0, hS1, hS2⟩ := info_parts infoStr
  have HR0 := Lib.hid hr
  have HRO0 := Lib.hid hrow
  have HE0 := Lib.hid he
  have HRK : Hid (∀ l ∈ rows.map (·.l), l.length ≤ 1048576) := Lib.hid fun l hm => by obtain ⟨r, hr, rfl⟩ := List.mem_map.1 hm; exact (hrow r hr).2
  have HT0 := Lib.hid ht
  clear hr hrow he ht
  obtain ⟨ety, etm, eA, ec, eat⟩ := e
  unfold EventV.val
  go_enter Tryd.func3, Tryd.ntmps3
  go_wp2
  go_loopw [17] (fun i wr => ∃ (k : Nat) (A : Option Addr) (c : Nat) (ts : List TypeV), k ≤ rows.length ∧ i = .int .i64 k ∧ Below w.heap.size w wr ∧
      Bk wr w.heap.size 25 #[.int .i64 ety, .int .i64 etm, .slice eA eat.length ec] ∧
      Bk wr (w.heap.size + 1) 29 #[.slice A k c, .slice none 0 0] ∧
      wr.ownsRow (w.heap.size + 2) 34 2 (.slice A k c) k (ts.flatMap TypeV.cells) ∧ Hid (ts.map sig = (genT (rows.map (·.l))).take k) ∧
      Hid (∀ t ∈ ts, wr.ownsRow (w.heap.size + 2) 36 2 (.slice t.fa t.fields.length t.fc) t.fields.length (t.fields.flatMap FieldV.cells))) (fun i _ => rows.length - (intOf i).toNat)
  case atStart => exact ⟨0, none, 0, [], Nat.zero_le _, rfl, ((Below.refl _ _).alloc (Nat.le_refl _) _).alloc (by simp) _, (Bk.new w _ _).alloc _, Bk.newAt (by simp) _ _, World.ownsRow_nil _ _ _ _, Lib.hid rfl, Lib.hid (by simp)⟩
  case round =>
    obtain ⟨k, A, c, ts, hk, rfl, hbel, kb0, kb1, hown, hsig, heach⟩ := hrel
    obtain ⟨wo, rfl⟩ : ∃ wo : World, wo = wr := ⟨_, rfl⟩
    by_cases hlt : k < rows.length
    · as_aux_lemma =>
      obtain ⟨b, o, rfl, hb, hc⟩ := (HR0.out.below hbel).elem (n := 1) (fun _ => rfl) (by omega) hlt
      have hx := HRO0.out rows[k] (List.getElem_mem _)
      have hnx : (genT (rows.map (·.l))).take (k + 1) = (genT (rows.map (·.l))).take k ++ [(nameN 84 k, genF rows[k].l)] := by rw [take_genT _ _ (by simpa using hlt)]; simp
      have HNX := Lib.hid hnx
      clear hnx
      generalize rows[k] = x at *
      have e0 : wo.cell? ⟨b, o + k * 1, none⟩ = some (.slice x.A x.l.length x.c) := hc 0 _ rfl
      rw [Nat.mul_one] at e0
      have XR := Lib.hid (hx.1.rd.below hbel)
      have hxl := hx.2
      have HD := Lib.hid (dec_any (k : Int) (by omega) wo)
      have hcs : ¬ 9223372036854775807 < 1 + (bytes (Lib.itoa (k : Int))).size := by rw [bytes_size]; have := itoa_len k (by omega); omega
      have hce := cat_nm 84 k
      clear hc hx
      go_wp2_with fail
      refine HD.out.mono ?_
      rintro r w2 ⟨rfl, hb2⟩
      have hbe2 := hbel.trans (hb2.mono hbel.size)
      have q0 := kb0.old hb2
      have q1 := kb1.old hb2
      have hown2 := own_old hown hb2
      have HE2 : Hid (∀ t ∈ ts, w2.ownsRow (w.heap.size + 2) 36 2 (.slice t.fa t.fields.length t.fc) t.fields.length (t.fields.flatMap FieldV.cells)) := Lib.hid fun t ht => own_old (heach.out t ht) hb2
      have XR2 := Lib.hid (XR.out.below (hb2.mono hbel.size))
      have hz2 := q1.lt
      clear hb2 kb0 kb1 hown heach XR HD e0 hbel
      go_wp2_with fail
      clear hcs hce
      generalize nameN 84 k = NM at *
      go_loopw [28] (fun i wr => ∃ (j : Nat) (A' : Option Addr) (c' : Nat), j ≤ x.l.length ∧ i = .int .i64 j ∧ Below w2.heap.size w2 wr ∧ Bk wr w2.heap.size 34 #[.string NM, .slice A' j c'] ∧
          wr.ownsRow (w2.heap.size + 1) 36 2 (.slice A' j c') j (((genF x.l).take j).flatMap FieldV.cells)) (fun i _ => x.l.length - (intOf i).toNat)
      case atStart => exact ⟨0, none, 0, Nat.zero_le _, rfl, (Below.refl _ _).alloc (Nat.le_refl _) _, Bk.new _ _ _, World.ownsRow_nil _ _ _ _⟩
      case round =>
        obtain ⟨j, A', c', hj, rfl, hbi, kx, howni⟩ := hrel
        obtain ⟨wi, rfl⟩ : ∃ wi : World, wi = wr := ⟨_, rfl⟩
        by_cases hlj : j < x.l.length
        · as_aux_lemma =>
          obtain ⟨b2, o2, hA2, hb2, hc2⟩ := (show Rd wi w.heap.size x.A (x.l.map fun n : Int => Value.int .i64 n) from XR2.out.below (hbi.mono hbe2.size)).elem1 hlj
          have hnf : ((genF x.l).take (j + 1)).flatMap FieldV.cells = ((genF x.l).take j).flatMap FieldV.cells ++ [.string (nameN 102 j), .int .i64 x.l[j]] := by rw [take_genF _ _ hlj, List.flatMap_append]; simp [FieldV.cells]
          have HNF := Lib.hid hnf
          clear hnf
          generalize x.l[j] = fk at *
          have y1 := kx.cell 1
          have hjd : -9223372036854775808 ≤ (j : Int) ∧ (j : Int) ≤ 9223372036854775807 := by omega
          have hjc : ¬ 9223372036854775807 < 1 + (bytes (Lib.itoa (j : Int))).size := by rw [bytes_size]; have := itoa_len j (by omega); omega
          have hzi := hbi.size
          have hgl := kx.lt
          rw [hA2]
          have HA2 := Lib.hid hA2
          clear hA2
          go_wp2_with fail
          refine wp_region_t 8 (fun k => false) (by kernel_rfl) (fun qk => (efR9 w2 j A' c' fk).getD qk .any) (by kernel_rfl) ?_ ?_
          · refine BOk.cons rfl [] [10] rfl rfl (by kernel_rfl) (by kernel_rfl) (fun qK qa wr hB qO qF hK => ?_) ?_
            · have e10 : qa.tmps[10]? = some (.pointer (some ⟨w2.heap.size, 0, none⟩)) := qO.1.trans rfl
              clear qO qF
              go_simp
              exact hK _ _ (Below.refl _ _) rfl
            refine BOk.cons rfl [0] [] rfl rfl (by kernel_rfl) (by kernel_rfl) (fun qK qa wr hB qO qF hK => ?_) ?_
            · have e33 : qa.tmps[33]? = some (.pointer (some ⟨w2.heap.size, 1, none⟩)) := fis qF.1 rfl rfl
              clear qO qF
              have hy1 := (bcell hB _ _ (World.block_lt_of_cell? _ _ y1)).trans y1
              go_simp
              exact hK _ _ (Below.refl _ _) rfl
            refine BOk.cons rfl [] [11] rfl rfl (by kernel_rfl) (by kernel_rfl) (fun qK qa wr hB qO qF hK => ?_) ?_
            · have e11 : qa.tmps[11]? = some (.int .i64 (j : Nat)) := qO.1.trans rfl
              clear qO qF
              go_simp
              exact hK _ _ (Below.refl _ _) rfl
            refine BOk.cons rfl [2] [] rfl rfl (by kernel_rfl) (by kernel_rfl) (fun qK qa wr hB qO qF hK => ?_) ?_
            · have e35 : qa.tmps[35]? = some (.int .i64 (j : Nat)) := fis qF.1 rfl rfl
              clear qO qF
              go_simp
              go_at_call 9
              refine (dec_any _ hjd _).mono ?_
              rintro e9 w9 ⟨rfl, hb9⟩
              exact hK _ _ hb9 rfl
            refine BOk.cons rfl [3] [] rfl rfl (by kernel_rfl) (by kernel_rfl) (fun qK qa wr hB qO qF hK => ?_) ?_
            · have e36 : qa.tmps[36]? = some (.string (bytes (Lib.itoa (j : Nat)))) := fis qF.1 rfl rfl
              clear qO qF
              have hcs := hjc
              have hce := cat_nm 102 j
              go_simp
              exact hK _ _ (Below.refl _ _) (by show (_ : Value) = _; first | rfl | exact congrArg Value.string hce)
            refine BOk.cons rfl [] [12] rfl rfl (by kernel_rfl) (by kernel_rfl) (fun qK qa wr hB qO qF hK => ?_) ?_
            · have e12 : qa.tmps[12]? = some (.int .i64 fk) := qO.1.trans rfl
              clear qO qF
              go_simp
              exact hK _ _ (Below.refl _ _) rfl
            refine BOk.cons rfl [4, 5] [] rfl rfl (by kernel_rfl) (by kernel_rfl) (fun qK qa wr hB qO qF hK => ?_) ?_
            · have e37 : qa.tmps[37]? = some (.string (nameN 102 j)) := fis qF.1 rfl rfl
              have e38 : qa.tmps[38]? = some (.int .i64 fk) := fis qF.2.1 rfl rfl
              clear qO qF
              go_simp
              exact hK _ _ (Below.refl _ _) (by first | rfl | (show (_ : Value) = _; simp; done))
            refine BOk.cons rfl [6] [] rfl rfl (by kernel_rfl) (by kernel_rfl) (fun qK qa wr hB qO qF hK => ?_) ?_
            · have e39 : qa.tmps[39]? = some (.agg #[.string (nameN 102 j), .int .i64 fk]) := fis qF.1 rfl rfl
              clear qO qF
              go_simp
              exact hK _ _ ((Below.refl _ _).alloc (Nat.le_refl _) _) ⟨_, rfl, Bk.new _ _ _⟩
            exact BOk.nil
          intro vals wr hl hB hR hS
          match vals, hl with
          | [z33, z34, z35, z36, z37, z38, z39, z40], _ =>
          have r1 : z34 = .slice A' j c' := hR 1 _ rfl
          subst r1
          obtain ⟨g40, r7, k40⟩ := (show ∃ g, z40 = .slice (some ⟨g, 0, none⟩) 1 1 ∧ Bk wr g 36 #[.string (nameN 102 j), .int .i64 fk] from hR 7 _ rfl)
          subst r7
          clear hS
          clear hR
          simp only [List.take_succ_cons, List.take_zero, List.drop_succ_cons, List.drop_zero, List.toList_toArray, List.cons_append, List.nil_append, putAll, Act.put, List.setIfInBounds_toArray, List.set_cons_zero, List.set_cons_succ]
          have hbz := hbi.trans (hB.mono hzi)
          have kx2 := kx.old hB
          have hown9 := own_old howni hB
          have hz9 := hB.size
          clear hB y1 hjc hjd kx howni hbi
          refine wpList_append_rd (by rfl) _ _ 32 (by rfl) (w2.heap.size + 1) 36 iF _ 2 24 Tryd.underlying32 hF hF0 hF1 hF2 rfl (by decide) (.slice A' j c') j _ (by rfl) hown9 wr.heap.size (some ⟨g40, 0, none⟩) 1 1 [.string (nameN 102 j), .int .i64 fk] (by rfl) (bk_rd k40) (by rfl) ?_ ?_ ?_ ?_ ?_
          · intro u hu; simp at hu; rcases hu with rfl | rfl <;> rfl
          · unfold maxLen; omega
          · omega
          · omega
          intro A3 c3 w3 hown3 hg3 hat
          have kx3 := kx2.grown hg3 (own_ne_bk hown9 kx2 (by decide))
          have hbw := below_own hbz hown9 (by omega) hg3 (by omega)
          have f1 := kx3.frozen 1
          have c1 := kx3.cell 1
          rw [← HNF.out] at hown3
          clear hg3 hat hown9 kx2 hbz k40
          go_wp2
          go_roundw
          case rel => exact ⟨j + 1, A3, c3, by omega, by go_num, hbw.setCell (by show w2.heap.size ≤ w2.heap.size; omega) _, kx3.put 1 _, own_set hown3 kx3 (by decide) 1 _⟩
          case measure => simp [intOf]; omega
        · as_aux_lemma =>
          obtain rfl : j = x.l.length := by omega
          rw [List.take_of_length_le (by simp [genF])] at howni
          have hbX := hbe2.trans (hbi.mono hbe2.size)
          have p0 := q0.old hbi
          have p1 := q1.old hbi
          have hownO := own_old hown2 hbi
          have hownN : wi.ownsRow (w.heap.size + 2) 36 2 (.slice A' x.l.length c') x.l.length ((genF x.l).flatMap FieldV.cells) := own_mono howni (by omega)
          have x0 := kx.cell 0
          have x1 := kx.cell 1
          have s0 := p1.cell 0
          have hzz := p1.lt
          have hzX := hbX.size
          have hgl := kx.lt
          go_wp2_with (at_builtin; refine wpList_append_rd (by rfl) _ _ 26 (by rfl) (w.heap.size + 2) 34 iT _ 2 40 Tryd.underlying26 hT hT0 hT1 hT2 rfl (by decide) (.slice A k c) k _ (by rfl) (hownO.alloc _) (wi.heap.size + 1) (some ⟨wi.heap.size, 0, none⟩) 1 1 [.string NM, .slice A' x.l.length c'] (by rfl) (Rd.lit rfl _ _) (by rfl) ?c2 ?c3 ?c4 ?c5 ?_)
          case c2 => intro u hu; simp at hu; rcases hu with rfl | rfl <;> rfl
          case c3 => unfold maxLen; omega
          case c4 => omega
          case c5 => simp; omega
          intro A3 c3 w3 hown3 hg3 hat
          have hfl : (genF x.l).length = x.l.length := by simp [genF]
          have a0 := p0.alloc (.cells #[.string NM, .slice A' x.l.length c'] 34)
          have a1 := p1.alloc (.cells #[.string NM, .slice A' x.l.length c'] 34)
          have aO := hownO.alloc (.cells #[.string NM, .slice A' x.l.length c'] 34)
          have t0 := a0.grown hg3 (own_ne_bk aO a0 (by decide))
          have t1 := a1.grown hg3 (own_ne_bk aO a1 (by decide))
          have hb9 : Below w.heap.size w w3 := below_own (hbX.alloc hzX _) (hownO.alloc _) (by omega) hg3 (by simp; omega)
          have HE3 : Hid (∀ t ∈ ts ++ [(⟨NM, A', c', genF x.l⟩ : TypeV)], w3.ownsRow (w.heap.size + 2) 36 2 (.slice t.fa t.fields.length t.fc) t.fields.length (t.fields.flatMap FieldV.cells)) := by
            refine Lib.hid fun t htt => ?_
            rcases List.mem_append.1 htt with htt | htt
            · exact own_keep ((own_old (HE2.out t htt) hbi).alloc _) (hownO.alloc _) (by decide) hg3
            · obtain rfl := List.mem_singleton.1 htt
              show w3.ownsRow (w.heap.size + 2) 36 2 (.slice A' (genF x.l).length c') (genF x.l).length ((genF x.l).flatMap FieldV.cells)
              rw [hfl]
              exact own_keep (hownN.alloc _) (hownO.alloc _) (by decide) hg3
          have hown4 : w3.ownsRow (w.heap.size + 2) 34 2 (.slice A3 (k + 1) c3) (k + 1) ((ts ++ [(⟨NM, A', c', genF x.l⟩ : TypeV)]).flatMap TypeV.cells) := by
            rw [List.flatMap_append]
            show w3.ownsRow (w.heap.size + 2) 34 2 (.slice A3 (k + 1) c3) (k + 1) (ts.flatMap TypeV.cells ++ [.string NM, .slice A' (genF x.l).length c'])
            rw [hfl]
            exact hown3
          have HS3 : Hid ((ts ++ [(⟨NM, A', c', genF x.l⟩ : TypeV)]).map sig = (genT (rows.map (·.l))).take (k + 1)) := Lib.hid (by rw [List.map_append, hsig.out, HNX.out]; rfl)
          have hf0 := t1.frozen 0
          have hc0 := t1.cell 0
          clear hg3 hat hown3 hownO hownN p0 p1 x0 x1 s0 hsig HNX HE2 hfl kx howni hbi hbX
          go_wp2
          go_roundw
          case rel =>
            refine ⟨k + 1, A3, c3, ts ++ [(⟨NM, A', c', genF x.l⟩ : TypeV)], by omega, by go_num, hb9.setCell (by show w.heap.size ≤ w.heap.size + 1; omega) _, t0.far (by simp) _, t1.put 0 _, own_set hown4 t1 (by decide) 0 _, HS3, Lib.hid fun t htt => own_set (HE3.out t htt) t1 (by decide) 0 _⟩
          case measure => simp [intOf]; omega
    · as_aux_lemma =>
      obtain rfl : k = rows.length := by omega
      rw [List.take_of_length_le (by simp [genT])] at hsig
      go_wp2_with fail
      go_loopw [13] (fun i wr => ∃ (m : Nat) (A2 : Option Addr) (c2 : Nat), m ≤ min n.toNat 65 ∧ i = .int .i64 m ∧ Below w.heap.size w wr ∧
          Bk wr w.heap.size 25 #[.int .i64 ety, .int .i64 etm, .slice eA eat.length ec] ∧
          Bk wr (w.heap.size + 1) 29 #[.slice A rows.length c, .slice A2 m c2] ∧
          wr.ownsRow (w.heap.size + 2) 34 2 (.slice A rows.length c) rows.length (ts.flatMap TypeV.cells) ∧
          Hid (∀ t ∈ ts, wr.ownsRow (w.heap.size + 2) 36 2 (.slice t.fa t.fields.length t.fc) t.fields.length (t.fields.flatMap FieldV.cells)) ∧
          wr.ownsRow (w.heap.size + 2) 9 1 (.slice A2 m c2) m ((namesN 115 m).map .string)) (fun i _ => 65 - (intOf i).toNat)
      case atStart => exact ⟨0, none, 0, Nat.zero_le _, rfl, hbel, kb0, kb1, hown, heach, World.ownsRow_nil _ _ _ _⟩
      case round =>
        clear hbel kb0 kb1 hown heach
        obtain ⟨m, A2, c2, hm, rfl, hbel, kb0, kb1, hown, heach, hownS⟩ := hrel
        obtain ⟨wm, rfl⟩ : ∃ wm : World, wm = wr := ⟨_, rfl⟩
        by_cases hn1 : (m : Int) < n
        · by_cases hn2 : m < 65
          · as_aux_lemma =>
            have y1 := kb1.cell 1
            have hmd : -9223372036854775808 ≤ (m : Int) ∧ (m : Int) ≤ 9223372036854775807 := by omega
            have hmc : ¬ 9223372036854775807 < 1 + (bytes (Lib.itoa (m : Int))).size := by rw [bytes_size]; have := itoa_len m (by omega); omega
            have hn2I : (m : Int) < 65 := by omega
            have hz1 := kb1.lt
            have hnx : (namesN 115 (m + 1)).map Value.string = (namesN 115 m).map Value.string ++ [.string (nameN 115 m)] := by unfold namesN; rw [List.range_succ, List.map_append, List.map_append]; rfl
            have HNX := Lib.hid hnx
            clear hnx
            go_wp2_with fail
            refine wp_region_t 6 (fun k => false) (by kernel_rfl) (fun qk => (efR16 m A2 c2 w).getD qk .any) (by kernel_rfl) ?_ ?_
            · refine BOk.cons rfl [] [7] rfl rfl (by kernel_rfl) (by kernel_rfl) (fun qK qa wr hB qO qF hK => ?_) ?_
              · have e7 : qa.tmps[7]? = some (.pointer (some ⟨w.heap.size + 1, 0, none⟩)) := qO.1.trans rfl
                clear qO qF
                go_simp
                exact hK _ _ (Below.refl _ _) rfl
              refine BOk.cons rfl [0] [] rfl rfl (by kernel_rfl) (by kernel_rfl) (fun qK qa wr hB qO qF hK => ?_) ?_
              · have e60 : qa.tmps[60]? = some (.pointer (some ⟨w.heap.size + 1, 1, none⟩)) := fis qF.1 rfl rfl
                clear qO qF
                have hy1 := (bcell hB _ _ (World.block_lt_of_cell? _ _ y1)).trans y1
                go_simp
                exact hK _ _ (Below.refl _ _) rfl
              refine BOk.cons rfl [] [13] rfl rfl (by kernel_rfl) (by kernel_rfl) (fun qK qa wr hB qO qF hK => ?_) ?_
              · have e13 : qa.tmps[13]? = some (.int .i64 (m : Nat)) := qO.1.trans rfl
                clear qO qF
                go_simp
                exact hK _ _ (Below.refl _ _) rfl
              refine BOk.cons rfl [2] [] rfl rfl (by kernel_rfl) (by kernel_rfl) (fun qK qa wr hB qO qF hK => ?_) ?_
              · have e62 : qa.tmps[62]? = some (.int .i64 (m : Nat)) := fis qF.1 rfl rfl
                clear qO qF
                go_simp
                go_at_call 9
                refine (dec_any _ hmd _).mono ?_
                rintro e9 w9 ⟨rfl, hb9⟩
                exact hK _ _ hb9 rfl
              refine BOk.cons rfl [3] [] rfl rfl (by kernel_rfl) (by kernel_rfl) (fun qK qa wr hB qO qF hK => ?_) ?_
              · have e63 : qa.tmps[63]? = some (.string (bytes (Lib.itoa (m : Nat)))) := fis qF.1 rfl rfl
                clear qO qF
                have hcs := hmc
                have hce := cat_nm 115 m
                go_simp
                exact hK _ _ (Below.refl _ _) (by show (_ : Value) = _; first | rfl | exact congrArg Value.string hce)
              refine BOk.cons rfl [4] [] rfl rfl (by kernel_rfl) (by kernel_rfl) (fun qK qa wr hB qO qF hK => ?_) ?_
              · have e64 : qa.tmps[64]? = some (.string (nameN 115 m)) := fis qF.1 rfl rfl
                clear qO qF
                go_simp
                exact hK _ _ ((Below.refl _ _).alloc (Nat.le_refl _) _) ⟨_, rfl, Bk.new _ _ _⟩
              exact BOk.nil
            intro vals wr hl hB hR hS
            match vals, hl with
            | [z60, z61, z62, z63, z64, z65], _ =>
            have r1 : z61 = .slice A2 m c2 := hR 1 _ rfl
            subst r1
            obtain ⟨g65, r5, k65⟩ := (show ∃ g, z65 = .slice (some ⟨g, 0, none⟩) 1 1 ∧ Bk wr g 9 #[.string (nameN 115 m)] from hR 5 _ rfl)
            subst r5
            clear hS
            clear hR
            simp only [List.take_succ_cons, List.take_zero, List.drop_succ_cons, List.drop_zero, List.toList_toArray, List.cons_append, List.nil_append, putAll, Act.put, List.setIfInBounds_toArray, List.set_cons_zero, List.set_cons_succ]
            have hbz := hbel.trans (hB.mono hbel.size)
            have q0 := kb0.old hB
            have q1 := kb1.old hB
            have o1 := own_old hown hB
            have o3 := own_old hownS hB
            have HE9 : Hid (∀ t ∈ ts, wr.ownsRow (w.heap.size + 2) 36 2 (.slice t.fa t.fields.length t.fc) t.fields.length (t.fields.flatMap FieldV.cells)) := Lib.hid fun t ht => own_old (heach.out t ht) hB
            have hz9 := q1.lt
            clear hB y1 hmd hmc hbel kb0 kb1 hown hownS heach
            refine wpList_append_rd (by rfl) _ _ 27 (by rfl) (w.heap.size + 2) 9 iS _ 1 16 Tryd.underlying27 hS hS0 hS1 hS2 rfl (by decide) (.slice A2 m c2) m _ (by rfl) o3 wr.heap.size (some ⟨g65, 0, none⟩) 1 1 [.string (nameN 115 m)] (by rfl) (bk_rd k65) (by rfl) ?_ ?_ ?_ ?_ ?_
            · intro u hu; simp at hu; rcases hu with rfl; rfl
            · unfold maxLen; omega
            · omega
            · omega
            intro A3 c3 w3 hown3 hg3 hat
            have t0 := q0.grown hg3 (own_ne_bk o3 q0 (by decide))
            have t1 := q1.grown hg3 (own_ne_bk o3 q1 (by decide))
            have hb9 := below_own hbz o3 (by omega) hg3 (by have := hbz.size; omega)
            have o1' := own_keep o1 o3 (by decide) hg3
            have HE8 : Hid (∀ t ∈ ts, w3.ownsRow (w.heap.size + 2) 36 2 (.slice t.fa t.fields.length t.fc) t.fields.length (t.fields.flatMap FieldV.cells)) := Lib.hid fun t ht => own_keep (HE9.out t ht) o3 (by decide) hg3
            rw [← HNX.out] at hown3
            have f1 := t1.frozen 1
            have c1 := t1.cell 1
            clear hg3 hat o1 o3 q0 q1 hbz k65 HE9
            go_wp2
            go_roundw
            case rel =>
              exact ⟨m + 1, A3, c3, by omega, by go_num, hb9.setCell (by show w.heap.size ≤ w.heap.size + 1; omega) _, t0.far (by simp) _, t1.put 1 _, own_set o1' t1 (by decide) 1 _, Lib.hid fun t ht => own_set (HE8.out t ht) t1 (by decide) 1 _, own_set hown3 t1 (by decide) 1 _⟩
            case measure => simp [intOf]; omega
          · as_aux_lemma =>
            have hn2I : ¬ (m : Int) < 65 := by omega
            have hn0 : 0 ≤ n := by omega
            have hm65 : m = min n.toNat 65 := by omega
            obtain ⟨hsok, hlts⟩ := gen_ok (by simpa using hl) HRK.out hsig.out (by simpa using hown) heach.out hownS (by omega)
            have hgy : namesN 115 m = genY n := by rw [hm65]; rfl
            have HFG := Lib.hid (show fitsB (rows.map (·.l)) n (ety, etm, eat) = validB (genT (rows.map (·.l))) (genY n) (ety, etm, eat) from by rw [fits_gen, decide_eq_true hn0, Bool.true_and])
            have HLT := Lib.hid hlts
            have HRD := Lib.hid ((HR0.out.below hbel).more hbel.size)
            have HRO : Hid (∀ r ∈ rows, r.ok wm wm.heap.size) := Lib.hid fun r hr => (HRO0.out r hr).1.old hbel
            have HT := Lib.hid (HT0.out.old hbel)
            have hek := HE0.out.old hbel
            have HTE : Hid (∀ wr, Below wm.heap.size wm wr → Calls Tryd.prog 12 #[.agg #[.int .i64 ety, .int .i64 etm, .slice eA eat.length ec]] wr fun r w' => ∃ v, r = .returned v ∧ EvAt (ety, etm, eat) v w' ∧ Below wr.heap.size wr w') := Lib.hid fun wr hB => eTo_any _ wr (hek.old hB)
            have hvv : ∀ wr, Below wm.heap.size wm wr → Calls Tryd.prog 13 #[.agg #[.slice A rows.length c, .slice A2 m c2], .agg #[.int .i64 ety, .int .i64 etm, .slice eA eat.length ec]] wr fun r w' => r = .returned (.bool (validB (genT (rows.map (·.l))) (genY n) (ety, etm, eat))) ∧ Below wr.heap.size wr w' := by
              intro wr hB
              have h := rvalid_any ⟨A, c, ts, A2, c2, namesN 115 m⟩ ⟨ety, etm, eA, ec, eat⟩ wr (hsok.old hB) (hek.old hB)
              simp only [SchemaV.val, EventV.val] at h
              rw [hsig.out, hgy, genY_len, ← hm65, hlts, List.length_map] at h
              exact h
            have HVV := Lib.hid hvv
            have x0 := kb0.cell 0
            have x1 := kb0.cell 1
            have x2 := kb0.cell 2
            have s0 := kb1.cell 0
            have s1 := kb1.cell 1
            clear hsok hgy hlts hek hvv kb0 kb1 hown hownS hm65 hm
            go_upto_region 17 with fail
            refine wp_region_s (fun qk => (efR17a rows KA kc n ety etm eA ec eat A A2 c c2 m w).getD qk .any) (by kernel_rfl) ?_ ?_
            · refine BOk.cons rfl [] [] rfl rfl (by kernel_rfl) (by kernel_rfl) (fun qK qa wr hB qO qF hK => ?_) ?_
              · clear qO qF
                go_simp
                go_at_call 10
                refine (awake_any _ (HT.out.old hB)).mono ?_
                rintro e9 w9 ⟨rfl, hb9⟩
                exact hK _ _ hb9 rfl
              refine BOk.cons rfl [0] [] rfl rfl (by kernel_rfl) (by kernel_rfl) (fun qK qa wr hB qO qF hK => ?_) ?_
              · have e68 : qa.tmps[68]? = some (.bool true) := fis qF.1 rfl rfl
                clear qO qF
                go_simp
                exact hK _ _ (Below.refl _ _) (by first | rfl | (show (_ : Value) = _; simp_all; done))
              refine BOk.yes rfl [] [0] rfl 1 true rfl rfl rfl (by kernel_rfl) (by kernel_rfl) (by kernel_rfl) (fun qK qa wr hB qO qF hK => ?_) ?_
              · have e0 : qa.tmps[0]? = some (.slice KA rows.length kc) := qO.1.trans rfl
                clear qO qF
                go_simp
                exact hK _ _ (Below.refl _ _) rfl
              refine BOk.yes rfl [] [1] rfl 1 true rfl rfl rfl (by kernel_rfl) (by kernel_rfl) (by kernel_rfl) (fun qK qa wr hB qO qF hK => ?_) ?_
              · have e1 : qa.tmps[1]? = some (.int .i64 n) := qO.1.trans rfl
                clear qO qF
                go_simp
                exact hK _ _ (Below.refl _ _) rfl
              refine BOk.yes rfl [] [5] rfl 1 true rfl rfl rfl (by kernel_rfl) (by kernel_rfl) (by kernel_rfl) (fun qK qa wr hB qO qF hK => ?_) ?_
              · have e5 : qa.tmps[5]? = some (.pointer (some ⟨w.heap.size, 0, none⟩)) := qO.1.trans rfl
                clear qO qF
                have hx0 := (bcell hB _ _ (World.block_lt_of_cell? _ _ x0)).trans x0
                have hx1 := (bcell hB _ _ (World.block_lt_of_cell? _ _ x1)).trans x1
                have hx2 := (bcell hB _ _ (World.block_lt_of_cell? _ _ x2)).trans x2
                go_simp
                exact hK _ _ (Below.refl _ _) rfl
              refine BOk.yes rfl [4] [] rfl 1 true rfl rfl rfl (by kernel_rfl) (by kernel_rfl) (by kernel_rfl) (fun qK qa wr hB qO qF hK => ?_) ?_
              · have e72 : qa.tmps[72]? = some (.agg #[.int .i64 ety, .int .i64 etm, .slice eA eat.length ec]) := fis qF.1 rfl rfl
                clear qO qF
                go_simp
                go_at_call 12
                refine (HTE.out _ hB).mono ?_
                rintro e9 w9 ⟨v9, rfl, hat, hb9⟩
                exact hK _ _ hb9 hat
              refine BOk.yes rfl [2, 3, 5] [] rfl 1 true rfl rfl rfl (by kernel_rfl) (by kernel_rfl) (by kernel_rfl) (fun qK qa wr hB qO qF hK => ?_) ?_
              · have e70 : qa.tmps[70]? = some (.slice KA rows.length kc) := fis qF.1 rfl rfl
                have e71 : qa.tmps[71]? = some (.int .i64 n) := fis qF.2.1 rfl rfl
                obtain ⟨u73, e73, r5⟩ := qF.2.2.1
                obtain ⟨q73, h73, he73, hx73⟩ := (show EvAt _ u73 wr from r5)
                subst h73
                have e73 : qa.tmps[73]? = some q73.val := e73
                clear qO qF
                go_simp
                go_at_call 11
                refine (pfits_any rows KA kc n q73 wr ((HRD.out.below hB).more hB.size) (fun r hr => (HRO.out r hr).old hB) he73).mono ?_
                rw [hx73]
                rintro e9 w9 ⟨rfl, hb9⟩
                exact hK _ _ hb9 rfl
              refine BOk.yes rfl [] [1] rfl 1 true rfl rfl rfl (by kernel_rfl) (by kernel_rfl) (by kernel_rfl) (fun qK qa wr hB qO qF hK => ?_) ?_
              · have e1 : qa.tmps[1]? = some (.int .i64 n) := qO.1.trans rfl
                clear qO qF
                go_simp
                exact hK _ _ (Below.refl _ _) rfl
              refine BOk.yes rfl [7] [] rfl 1 true rfl rfl rfl (by kernel_rfl) (by kernel_rfl) (by kernel_rfl) (fun qK qa wr hB qO qF hK => ?_) ?_
              · have e75 : qa.tmps[75]? = some (.int .i64 n) := fis qF.1 rfl rfl
                clear qO qF
                go_simp
                exact hK _ _ (Below.refl _ _) (by show (_ : Value) = _; first | rfl | (simp; omega) | (simp_all; done))
              refine BOk.yes rfl [8] [] rfl 1 true rfl rfl rfl (by kernel_rfl) (by kernel_rfl) (by kernel_rfl) (fun qK qa wr hB qO qF hK => ?_) ?_
              · have e76 : qa.tmps[76]? = some (.bool true) := fis qF.1 rfl rfl
                clear qO qF
                go_simp
                exact hK _ _ (Below.refl _ _) (by first | rfl | (show (_ : Value) = _; simp_all; done))
              refine BOk.yes rfl [] [7] rfl 9 true rfl rfl rfl (by kernel_rfl) (by kernel_rfl) (by kernel_rfl) (fun qK qa wr hB qO qF hK => ?_) ?_
              · have e7 : qa.tmps[7]? = some (.pointer (some ⟨w.heap.size + 1, 0, none⟩)) := qO.1.trans rfl
                clear qO qF
                have hs0 := (bcell hB _ _ (World.block_lt_of_cell? _ _ s0)).trans s0
                have hs1 := (bcell hB _ _ (World.block_lt_of_cell? _ _ s1)).trans s1
                go_simp
                exact hK _ _ (Below.refl _ _) rfl
              refine BOk.yes rfl [] [5] rfl 9 true rfl rfl rfl (by kernel_rfl) (by kernel_rfl) (by kernel_rfl) (fun qK qa wr hB qO qF hK => ?_) ?_
              · have e5 : qa.tmps[5]? = some (.pointer (some ⟨w.heap.size, 0, none⟩)) := qO.1.trans rfl
                clear qO qF
                have hx0 := (bcell hB _ _ (World.block_lt_of_cell? _ _ x0)).trans x0
                have hx1 := (bcell hB _ _ (World.block_lt_of_cell? _ _ x1)).trans x1
                have hx2 := (bcell hB _ _ (World.block_lt_of_cell? _ _ x2)).trans x2
                go_simp
                exact hK _ _ (Below.refl _ _) rfl
              refine BOk.yes rfl [10, 11] [] rfl 9 true rfl rfl rfl (by kernel_rfl) (by kernel_rfl) (by kernel_rfl) (fun qK qa wr hB qO qF hK => ?_) ?_
              · have e78 : qa.tmps[78]? = some (.agg #[.slice A rows.length c, .slice A2 m c2]) := fis qF.1 rfl rfl
                have e79 : qa.tmps[79]? = some (.agg #[.int .i64 ety, .int .i64 etm, .slice eA eat.length ec]) := fis qF.2.1 rfl rfl
                clear qO qF
                go_simp
                go_at_call 13
                refine (HVV.out _ hB).mono ?_
                rintro e9 w9 ⟨rfl, hb9⟩
                exact hK _ _ hb9 rfl
              refine BOk.yes rfl [9, 12] [] rfl 1 true rfl rfl rfl (by kernel_rfl) (by kernel_rfl) (by kernel_rfl) (fun qK qa wr hB qO qF hK => ?_) ?_
              · have e77 : qa.tmps[77]? = some (.bool true) := fis qF.1 rfl rfl
                have e80 : qa.tmps[80]? = some (.bool (validB (genT (rows.map (·.l))) (genY n) (ety, etm, eat))) := fis qF.2.1 rfl rfl
                clear qO qF
                go_simp
                refine hK _ _ (Below.refl _ _) ?_
                show (_ : Value) = _
                first | rfl | (simp; done) | (simp; omega)
              refine BOk.yes rfl [6, 13] [] rfl 1 true rfl rfl rfl (by kernel_rfl) (by kernel_rfl) (by kernel_rfl) (fun qK qa wr hB qO qF hK => ?_) ?_
              · have e74 : qa.tmps[74]? = some (.bool (fitsB (rows.map (·.l)) n (ety, etm, eat))) := fis qF.1 rfl rfl
                have e81 : qa.tmps[81]? = some (.bool (validB (genT (rows.map (·.l))) (genY n) (ety, etm, eat))) := fis qF.2.1 rfl rfl
                clear qO qF
                rw [HFG.out] at e74
                go_simp
                exact hK _ _ (Below.refl _ _) (by show (_ : Value) = _; first | rfl | (simp; done))
              refine BOk.cons rfl [1, 14] [] rfl rfl (by kernel_rfl) (by kernel_rfl) (fun qK qa wr hB qO qF hK => ?_) ?_
              · have e69 : qa.tmps[69]? = some (.bool true) := fis qF.1 rfl rfl
                have e82 : qa.tmps[82]? = some (.bool true) := fis qF.2.1 rfl rfl
                clear qO qF
                go_simp
                refine hK _ _ (Below.refl _ _) ?_
                show (_ : Value) = _
                first | rfl | (simp; done) | (simp; omega)
              refine BOk.cons rfl [15] [] rfl rfl (by kernel_rfl) (by kernel_rfl) (fun qK qa wr hB qO qF hK => ?_) ?_
              · have e83 : qa.tmps[83]? = some (.bool true) := fis qF.1 rfl rfl
                clear qO qF
                go_simp
                exact hK _ _ (Below.refl _ _) (by first | rfl | (show (_ : Value) = _; simp_all; done))
              exact BOk.nil
            intro vals wr hl hB hR
            match vals, hl with
            | [t68, t69, t70, t71, t72, t73, t74, t75, t76, t77, t78, t79, t80, t81, t82, t83, t6], _ =>
            have r16 : t6 = .bool true := hR 16 _ rfl
            subst r16
            clear hR
            simp only [List.cons_append, List.nil_append, putAll, Act.put, List.setIfInBounds_toArray, List.set_cons_zero, List.set_cons_succ]
            have hfin := hbel.trans (hB.mono hbel.size)
            clear hB
            go_wp2
            go_ret
            exact ⟨rfl, hfin⟩
        · by_cases hn0 : 0 ≤ n
          · as_aux_lemma =>
            have hm65 : m = min n.toNat 65 := by omega
            obtain ⟨hsok, hlts⟩ := gen_ok (by simpa using hl) HRK.out hsig.out (by simpa using hown) heach.out hownS (by omega)
            have hgy : namesN 115 m = genY n := by rw [hm65]; rfl
            have HFG := Lib.hid (show fitsB (rows.map (·.l)) n (ety, etm, eat) = validB (genT (rows.map (·.l))) (genY n) (ety, etm, eat) from by rw [fits_gen, decide_eq_true hn0, Bool.true_and])
            have HLT := Lib.hid hlts
            have HRD := Lib.hid ((HR0.out.below hbel).more hbel.size)
            have HRO : Hid (∀ r ∈ rows, r.ok wm wm.heap.size) := Lib.hid fun r hr => (HRO0.out r hr).1.old hbel
            have HT := Lib.hid (HT0.out.old hbel)
            have hek := HE0.out.old hbel
            have HTE : Hid (∀ wr, Below wm.heap.size wm wr → Calls Tryd.prog 12 #[.agg #[.int .i64 ety, .int .i64 etm, .slice eA eat.length ec]] wr fun r w' => ∃ v, r = .returned v ∧ EvAt (ety, etm, eat) v w' ∧ Below wr.heap.size wr w') := Lib.hid fun wr hB => eTo_any _ wr (hek.old hB)
            have hvv : ∀ wr, Below wm.heap.size wm wr → Calls Tryd.prog 13 #[.agg #[.slice A rows.length c, .slice A2 m c2], .agg #[.int .i64 ety, .int .i64 etm, .slice eA eat.length ec]] wr fun r w' => r = .returned (.bool (validB (genT (rows.map (·.l))) (genY n) (ety, etm, eat))) ∧ Below wr.heap.size wr w' := by
              intro wr hB
              have h := rvalid_any ⟨A, c, ts, A2, c2, namesN 115 m⟩ ⟨ety, etm, eA, ec, eat⟩ wr (hsok.old hB) (hek.old hB)
              simp only [SchemaV.val, EventV.val] at h
              rw [hsig.out, hgy, genY_len, ← hm65, hlts, List.length_map] at h
              exact h
            have HVV := Lib.hid hvv
            have x0 := kb0.cell 0
            have x1 := kb0.cell 1
            have x2 := kb0.cell 2
            have s0 := kb1.cell 0
            have s1 := kb1.cell 1
            clear hsok hgy hlts hek hvv kb0 kb1 hown hownS hm65 hm
            go_upto_region 17 with fail
            refine wp_region_s (fun qk => (efR17a rows KA kc n ety etm eA ec eat A A2 c c2 m w).getD qk .any) (by kernel_rfl) ?_ ?_
            · refine BOk.cons rfl [] [] rfl rfl (by kernel_rfl) (by kernel_rfl) (fun qK qa wr hB qO qF hK => ?_) ?_
              · clear qO qF
                go_simp
                go_at_call 10
                refine (awake_any _ (HT.out.old hB)).mono ?_
                rintro e9 w9 ⟨rfl, hb9⟩
                exact hK _ _ hb9 rfl
              refine BOk.cons rfl [0] [] rfl rfl (by kernel_rfl) (by kernel_rfl) (fun qK qa wr hB qO qF hK => ?_) ?_
              · have e68 : qa.tmps[68]? = some (.bool true) := fis qF.1 rfl rfl
                clear qO qF
                go_simp
                exact hK _ _ (Below.refl _ _) (by first | rfl | (show (_ : Value) = _; simp_all; done))
              refine BOk.yes rfl [] [0] rfl 1 true rfl rfl rfl (by kernel_rfl) (by kernel_rfl) (by kernel_rfl) (fun qK qa wr hB qO qF hK => ?_) ?_
              · have e0 : qa.tmps[0]? = some (.slice KA rows.length kc) := qO.1.trans rfl
                clear qO qF
                go_simp
                exact hK _ _ (Below.refl _ _) rfl
              refine BOk.yes rfl [] [1] rfl 1 true rfl rfl rfl (by kernel_rfl) (by kernel_rfl) (by kernel_rfl) (fun qK qa wr hB qO qF hK => ?_) ?_
              · have e1 : qa.tmps[1]? = some (.int .i64 n) := qO.1.trans rfl
                clear qO qF
                go_simp
                exact hK _ _ (Below.refl _ _) rfl
              refine BOk.yes rfl [] [5] rfl 1 true rfl rfl rfl (by kernel_rfl) (by kernel_rfl) (by kernel_rfl) (fun qK qa wr hB qO qF hK => ?_) ?_
              · have e5 : qa.tmps[5]? = some (.pointer (some ⟨w.heap.size, 0, none⟩)) := qO.1.trans rfl
                clear qO qF
                have hx0 := (bcell hB _ _ (World.block_lt_of_cell? _ _ x0)).trans x0
                have hx1 := (bcell hB _ _ (World.block_lt_of_cell? _ _ x1)).trans x1
                have hx2 := (bcell hB _ _ (World.block_lt_of_cell? _ _ x2)).trans x2
                go_simp
                exact hK _ _ (Below.refl _ _) rfl
              refine BOk.yes rfl [4] [] rfl 1 true rfl rfl rfl (by kernel_rfl) (by kernel_rfl) (by kernel_rfl) (fun qK qa wr hB qO qF hK => ?_) ?_
              · have e72 : qa.tmps[72]? = some (.agg #[.int .i64 ety, .int .i64 etm, .slice eA eat.length ec]) := fis qF.1 rfl rfl
                clear qO qF
                go_simp
                go_at_call 12
                refine (HTE.out _ hB).mono ?_
                rintro e9 w9 ⟨v9, rfl, hat, hb9⟩
                exact hK _ _ hb9 hat
              refine BOk.yes rfl [2, 3, 5] [] rfl 1 true rfl rfl rfl (by kernel_rfl) (by kernel_rfl) (by kernel_rfl) (fun qK qa wr hB qO qF hK => ?_) ?_
              · have e70 : qa.tmps[70]? = some (.slice KA rows.length kc) := fis qF.1 rfl rfl
                have e71 : qa.tmps[71]? = some (.int .i64 n) := fis qF.2.1 rfl rfl
                obtain ⟨u73, e73, r5⟩ := qF.2.2.1
                obtain ⟨q73, h73, he73, hx73⟩ := (show EvAt _ u73 wr from r5)
                subst h73
                have e73 : qa.tmps[73]? = some q73.val := e73
                clear qO qF
                go_simp
                go_at_call 11
                refine (pfits_any rows KA kc n q73 wr ((HRD.out.below hB).more hB.size) (fun r hr => (HRO.out r hr).old hB) he73).mono ?_
                rw [hx73]
                rintro e9 w9 ⟨rfl, hb9⟩
                exact hK _ _ hb9 rfl
              refine BOk.yes rfl [] [1] rfl 1 true rfl rfl rfl (by kernel_rfl) (by kernel_rfl) (by kernel_rfl) (fun qK qa wr hB qO qF hK => ?_) ?_
              · have e1 : qa.tmps[1]? = some (.int .i64 n) := qO.1.trans rfl
                clear qO qF
                go_simp
                exact hK _ _ (Below.refl _ _) rfl
              refine BOk.yes rfl [7] [] rfl 1 true rfl rfl rfl (by kernel_rfl) (by kernel_rfl) (by kernel_rfl) (fun qK qa wr hB qO qF hK => ?_) ?_
              · have e75 : qa.tmps[75]? = some (.int .i64 n) := fis qF.1 rfl rfl
                clear qO qF
                go_simp
                exact hK _ _ (Below.refl _ _) (by show (_ : Value) = _; first | rfl | (simp; omega) | (simp_all; done))
              refine BOk.yes rfl [8] [] rfl 1 true rfl rfl rfl (by kernel_rfl) (by kernel_rfl) (by kernel_rfl) (fun qK qa wr hB qO qF hK => ?_) ?_
              · have e76 : qa.tmps[76]? = some (.bool true) := fis qF.1 rfl rfl
                clear qO qF
                go_simp
                exact hK _ _ (Below.refl _ _) (by first | rfl | (show (_ : Value) = _; simp_all; done))
              refine BOk.yes rfl [] [7] rfl 9 true rfl rfl rfl (by kernel_rfl) (by kernel_rfl) (by kernel_rfl) (fun qK qa wr hB qO qF hK => ?_) ?_
              · have e7 : qa.tmps[7]? = some (.pointer (some ⟨w.heap.size + 1, 0, none⟩)) := qO.1.trans rfl
                clear qO qF
                have hs0 := (bcell hB _ _ (World.block_lt_of_cell? _ _ s0)).trans s0
                have hs1 := (bcell hB _ _ (World.block_lt_of_cell? _ _ s1)).trans s1
                go_simp
                exact hK _ _ (Below.refl _ _) rfl
              refine BOk.yes rfl [] [5] rfl 9 true rfl rfl rfl (by kernel_rfl) (by kernel_rfl) (by kernel_rfl) (fun qK qa wr hB qO qF hK => ?_) ?_
              · have e5 : qa.tmps[5]? = some (.pointer (some ⟨w.heap.size, 0, none⟩)) := qO.1.trans rfl
                clear qO qF
                have hx0 := (bcell hB _ _ (World.block_lt_of_cell? _ _ x0)).trans x0
                have hx1 := (bcell hB _ _ (World.block_lt_of_cell? _ _ x1)).trans x1
                have hx2 := (bcell hB _ _ (World.block_lt_of_cell? _ _ x2)).trans x2
                go_simp
                exact hK _ _ (Below.refl _ _) rfl
              refine BOk.yes rfl [10, 11] [] rfl 9 true rfl rfl rfl (by kernel_rfl) (by kernel_rfl) (by kernel_rfl) (fun qK qa wr hB qO qF hK => ?_) ?_
              · have e78 : qa.tmps[78]? = some (.agg #[.slice A rows.length c, .slice A2 m c2]) := fis qF.1 rfl rfl
                have e79 : qa.tmps[79]? = some (.agg #[.int .i64 ety, .int .i64 etm, .slice eA eat.length ec]) := fis qF.2.1 rfl rfl
                clear qO qF
                go_simp
                go_at_call 13
                refine (HVV.out _ hB).mono ?_
                rintro e9 w9 ⟨rfl, hb9⟩
                exact hK _ _ hb9 rfl
              refine BOk.yes rfl [9, 12] [] rfl 1 true rfl rfl rfl (by kernel_rfl) (by kernel_rfl) (by kernel_rfl) (fun qK qa wr hB qO qF hK => ?_) ?_
              · have e77 : qa.tmps[77]? = some (.bool true) := fis qF.1 rfl rfl
                have e80 : qa.tmps[80]? = some (.bool (validB (genT (rows.map (·.l))) (genY n) (ety, etm, eat))) := fis qF.2.1 rfl rfl
                clear qO qF
                go_simp
                refine hK _ _ (Below.refl _ _) ?_
                show (_ : Value) = _
                first | rfl | (simp; done) | (simp; omega)
              refine BOk.yes rfl [6, 13] [] rfl 1 true rfl rfl rfl (by kernel_rfl) (by kernel_rfl) (by kernel_rfl) (fun qK qa wr hB qO qF hK => ?_) ?_
              · have e74 : qa.tmps[74]? = some (.bool (fitsB (rows.map (·.l)) n (ety, etm, eat))) := fis qF.1 rfl rfl
                have e81 : qa.tmps[81]? = some (.bool (validB (genT (rows.map (·.l))) (genY n) (ety, etm, eat))) := fis qF.2.1 rfl rfl
                clear qO qF
                rw [HFG.out] at e74
                go_simp
                exact hK _ _ (Below.refl _ _) (by show (_ : Value) = _; first | rfl | (simp; done))
              refine BOk.cons rfl [1, 14] [] rfl rfl (by kernel_rfl) (by kernel_rfl) (fun qK qa wr hB qO qF hK => ?_) ?_
              · have e69 : qa.tmps[69]? = some (.bool true) := fis qF.1 rfl rfl
                have e82 : qa.tmps[82]? = some (.bool true) := fis qF.2.1 rfl rfl
                clear qO qF
                go_simp
                refine hK _ _ (Below.refl _ _) ?_
                show (_ : Value) = _
                first | rfl | (simp; done) | (simp; omega)
              refine BOk.cons rfl [15] [] rfl rfl (by kernel_rfl) (by kernel_rfl) (fun qK qa wr hB qO qF hK => ?_) ?_
              · have e83 : qa.tmps[83]? = some (.bool true) := fis qF.1 rfl rfl
                clear qO qF
                go_simp
                exact hK _ _ (Below.refl _ _) (by first | rfl | (show (_ : Value) = _; simp_all; done))
              exact BOk.nil
            intro vals wr hl hB hR
            match vals, hl with
            | [t68, t69, t70, t71, t72, t73, t74, t75, t76, t77, t78, t79, t80, t81, t82, t83, t6], _ =>
            have r16 : t6 = .bool true := hR 16 _ rfl
            subst r16
            clear hR
            simp only [List.cons_append, List.nil_append, putAll, Act.put, List.setIfInBounds_toArray, List.set_cons_zero, List.set_cons_succ]
            have hfin := hbel.trans (hB.mono hbel.size)
            clear hB
            go_wp2
            go_ret
            exact ⟨rfl, hfin⟩
          · as_aux_lemma =>
            have hm65 : m = min n.toNat 65 := by omega
            obtain ⟨hsok, hlts⟩ := gen_ok (by simpa using hl) HRK.out hsig.out (by simpa using hown) heach.out hownS (by omega)
            have hgy : namesN 115 m = genY n := by rw [hm65]; rfl
            have HFG := Lib.hid (show fitsB (rows.map (·.l)) n (ety, etm, eat) = false from by rw [fits_gen, decide_eq_false hn0, Bool.false_and])
            have HLT := Lib.hid hlts
            have HRD := Lib.hid ((HR0.out.below hbel).more hbel.size)
            have HRO : Hid (∀ r ∈ rows, r.ok wm wm.heap.size) := Lib.hid fun r hr => (HRO0.out r hr).1.old hbel
            have HT := Lib.hid (HT0.out.old hbel)
            have hek := HE0.out.old hbel
            have HTE : Hid (∀ wr, Below wm.heap.size wm wr → Calls Tryd.prog 12 #[.agg #[.int .i64 ety, .int .i64 etm, .slice eA eat.length ec]] wr fun r w' => ∃ v, r = .returned v ∧ EvAt (ety, etm, eat) v w' ∧ Below wr.heap.size wr w') := Lib.hid fun wr hB => eTo_any _ wr (hek.old hB)
            have hvv : ∀ wr, Below wm.heap.size wm wr → Calls Tryd.prog 13 #[.agg #[.slice A rows.length c, .slice A2 m c2], .agg #[.int .i64 ety, .int .i64 etm, .slice eA eat.length ec]] wr fun r w' => r = .returned (.bool (validB (genT (rows.map (·.l))) (genY n) (ety, etm, eat))) ∧ Below wr.heap.size wr w' := by
              intro wr hB
              have h := rvalid_any ⟨A, c, ts, A2, c2, namesN 115 m⟩ ⟨ety, etm, eA, ec, eat⟩ wr (hsok.old hB) (hek.old hB)
              simp only [SchemaV.val, EventV.val] at h
              rw [hsig.out, hgy, genY_len, ← hm65, hlts, List.length_map] at h
              exact h
            have HVV := Lib.hid hvv
            have x0 := kb0.cell 0
            have x1 := kb0.cell 1
            have x2 := kb0.cell 2
            have s0 := kb1.cell 0
            have s1 := kb1.cell 1
            clear hsok hgy hlts hek hvv kb0 kb1 hown hownS hm65 hm
            go_upto_region 17 with fail
            refine wp_region_s (fun qk => (efR17b rows KA kc n ety etm eA ec eat A A2 c c2 m w).getD qk .any) (by kernel_rfl) ?_ ?_
            · refine BOk.cons rfl [] [] rfl rfl (by kernel_rfl) (by kernel_rfl) (fun qK qa wr hB qO qF hK => ?_) ?_
              · clear qO qF
                go_simp
                go_at_call 10
                refine (awake_any _ (HT.out.old hB)).mono ?_
                rintro e9 w9 ⟨rfl, hb9⟩
                exact hK _ _ hb9 rfl
              refine BOk.cons rfl [0] [] rfl rfl (by kernel_rfl) (by kernel_rfl) (fun qK qa wr hB qO qF hK => ?_) ?_
              · have e68 : qa.tmps[68]? = some (.bool true) := fis qF.1 rfl rfl
                clear qO qF
                go_simp
                exact hK _ _ (Below.refl _ _) (by first | rfl | (show (_ : Value) = _; simp_all; done))
              refine BOk.yes rfl [] [0] rfl 1 true rfl rfl rfl (by kernel_rfl) (by kernel_rfl) (by kernel_rfl) (fun qK qa wr hB qO qF hK => ?_) ?_
              · have e0 : qa.tmps[0]? = some (.slice KA rows.length kc) := qO.1.trans rfl
                clear qO qF
                go_simp
                exact hK _ _ (Below.refl _ _) rfl
              refine BOk.yes rfl [] [1] rfl 1 true rfl rfl rfl (by kernel_rfl) (by kernel_rfl) (by kernel_rfl) (fun qK qa wr hB qO qF hK => ?_) ?_
              · have e1 : qa.tmps[1]? = some (.int .i64 n) := qO.1.trans rfl
                clear qO qF
                go_simp
                exact hK _ _ (Below.refl _ _) rfl
              refine BOk.yes rfl [] [5] rfl 1 true rfl rfl rfl (by kernel_rfl) (by kernel_rfl) (by kernel_rfl) (fun qK qa wr hB qO qF hK => ?_) ?_
              · have e5 : qa.tmps[5]? = some (.pointer (some ⟨w.heap.size, 0, none⟩)) := qO.1.trans rfl
                clear qO qF
                have hx0 := (bcell hB _ _ (World.block_lt_of_cell? _ _ x0)).trans x0
                have hx1 := (bcell hB _ _ (World.block_lt_of_cell? _ _ x1)).trans x1
                have hx2 := (bcell hB _ _ (World.block_lt_of_cell? _ _ x2)).trans x2
                go_simp
                exact hK _ _ (Below.refl _ _) rfl
              refine BOk.yes rfl [4] [] rfl 1 true rfl rfl rfl (by kernel_rfl) (by kernel_rfl) (by kernel_rfl) (fun qK qa wr hB qO qF hK => ?_) ?_
              · have e72 : qa.tmps[72]? = some (.agg #[.int .i64 ety, .int .i64 etm, .slice eA eat.length ec]) := fis qF.1 rfl rfl
                clear qO qF
                go_simp
                go_at_call 12
                refine (HTE.out _ hB).mono ?_
                rintro e9 w9 ⟨v9, rfl, hat, hb9⟩
                exact hK _ _ hb9 hat
              refine BOk.yes rfl [2, 3, 5] [] rfl 1 true rfl rfl rfl (by kernel_rfl) (by kernel_rfl) (by kernel_rfl) (fun qK qa wr hB qO qF hK => ?_) ?_
              · have e70 : qa.tmps[70]? = some (.slice KA rows.length kc) := fis qF.1 rfl rfl
                have e71 : qa.tmps[71]? = some (.int .i64 n) := fis qF.2.1 rfl rfl
                obtain ⟨u73, e73, r5⟩ := qF.2.2.1
                obtain ⟨q73, h73, he73, hx73⟩ := (show EvAt _ u73 wr from r5)
                subst h73
                have e73 : qa.tmps[73]? = some q73.val := e73
                clear qO qF
                go_simp
                go_at_call 11
                refine (pfits_any rows KA kc n q73 wr ((HRD.out.below hB).more hB.size) (fun r hr => (HRO.out r hr).old hB) he73).mono ?_
                rw [hx73]
                rintro e9 w9 ⟨rfl, hb9⟩
                exact hK _ _ hb9 rfl
              refine BOk.yes rfl [] [1] rfl 1 true rfl rfl rfl (by kernel_rfl) (by kernel_rfl) (by kernel_rfl) (fun qK qa wr hB qO qF hK => ?_) ?_
              · have e1 : qa.tmps[1]? = some (.int .i64 n) := qO.1.trans rfl
                clear qO qF
                go_simp
                exact hK _ _ (Below.refl _ _) rfl
              refine BOk.yes rfl [7] [] rfl 1 true rfl rfl rfl (by kernel_rfl) (by kernel_rfl) (by kernel_rfl) (fun qK qa wr hB qO qF hK => ?_) ?_
              · have e75 : qa.tmps[75]? = some (.int .i64 n) := fis qF.1 rfl rfl
                clear qO qF
                go_simp
                exact hK _ _ (Below.refl _ _) (by show (_ : Value) = _; first | rfl | (simp; omega) | (simp_all; done))
              refine BOk.yes rfl [8] [] rfl 1 true rfl rfl rfl (by kernel_rfl) (by kernel_rfl) (by kernel_rfl) (fun qK qa wr hB qO qF hK => ?_) ?_
              · have e76 : qa.tmps[76]? = some (.bool false) := fis qF.1 rfl rfl
                clear qO qF
                go_simp
                exact hK _ _ (Below.refl _ _) (by first | rfl | (show (_ : Value) = _; simp_all; done))
              refine BOk.no rfl rfl 9 true rfl rfl rfl (by kernel_rfl) (fun _ => rfl) ?_
              refine BOk.no rfl rfl 9 true rfl rfl rfl (by kernel_rfl) (fun _ => rfl) ?_
              refine BOk.no rfl rfl 9 true rfl rfl rfl (by kernel_rfl) (fun _ => rfl) ?_
              refine BOk.yes rfl [9] [] rfl 1 true rfl rfl rfl (by kernel_rfl) (by kernel_rfl) (by kernel_rfl) (fun qK qa wr hB qO qF hK => ?_) ?_
              · have e77 : qa.tmps[77]? = some (.bool false) := fis qF.1 rfl rfl
                clear qO qF
                go_simp
                refine hK _ _ (Below.refl _ _) ?_
                show (_ : Value) = _
                first | rfl | (simp; done) | (simp; omega)
              refine BOk.yes rfl [6, 13] [] rfl 1 true rfl rfl rfl (by kernel_rfl) (by kernel_rfl) (by kernel_rfl) (fun qK qa wr hB qO qF hK => ?_) ?_
              · have e74 : qa.tmps[74]? = some (.bool (fitsB (rows.map (·.l)) n (ety, etm, eat))) := fis qF.1 rfl rfl
                have e81 : qa.tmps[81]? = some (.bool false) := fis qF.2.1 rfl rfl
                clear qO qF
                rw [HFG.out] at e74
                go_simp
                exact hK _ _ (Below.refl _ _) (by show (_ : Value) = _; first | rfl | (simp; done))
              refine BOk.cons rfl [1, 14] [] rfl rfl (by kernel_rfl) (by kernel_rfl) (fun qK qa wr hB qO qF hK => ?_) ?_
              · have e69 : qa.tmps[69]? = some (.bool true) := fis qF.1 rfl rfl
                have e82 : qa.tmps[82]? = some (.bool true) := fis qF.2.1 rfl rfl
                clear qO qF
                go_simp
                refine hK _ _ (Below.refl _ _) ?_
                show (_ : Value) = _
                first | rfl | (simp; done) | (simp; omega)
              refine BOk.cons rfl [15] [] rfl rfl (by kernel_rfl) (by kernel_rfl) (fun qK qa wr hB qO qF hK => ?_) ?_
              · have e83 : qa.tmps[83]? = some (.bool true) := fis qF.1 rfl rfl
                clear qO qF
                go_simp
                exact hK _ _ (Below.refl _ _) (by first | rfl | (show (_ : Value) = _; simp_all; done))
              exact BOk.nil
            intro vals wr hl hB hR
            match vals, hl with
            | [t68, t69, t70, t71, t72, t73, t74, t75, t76, t77, t78, t79, t80, t81, t82, t83, t6], _ =>
            have r16 : t6 = .bool true := hR 16 _ rfl
            subst r16
            clear hR
            simp only [List.cons_append, List.nil_append, putAll, Act.put, List.setIfInBounds_toArray, List.set_cons_zero, List.set_cons_succ]
            have hfin := hbel.trans (hB.mono hbel.size)
            clear hB
            go_wp2
            go_ret
            exact ⟨rfl, hfin⟩

theorem laid_met (os : Os) : laidMet Tryd.prog Rows.eventFitsUptoRow.laid ((laidWorld os #[.slice none 0 0, .int .i64 0, .agg #[.int .i64 0, .int .i64 0, .slice none 0 0]]).forCall (fun _ _ => 0) ⟨#[], #[.slice none 0 0, .int .i64 0, .agg #[.int .i64 0, .int .i64 0, .slice none 0 0]], []⟩).memory := laidMet_of_run' 8 (by kernel_rfl) (by kernel_rfl)
theorem reads (os : Os) {H : Type} (enc : TypeId × Value → H) : ∃ places, DataW.whole enc Tryd.prog ((laidWorld os #[.slice none 0 0, .int .i64 0, .agg #[.int .i64 0, .int .i64 0, .slice none 0 0]]).forCall (fun _ _ => 0) ⟨#[], #[.slice none 0 0, .int .i64 0, .agg #[.int .i64 0, .int .i64 0, .slice none 0 0]], []⟩).memory Tryd.f3.params.toList Rows.eventFitsSpec.vars false (#[.slice none 0 0, .int .i64 0, .agg #[.int .i64 0, .int .i64 0, .slice none 0 0]] : Array Value).toList 8 = some ([.nil, .lit (.int .i64 0), .agg [.lit (.int .i64 0), .lit (.int .i64 0), .nil]], [], places) := ⟨[], by kernel_rfl⟩
theorem rec0 : (Tryd.f3.params.toList.all fun t => Tryd.prog.readableRec t && decide (t < Tryd.prog.types.size)) = true := by kernel_rfl
set_option maxRecDepth 100000 in
theorem lifted (os : Os) (started : os.Started) (H : Type) (enc : TypeId × Value → H) (F : Stop.Interp) :
    ReturnsInHanded {} Tryd.checked os 3 .any ((Rows.OpenSpec.upto Rows.eventFitsSpec).preRow enc Tryd.prog Tryd.f3 Rows.eventFitsUptoRow.domain false Rows.eventFitsUptoRow.laid) (((Rows.OpenSpec.upto Rows.eventFitsSpec).at F).post enc Tryd.prog Tryd.f3 false true false false) := by
  obtain ⟨places, hx⟩ := reads os enc
  refine law_stepCB (C := Tryd.checked) (s := Rows.eventFitsSpec) (tb := 4) own started (by kernel_rfl) Tryd.func3
    (witness_row_at (enc := enc) (C := Tryd.checked) false (laidWorld os #[.slice none 0 0, .int .i64 0, .agg #[.int .i64 0, .int .i64 0, .slice none 0 0]]) #[.slice none 0 0, .int .i64 0, .agg #[.int .i64 0, .int .i64 0, .slice none 0 0]] rfl (by kernel_rfl) (by kernel_rfl) (by kernel_rfl)
      (OpenSpec.preRow_of_cond 8 hx (by kernel_rfl) (fun k hk => by cases hk; kernel_rfl) (by kernel_rfl) (laid_met os))) laidOut ?_ rfl Tryd.underlying4 rfl ?_ ?_
  · intro t ht
    have := List.all_eq_true.1 rec0 t ht
    simp only [Bool.and_eq_true, decide_eq_true_eq] at this
    exact this
  · intro ds hd
    match ds, hd with
    | [d0, d1, d2], _ => exact ⟨rfl, rfl, rfl⟩
  intro W base args ds p hval hA hsz hbk hL hsh
  have htab := tab_of hL
  rw [Tryd.params3] at hA hval hsz
  obtain ⟨v0, vs0, d0, ds0, p0, q0, hargs, rfl, rfl, h0, r0⟩ := trodAll_cons hA
  obtain ⟨v1, vs1, d1, ds1, p1, q1, rfl, rfl, rfl, h1, r1⟩ := trodAll_cons r0
  obtain ⟨v2, vs2, d2, ds2, p2, q2, rfl, rfl, rfl, h2, r2⟩ := trodAll_cons r1
  obtain ⟨rfl, rfl, rfl⟩ := trodAll_nil r2
  obtain rfl : args = #[v0, v1, v2] := by cases args; simp_all
  obtain ⟨A0, c0, l0, rfl, hl0, hr0, hq0⟩ := open_rowsB (hval 0 22 v0 rfl rfl) h0 (weights_each (i := 0) hsz rfl rfl) (Nat.le_trans (bulk_part (by simp)) hbk)
  obtain ⟨n1, rfl, _, _, _⟩ := open_int Tryd.underlying3 (hval 1 3 v1 rfl rfl) h1
  obtain ⟨e2, rfl, he2⟩ := open_event (hval 2 25 v2 rfl rfl) h2 (weights_each (i := 2) hsz rfl rfl)
  exact walk W htab A0 c0 l0 hl0 hr0 hq0 n1 e2 he2

theorem said : Rows.EventFitsUptoSaid :=
  OpenClaim.holds_of_cond 3 Tryd.f3 rfl rfl rfl rfl rfl rfl rfl ⟨rfl, rfl, rfl, rfl, rfl⟩ rfl rfl rfl rfl rfl (by kernel_rfl) Tryd.func3 (by kernel_rfl)
    (of_decide_eq_true (by kernel_rfl)) (by unfold Func.isWrapper; first | (rw [if_pos (by decide +kernel)]; kernel_rfl) | (rw [if_neg (by decide +kernel)]; exact ⟨rfl, rfl⟩))
    (fun os started H enc _ F => by rw [OpenClaim.pre_eq_preRow]; exact lifted os started H enc F)
theorem noStand : (Tryd.f3.params.toList.all fun t => !(Tryd.prog.wantsStandIn t)) = true := by kernel_rfl
theorem plain (f : FuncId) (fn : Func) (hf : Tryd.pinned.checked.prog.funcNamed "auspice/auspicelaw04.EventFits" = some f) (hfn : Tryd.pinned.checked.prog.funcs[f]? = some fn) :
    true = Tryd.pinned.checked.prog.looks [] ∧ ∀ (j : Nat) t, fn.params[j]? = some t → Tryd.pinned.checked.prog.wantsStandIn t = false := by
  obtain rfl : f = 3 := Option.some.inj ((show Tryd.prog.funcNamed "auspice/auspicelaw04.EventFits" = some 3 by kernel_rfl).symm.trans hf) |>.symm
  obtain rfl : fn = Tryd.f3 := (Option.some.inj (Tryd.func3.symm.trans hfn)).symm
  refine ⟨by kernel_rfl, fun j t ht => ?_⟩
  have hm : t ∈ Tryd.f3.params.toList := by rw [Array.mem_toList_iff]; exact Array.mem_of_getElem? ht
  have := List.all_eq_true.1 noStand t hm
  exact (by simpa using this : Tryd.prog.wantsStandIn t = false)
theorem eventFits_holds : Rows.EventFitsUptoCardSaid :=
  Claim7.holds_tied_plain_at .later [] _ _ _ _ said (fun _ h => by cases h) (by kernel_rfl) (fun _ h => by cases h) eventFitsUpto_row_tie rfl ⟨rfl, rfl⟩ (by kernel_rfl) rfl plain (by kernel_rfl)
#print axioms eventFits_holds
end Go.Proofs.YtpakcicbojbonaaDoor.eventFits
