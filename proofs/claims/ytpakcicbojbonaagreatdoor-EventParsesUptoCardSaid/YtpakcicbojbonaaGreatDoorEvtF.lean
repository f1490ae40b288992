/- Layer 4: which events are valid, by the document. No conditions. -/
import Derived.Test.YtpakcicbojbonaaGreatDoorEvtE
namespace Go.Proofs.YtpakcicbojbonaaGreatDoor
open Go.RowKit
set_option linter.unusedVariables false
set_option linter.unusedSimpArgs false

theorem neq_V2 (a b c d : Int) (w : World) : (binOp .neq 68 (.agg #[.int .i64 a, .int .u64 b]) (.agg #[.int .i64 c, .int .u64 d])).run Tryz.prog w = .ok (.bool (!(a == c && b == d))) w := by
  have h1 : Tryz.prog.stoodInHeld 68 = false := by kernel_rfl
  by_cases h : a = c <;> by_cases h2 : b = d <;> simp [go_sem, h, h2, h1]
def rvR1 (s : SchemaV) (ety etm : Int) (w : World) : List Spec := [.is (.agg #[.slice s.ta s.types.length s.tc, .slice s.sa s.syms.length s.sc]),
  .is (.int .i64 (checkSig (s.types.map sig) s.syms)),
  .is (.bool (checkSig (s.types.map sig) s.syms != 0)),
  .is (.bool (checkSig (s.types.map sig) s.syms != 0)),
  .is (bif (true && ((checkSig (s.types.map sig) s.syms != 0) == false)) then .pointer (some ⟨w.heap.size + 1, 0, none⟩) else undef),
  .is (bif (true && ((checkSig (s.types.map sig) s.syms != 0) == false)) then .int .i64 ety else undef),
  .is (bif (true && ((checkSig (s.types.map sig) s.syms != 0) == false)) then .bool (decide (ety < 0)) else undef),
  .is (.bool ((checkSig (s.types.map sig) s.syms != 0) || (decide (ety < 0)))),
  .is (.bool ((checkSig (s.types.map sig) s.syms != 0) || (decide (ety < 0)))),
  .is (bif (true && (((checkSig (s.types.map sig) s.syms != 0) || (decide (ety < 0))) == false)) then .pointer (some ⟨w.heap.size + 1, 0, none⟩) else undef),
  .is (bif (true && (((checkSig (s.types.map sig) s.syms != 0) || (decide (ety < 0))) == false)) then .int .i64 ety else undef),
  .is (bif (true && (((checkSig (s.types.map sig) s.syms != 0) || (decide (ety < 0))) == false)) then .pointer (some ⟨w.heap.size, 0, none⟩) else undef),
  .is (bif (true && (((checkSig (s.types.map sig) s.syms != 0) || (decide (ety < 0))) == false)) then .slice s.ta s.types.length s.tc else undef),
  .is (bif (true && (((checkSig (s.types.map sig) s.syms != 0) || (decide (ety < 0))) == false)) then .int .i64 (s.types.length : Nat) else undef),
  .is (bif (true && (((checkSig (s.types.map sig) s.syms != 0) || (decide (ety < 0))) == false)) then .bool (decide ((s.types.length : Nat) ≤ ety)) else undef),
  .is (.bool (((checkSig (s.types.map sig) s.syms != 0) || (decide (ety < 0))) || (decide ((s.types.length : Nat) ≤ ety)))),
  .is (.bool (((checkSig (s.types.map sig) s.syms != 0) || (decide (ety < 0))) || (decide ((s.types.length : Nat) ≤ ety)))),
  .is (bif (true && ((((checkSig (s.types.map sig) s.syms != 0) || (decide (ety < 0))) || (decide ((s.types.length : Nat) ≤ ety))) == false)) then .pointer (some ⟨w.heap.size + 1, 1, none⟩) else undef),
  .is (bif (true && ((((checkSig (s.types.map sig) s.syms != 0) || (decide (ety < 0))) || (decide ((s.types.length : Nat) ≤ ety))) == false)) then .int .i64 etm else undef),
  .is (bif (true && ((((checkSig (s.types.map sig) s.syms != 0) || (decide (ety < 0))) || (decide ((s.types.length : Nat) ≤ ety))) == false)) then .bool (decide (etm < 0)) else undef),
  .is (.bool ((((checkSig (s.types.map sig) s.syms != 0) || (decide (ety < 0))) || (decide ((s.types.length : Nat) ≤ ety))) || (decide (etm < 0)))),
  .is (.bool ((((checkSig (s.types.map sig) s.syms != 0) || (decide (ety < 0))) || (decide ((s.types.length : Nat) ≤ ety))) || (decide (etm < 0)))),
  .is (bif (true && (((((checkSig (s.types.map sig) s.syms != 0) || (decide (ety < 0))) || (decide ((s.types.length : Nat) ≤ ety))) || (decide (etm < 0))) == false)) then .pointer (some ⟨w.heap.size + 1, 1, none⟩) else undef),
  .is (bif (true && (((((checkSig (s.types.map sig) s.syms != 0) || (decide (ety < 0))) || (decide ((s.types.length : Nat) ≤ ety))) || (decide (etm < 0))) == false)) then .int .i64 etm else undef),
  .is (bif (true && (((((checkSig (s.types.map sig) s.syms != 0) || (decide (ety < 0))) || (decide ((s.types.length : Nat) ≤ ety))) || (decide (etm < 0))) == false)) then .bool (decide (1152921504606846976 < etm)) else undef),
  .is (.bool (((((checkSig (s.types.map sig) s.syms != 0) || (decide (ety < 0))) || (decide ((s.types.length : Nat) ≤ ety))) || (decide (etm < 0))) || (decide (1152921504606846976 < etm))))]
def rvR9 (s : SchemaV) (T : TypeV) (rb ro k : Nat) (fd : FieldV) (x : V) (w wl : World) : List Spec := [.is (.pointer (some ⟨wl.heap.size, 0, none⟩)),
  .is (.int .i64 x.k),
  .is (.slice (some ⟨rb, ro, none⟩) T.fields.length T.fc),
  .is (.int .i64 (k : Nat)),
  .is (.pointer (some ⟨rb, ro + k * 2, none⟩)),
  .is (.pointer (some ⟨rb, ro + k * 2 + 1, none⟩)),
  .is (.int .i64 fd.kind),
  .is (.bool ((x.k != fd.kind))),
  .is (.bool ((x.k != fd.kind))),
  .is (bif (true && (((x.k != fd.kind)) == false)) then .agg #[.int .i64 x.k, .int .u64 x.b] else undef),
  .is (bif (true && (((x.k != fd.kind)) == false)) then .agg #[.int .i64 (clean x).k, .int .u64 (clean x).b] else undef),
  .is (bif (true && (((x.k != fd.kind)) == false)) then .agg #[.int .i64 x.k, .int .u64 x.b] else undef),
  .is (bif (true && (((x.k != fd.kind)) == false)) then .bool (!cleanB x) else undef),
  .is (.bool (((x.k != fd.kind)) || (!cleanB x))),
  .is (.bool (((x.k != fd.kind)) || (!cleanB x))),
  .is (bif (true && ((((x.k != fd.kind)) || (!cleanB x)) == false)) then .pointer (some ⟨wl.heap.size, 0, none⟩) else undef),
  .is (bif (true && ((((x.k != fd.kind)) || (!cleanB x)) == false)) then .int .i64 x.k else undef),
  .is (bif (true && ((((x.k != fd.kind)) || (!cleanB x)) == false)) then .bool ((x.k == 3)) else undef),
  .is (bif (true && ((((x.k != fd.kind)) || (!cleanB x)) == false)) then .bool ((x.k == 3)) else undef),
  .is (bif ((true && ((((x.k != fd.kind)) || (!cleanB x)) == false)) && (((x.k == 3)) == true)) then .pointer (some ⟨wl.heap.size, 1, none⟩) else undef),
  .is (bif ((true && ((((x.k != fd.kind)) || (!cleanB x)) == false)) && (((x.k == 3)) == true)) then .int .u64 x.b else undef),
  .is (bif ((true && ((((x.k != fd.kind)) || (!cleanB x)) == false)) && (((x.k == 3)) == true)) then .pointer (some ⟨w.heap.size, 1, none⟩) else undef),
  .is (bif ((true && ((((x.k != fd.kind)) || (!cleanB x)) == false)) && (((x.k == 3)) == true)) then .slice s.sa s.syms.length s.sc else undef),
  .is (bif ((true && ((((x.k != fd.kind)) || (!cleanB x)) == false)) && (((x.k == 3)) == true)) then .int .i64 (s.syms.length : Nat) else undef),
  .is (bif ((true && ((((x.k != fd.kind)) || (!cleanB x)) == false)) && (((x.k == 3)) == true)) then .int .u64 (s.syms.length : Nat) else undef),
  .is (bif ((true && ((((x.k != fd.kind)) || (!cleanB x)) == false)) && (((x.k == 3)) == true)) then .bool (decide ((s.syms.length : Nat) ≤ x.b)) else undef),
  .is (bif (true && ((((x.k != fd.kind)) || (!cleanB x)) == false)) then .bool (((x.k == 3)) && (decide ((s.syms.length : Nat) ≤ x.b))) else undef),
  .is (.bool ((((x.k != fd.kind)) || (!cleanB x)) || (((x.k == 3)) && (decide ((s.syms.length : Nat) ≤ x.b)))))]
theorem valid_text (T : List TSig) (Y : List ByteArray) (ty tm : Int) (a : List V) : (((((checkSig T Y != 0) || (decide (ty < 0))) || (decide (((kindsOf T).length : Nat) ≤ ty))) || (decide (tm < 0))) || (decide (1152921504606846976 < tm))) = !(decide (checkSig T Y = 0) && headOk (kindsOf T) ty tm) := by
  have h := head_text (kindsOf T) ty tm
  have e : (checkSig T Y != 0) = !decide (checkSig T Y = 0) := by by_cases h : checkSig T Y = 0 <;> simp [h]
  rw [e]
  cases decide (checkSig T Y = 0)
  · simp
  · simp only [Bool.not_true, Bool.false_or, Bool.true_and]; exact h
set_option maxRecDepth 100000 in
set_option maxHeartbeats 4000000 in
theorem rvalid_any (s : SchemaV) (e : EventV) (w : World) (hs : s.ok w w.heap.size) (he : e.ok w w.heap.size) :
    Calls Tryz.prog 42 #[s.val, e.val] w fun r w' => r = .returned (.bool (validB (s.types.map sig) s.syms e.sig)) ∧ Below w.heap.size w w' := by
  have HS := Lib.hid hs
  have HE := Lib.hid he
  clear hs he
  have htext := valid_text (s.types.map sig) s.syms e.type e.time e.attrs
  rw [show (kindsOf (s.types.map sig)).length = s.types.length from by rw [kindsOf_types, List.length_map]] at htext
  obtain ⟨ety, etm, eA, ec, eat⟩ := e
  have HTX := Lib.hid htext
  clear htext
  generalize hR : validB (s.types.map sig) s.syms (EventV.sig ⟨ety, etm, eA, ec, eat⟩) = RES
  have HR := Lib.hid hR
  clear hR
  unfold SchemaV.val EventV.val
  go_enter Tryz.func42, Tryz.ntmps42
  go_upto_region 1 with fail
  have x0 := (Bk.new w 25 #[.slice s.ta s.types.length s.tc, .slice s.sa s.syms.length s.sc]).alloc (.cells #[.int .i64 ety, .int .i64 etm, .slice eA eat.length ec] 37)
  have x1 := Bk.newAt (w := w.alloc (.cells #[.slice s.ta s.types.length s.tc, .slice s.sa s.syms.length s.sc] 25)) (g := w.heap.size + 1) (by simp) 37 #[.int .i64 ety, .int .i64 etm, .slice eA eat.length ec]
  have hbW : Below w.heap.size w ((w.alloc (.cells #[.slice s.ta s.types.length s.tc, .slice s.sa s.syms.length s.sc] 25)).alloc (.cells #[.int .i64 ety, .int .i64 etm, .slice eA eat.length ec] 37)) := ((Below.refl _ _).alloc (Nat.le_refl _) _).alloc (by simp) _
  generalize (w.alloc (.cells #[.slice s.ta s.types.length s.tc, .slice s.sa s.syms.length s.sc] 25)).alloc (.cells #[.int .i64 ety, .int .i64 etm, .slice eA eat.length ec] 37) = W at *
  have s0 := x0.cell 0
  have s1 := x0.cell 1
  have v0 := x1.cell 0
  have v1 := x1.cell 1
  have v2 := x1.cell 2
  have HS2 := Lib.hid (HS.out.old hbW)
  refine wp_region_s (fun qk => (rvR1 s ety etm w).getD qk .any) (by kernel_rfl) ?_ ?_
  · refine BOk.cons rfl [] [2] rfl rfl (by kernel_rfl) (by kernel_rfl) (fun qK qa wr hB qO qF hK => ?_) ?_
    · have e2 : qa.tmps[2]? = some (.pointer (some ⟨w.heap.size, 0, none⟩)) := qO.1.trans rfl
      clear qO qF
      have hs0 := (bcell hB _ _ (World.block_lt_of_cell? _ _ s0)).trans s0
      have hs1 := (bcell hB _ _ (World.block_lt_of_cell? _ _ s1)).trans s1
      go_simp
      exact hK _ _ (Below.refl _ _) rfl
    refine BOk.cons rfl [0] [] rfl rfl (by kernel_rfl) (by kernel_rfl) (fun qK qa wr hB qO qF hK => ?_) ?_
    · have e8 : qa.tmps[8]? = some (.agg #[.slice s.ta s.types.length s.tc, .slice s.sa s.syms.length s.sc]) := fis qF.1 rfl rfl
      clear qO qF
      go_simp
      go_at_call 18
      refine (rcheck_any s _ (HS2.out.old hB)).mono ?_
      rintro e9 w3 ⟨rfl, hb3⟩
      exact hK _ _ hb3 rfl
    refine BOk.cons rfl [1] [] rfl rfl (by kernel_rfl) (by kernel_rfl) (fun qK qa wr hB qO qF hK => ?_) ?_
    · have e9 : qa.tmps[9]? = some (.int .i64 (checkSig (s.types.map sig) s.syms)) := fis qF.1 rfl rfl
      clear qO qF
      go_simp
      exact hK _ _ (Below.refl _ _) (by show (_ : Value) = _; first | rfl | (simp; done))
    refine BOk.cons rfl [2] [] rfl rfl (by kernel_rfl) (by kernel_rfl) (fun qK qa wr hB qO qF hK => ?_) ?_
    · have e10 : qa.tmps[10]? = some (.bool (checkSig (s.types.map sig) s.syms != 0)) := fis qF.1 rfl rfl
      clear qO qF
      go_simp
      exact hK _ _ (Below.refl _ _) (by first | rfl | (show (_ : Value) = _; simp_all; done))
    refine BOk.optT rfl [] [3] rfl 3 false rfl rfl rfl rfl (by kernel_rfl) (by kernel_rfl) (by kernel_rfl) (fun hp hc hP qK qa wr hB qO qF hK => ?_) ?_
    · have e3 : qa.tmps[3]? = some (.pointer (some ⟨w.heap.size + 1, 0, none⟩)) := qO.1.trans rfl
      clear qO qF
      go_simp
      exact hK _ _ (Below.refl _ _) rfl
    refine BOk.optT rfl [4] [] rfl 3 false rfl rfl rfl rfl (by kernel_rfl) (by kernel_rfl) (by kernel_rfl) (fun hp hc hP qK qa wr hB qO qF hK => ?_) ?_
    · have e12 : qa.tmps[12]? = some (.pointer (some ⟨w.heap.size + 1, 0, none⟩)) := fif qF.1 rfl hP rfl
      clear qO qF
      have hv0 := (bcell hB _ _ (World.block_lt_of_cell? _ _ v0)).trans v0
      go_simp
      exact hK _ _ (Below.refl _ _) rfl
    refine BOk.optT rfl [5] [] rfl 3 false rfl rfl rfl rfl (by kernel_rfl) (by kernel_rfl) (by kernel_rfl) (fun hp hc hP qK qa wr hB qO qF hK => ?_) ?_
    · have e13 : qa.tmps[13]? = some (.int .i64 ety) := fif qF.1 rfl hP rfl
      clear qO qF
      go_simp
      refine hK _ _ (Below.refl _ _) ?_
      show (_ : Value) = _
      first | rfl | (simp; done) | (simp; omega) | (congr 1; simp; done) | (congr 1; rw [decide_eq_decide]; omega) | exact congrArg Value.bool (nat_bne _ _) | exact congrArg Value.bool (nat_beq _ _)
    refine BOk.cons rfl [3, 6] [] rfl rfl (by kernel_rfl) (by kernel_rfl) (fun qK qa wr hB qO qF hK => ?_) ?_
    · have e11 : qa.tmps[11]? = some (.bool (checkSig (s.types.map sig) s.syms != 0)) := fis qF.1 rfl rfl
      obtain ⟨u14, e14, r6⟩ := qF.2.1
      have r6 : u14 = (bif (true && ((checkSig (s.types.map sig) s.syms != 0) == false)) then .bool (decide (ety < 0)) else undef) := r6
      clear qO qF
      rcases (Bool.eq_false_or_eq_true ((checkSig (s.types.map sig) s.syms != 0))).symm with hcc | hcc
      · rw [hcc] at e11
        have e14 : qa.tmps[14]? = some (.bool ((decide (ety < 0)))) := (show u14 = .bool ((decide (ety < 0))) from r6.trans (by (first | rw [hcc] | skip); first | rfl | (rw [hP]; rfl))) ▸ e14
        go_simp
        exact hK _ _ (Below.refl _ _) (by show (_ : Value) = _; first | (rw [hcc]; first | rfl | (simp; done)) | (simp_all; done))
      · rw [hcc] at e11
        go_simp
        exact hK _ _ (Below.refl _ _) (by show (_ : Value) = _; first | (rw [hcc]; first | rfl | (simp; done)) | (simp_all; done))
    refine BOk.cons rfl [7] [] rfl rfl (by kernel_rfl) (by kernel_rfl) (fun qK qa wr hB qO qF hK => ?_) ?_
    · have e15 : qa.tmps[15]? = some (.bool ((checkSig (s.types.map sig) s.syms != 0) || (decide (ety < 0)))) := fis qF.1 rfl rfl
      clear qO qF
      go_simp
      exact hK _ _ (Below.refl _ _) (by first | rfl | (show (_ : Value) = _; simp_all; done))
    refine BOk.optT rfl [] [3] rfl 8 false rfl rfl rfl rfl (by kernel_rfl) (by kernel_rfl) (by kernel_rfl) (fun hp hc hP qK qa wr hB qO qF hK => ?_) ?_
    · have e3 : qa.tmps[3]? = some (.pointer (some ⟨w.heap.size + 1, 0, none⟩)) := qO.1.trans rfl
      clear qO qF
      go_simp
      exact hK _ _ (Below.refl _ _) rfl
    refine BOk.optT rfl [9] [] rfl 8 false rfl rfl rfl rfl (by kernel_rfl) (by kernel_rfl) (by kernel_rfl) (fun hp hc hP qK qa wr hB qO qF hK => ?_) ?_
    · have e17 : qa.tmps[17]? = some (.pointer (some ⟨w.heap.size + 1, 0, none⟩)) := fif qF.1 rfl hP rfl
      clear qO qF
      have hv0 := (bcell hB _ _ (World.block_lt_of_cell? _ _ v0)).trans v0
      go_simp
      exact hK _ _ (Below.refl _ _) rfl
    refine BOk.optT rfl [] [2] rfl 8 false rfl rfl rfl rfl (by kernel_rfl) (by kernel_rfl) (by kernel_rfl) (fun hp hc hP qK qa wr hB qO qF hK => ?_) ?_
    · have e2 : qa.tmps[2]? = some (.pointer (some ⟨w.heap.size, 0, none⟩)) := qO.1.trans rfl
      clear qO qF
      go_simp
      exact hK _ _ (Below.refl _ _) rfl
    refine BOk.optT rfl [11] [] rfl 8 false rfl rfl rfl rfl (by kernel_rfl) (by kernel_rfl) (by kernel_rfl) (fun hp hc hP qK qa wr hB qO qF hK => ?_) ?_
    · have e19 : qa.tmps[19]? = some (.pointer (some ⟨w.heap.size, 0, none⟩)) := fif qF.1 rfl hP rfl
      clear qO qF
      have hs0 := (bcell hB _ _ (World.block_lt_of_cell? _ _ s0)).trans s0
      go_simp
      exact hK _ _ (Below.refl _ _) rfl
    refine BOk.optT rfl [12] [] rfl 8 false rfl rfl rfl rfl (by kernel_rfl) (by kernel_rfl) (by kernel_rfl) (fun hp hc hP qK qa wr hB qO qF hK => ?_) ?_
    · have e20 : qa.tmps[20]? = some (.slice s.ta s.types.length s.tc) := fif qF.1 rfl hP rfl
      clear qO qF
      go_simp
      exact hK _ _ (Below.refl _ _) rfl
    refine BOk.optT rfl [10, 13] [] rfl 8 false rfl rfl rfl rfl (by kernel_rfl) (by kernel_rfl) (by kernel_rfl) (fun hp hc hP qK qa wr hB qO qF hK => ?_) ?_
    · have e18 : qa.tmps[18]? = some (.int .i64 ety) := fif qF.1 rfl hP rfl
      have e21 : qa.tmps[21]? = some (.int .i64 (s.types.length : Nat)) := fif qF.2.1 rfl hP rfl
      clear qO qF
      go_simp
      refine hK _ _ (Below.refl _ _) ?_
      show (_ : Value) = _
      first | rfl | (simp; done) | (simp; omega) | (congr 1; simp; done) | (congr 1; rw [decide_eq_decide]; omega) | exact congrArg Value.bool (nat_bne _ _) | exact congrArg Value.bool (nat_beq _ _)
    refine BOk.cons rfl [8, 14] [] rfl rfl (by kernel_rfl) (by kernel_rfl) (fun qK qa wr hB qO qF hK => ?_) ?_
    · have e16 : qa.tmps[16]? = some (.bool ((checkSig (s.types.map sig) s.syms != 0) || (decide (ety < 0)))) := fis qF.1 rfl rfl
      obtain ⟨u22, e22, r14⟩ := qF.2.1
      have r14 : u22 = (bif (true && (((checkSig (s.types.map sig) s.syms != 0) || (decide (ety < 0))) == false)) then .bool (decide ((s.types.length : Nat) ≤ ety)) else undef) := r14
      clear qO qF
      rcases (Bool.eq_false_or_eq_true (((checkSig (s.types.map sig) s.syms != 0) || (decide (ety < 0))))).symm with hcc | hcc
      · rw [hcc] at e16
        have e22 : qa.tmps[22]? = some (.bool ((decide ((s.types.length : Nat) ≤ ety)))) := (show u22 = .bool ((decide ((s.types.length : Nat) ≤ ety))) from r14.trans (by (first | rw [hcc] | skip); first | rfl | (rw [hP]; rfl))) ▸ e22
        go_simp
        exact hK _ _ (Below.refl _ _) (by show (_ : Value) = _; first | (rw [hcc]; first | rfl | (simp; done)) | (simp_all; done))
      · rw [hcc] at e16
        go_simp
        exact hK _ _ (Below.refl _ _) (by show (_ : Value) = _; first | (rw [hcc]; first | rfl | (simp; done)) | (simp_all; done))
    refine BOk.cons rfl [15] [] rfl rfl (by kernel_rfl) (by kernel_rfl) (fun qK qa wr hB qO qF hK => ?_) ?_
    · have e23 : qa.tmps[23]? = some (.bool (((checkSig (s.types.map sig) s.syms != 0) || (decide (ety < 0))) || (decide ((s.types.length : Nat) ≤ ety)))) := fis qF.1 rfl rfl
      clear qO qF
      go_simp
      exact hK _ _ (Below.refl _ _) (by first | rfl | (show (_ : Value) = _; simp_all; done))
    refine BOk.optT rfl [] [3] rfl 16 false rfl rfl rfl rfl (by kernel_rfl) (by kernel_rfl) (by kernel_rfl) (fun hp hc hP qK qa wr hB qO qF hK => ?_) ?_
    · have e3 : qa.tmps[3]? = some (.pointer (some ⟨w.heap.size + 1, 0, none⟩)) := qO.1.trans rfl
      clear qO qF
      go_simp
      exact hK _ _ (Below.refl _ _) rfl
    refine BOk.optT rfl [17] [] rfl 16 false rfl rfl rfl rfl (by kernel_rfl) (by kernel_rfl) (by kernel_rfl) (fun hp hc hP qK qa wr hB qO qF hK => ?_) ?_
    · have e25 : qa.tmps[25]? = some (.pointer (some ⟨w.heap.size + 1, 1, none⟩)) := fif qF.1 rfl hP rfl
      clear qO qF
      have hv1 := (bcell hB _ _ (World.block_lt_of_cell? _ _ v1)).trans v1
      go_simp
      exact hK _ _ (Below.refl _ _) rfl
    refine BOk.optT rfl [18] [] rfl 16 false rfl rfl rfl rfl (by kernel_rfl) (by kernel_rfl) (by kernel_rfl) (fun hp hc hP qK qa wr hB qO qF hK => ?_) ?_
    · have e26 : qa.tmps[26]? = some (.int .i64 etm) := fif qF.1 rfl hP rfl
      clear qO qF
      go_simp
      refine hK _ _ (Below.refl _ _) ?_
      show (_ : Value) = _
      first | rfl | (simp; done) | (simp; omega) | (congr 1; simp; done) | (congr 1; rw [decide_eq_decide]; omega) | exact congrArg Value.bool (nat_bne _ _) | exact congrArg Value.bool (nat_beq _ _)
    refine BOk.cons rfl [16, 19] [] rfl rfl (by kernel_rfl) (by kernel_rfl) (fun qK qa wr hB qO qF hK => ?_) ?_
    · have e24 : qa.tmps[24]? = some (.bool (((checkSig (s.types.map sig) s.syms != 0) || (decide (ety < 0))) || (decide ((s.types.length : Nat) ≤ ety)))) := fis qF.1 rfl rfl
      obtain ⟨u27, e27, r19⟩ := qF.2.1
      have r19 : u27 = (bif (true && ((((checkSig (s.types.map sig) s.syms != 0) || (decide (ety < 0))) || (decide ((s.types.length : Nat) ≤ ety))) == false)) then .bool (decide (etm < 0)) else undef) := r19
      clear qO qF
      rcases (Bool.eq_false_or_eq_true ((((checkSig (s.types.map sig) s.syms != 0) || (decide (ety < 0))) || (decide ((s.types.length : Nat) ≤ ety))))).symm with hcc | hcc
      · rw [hcc] at e24
        have e27 : qa.tmps[27]? = some (.bool ((decide (etm < 0)))) := (show u27 = .bool ((decide (etm < 0))) from r19.trans (by (first | rw [hcc] | skip); first | rfl | (rw [hP]; rfl))) ▸ e27
        go_simp
        exact hK _ _ (Below.refl _ _) (by show (_ : Value) = _; first | (rw [hcc]; first | rfl | (simp; done)) | (simp_all; done))
      · rw [hcc] at e24
        go_simp
        exact hK _ _ (Below.refl _ _) (by show (_ : Value) = _; first | (rw [hcc]; first | rfl | (simp; done)) | (simp_all; done))
    refine BOk.cons rfl [20] [] rfl rfl (by kernel_rfl) (by kernel_rfl) (fun qK qa wr hB qO qF hK => ?_) ?_
    · have e28 : qa.tmps[28]? = some (.bool ((((checkSig (s.types.map sig) s.syms != 0) || (decide (ety < 0))) || (decide ((s.types.length : Nat) ≤ ety))) || (decide (etm < 0)))) := fis qF.1 rfl rfl
      clear qO qF
      go_simp
      exact hK _ _ (Below.refl _ _) (by first | rfl | (show (_ : Value) = _; simp_all; done))
    refine BOk.optT rfl [] [3] rfl 21 false rfl rfl rfl rfl (by kernel_rfl) (by kernel_rfl) (by kernel_rfl) (fun hp hc hP qK qa wr hB qO qF hK => ?_) ?_
    · have e3 : qa.tmps[3]? = some (.pointer (some ⟨w.heap.size + 1, 0, none⟩)) := qO.1.trans rfl
      clear qO qF
      go_simp
      exact hK _ _ (Below.refl _ _) rfl
    refine BOk.optT rfl [22] [] rfl 21 false rfl rfl rfl rfl (by kernel_rfl) (by kernel_rfl) (by kernel_rfl) (fun hp hc hP qK qa wr hB qO qF hK => ?_) ?_
    · have e30 : qa.tmps[30]? = some (.pointer (some ⟨w.heap.size + 1, 1, none⟩)) := fif qF.1 rfl hP rfl
      clear qO qF
      have hv1 := (bcell hB _ _ (World.block_lt_of_cell? _ _ v1)).trans v1
      go_simp
      exact hK _ _ (Below.refl _ _) rfl
    refine BOk.optT rfl [23] [] rfl 21 false rfl rfl rfl rfl (by kernel_rfl) (by kernel_rfl) (by kernel_rfl) (fun hp hc hP qK qa wr hB qO qF hK => ?_) ?_
    · have e31 : qa.tmps[31]? = some (.int .i64 etm) := fif qF.1 rfl hP rfl
      clear qO qF
      go_simp
      refine hK _ _ (Below.refl _ _) ?_
      show (_ : Value) = _
      first | rfl | (simp; done) | (simp; omega) | (congr 1; simp; done) | (congr 1; rw [decide_eq_decide]; omega) | exact congrArg Value.bool (nat_bne _ _) | exact congrArg Value.bool (nat_beq _ _)
    refine BOk.cons rfl [21, 24] [] rfl rfl (by kernel_rfl) (by kernel_rfl) (fun qK qa wr hB qO qF hK => ?_) ?_
    · have e29 : qa.tmps[29]? = some (.bool ((((checkSig (s.types.map sig) s.syms != 0) || (decide (ety < 0))) || (decide ((s.types.length : Nat) ≤ ety))) || (decide (etm < 0)))) := fis qF.1 rfl rfl
      obtain ⟨u32, e32, r24⟩ := qF.2.1
      have r24 : u32 = (bif (true && (((((checkSig (s.types.map sig) s.syms != 0) || (decide (ety < 0))) || (decide ((s.types.length : Nat) ≤ ety))) || (decide (etm < 0))) == false)) then .bool (decide (1152921504606846976 < etm)) else undef) := r24
      clear qO qF
      rcases (Bool.eq_false_or_eq_true (((((checkSig (s.types.map sig) s.syms != 0) || (decide (ety < 0))) || (decide ((s.types.length : Nat) ≤ ety))) || (decide (etm < 0))))).symm with hcc | hcc
      · rw [hcc] at e29
        have e32 : qa.tmps[32]? = some (.bool ((decide (1152921504606846976 < etm)))) := (show u32 = .bool ((decide (1152921504606846976 < etm))) from r24.trans (by (first | rw [hcc] | skip); first | rfl | (rw [hP]; rfl))) ▸ e32
        go_simp
        exact hK _ _ (Below.refl _ _) (by show (_ : Value) = _; first | (rw [hcc]; first | rfl | (simp; done)) | (simp_all; done))
      · rw [hcc] at e29
        go_simp
        exact hK _ _ (Below.refl _ _) (by show (_ : Value) = _; first | (rw [hcc]; first | rfl | (simp; done)) | (simp_all; done))
    exact BOk.nil
  intro vals wr hl hB hR
  match vals, hl with
  | [z8, z9, z10, z11, z12, z13, z14, z15, z16, z17, z18, z19, z20, z21, z22, z23, z24, z25, z26, z27, z28, z29, z30, z31, z32, z33], _ =>
  have r25 : z33 = .bool (((((checkSig (s.types.map sig) s.syms != 0) || (decide (ety < 0))) || (decide ((s.types.length : Nat) ≤ ety))) || (decide (etm < 0))) || (decide (1152921504606846976 < etm))) := hR 25 _ rfl
  subst r25
  clear hR
  simp only [List.cons_append, List.nil_append, putAll, Act.put, List.setIfInBounds_toArray, List.set_cons_zero, List.set_cons_succ]
  have y0 := x0.old hB
  have y1 := x1.old hB
  have hbe := hbW.trans (hB.mono hbW.size)
  clear x0 x1 s0 s1 v0 v1 v2 hB HS2 hbW
  obtain ⟨wb, rfl⟩ : ∃ wb : World, wb = wr := ⟨_, rfl⟩
  rw [HTX.out]
  cases hg : (decide (checkSig (s.types.map sig) s.syms = 0) && headOk (kindsOf (s.types.map sig)) ety etm)
  · as_aux_lemma =>
    have hres : RES = false := by rw [← HR.out]; unfold validB EventV.sig; rw [← Bool.and_assoc, hg]; rfl
    have HRS := Lib.hid hres
    clear hres hg
    go_wp2
    go_ret
    exact ⟨ret_bool HRS.out.symm, hbe⟩
  · as_aux_lemma =>
    have hres : RES = rowFits s.syms.length ((kindsOf (s.types.map sig)).getD ety.toNat []) eat := by rw [← HR.out]; unfold validB EventV.sig; rw [← Bool.and_assoc, hg]; rfl
    have hty : 0 ≤ ety ∧ ety.toNat < s.types.length := by
      rw [Bool.and_eq_true] at hg
      have := hg.2
      unfold headOk at this
      rw [Bool.and_eq_true] at this
      have := of_decide_eq_true this.1
      rwa [kindsOf_types, List.length_map] at this
    obtain ⟨tn, rfl⟩ : ∃ tn : Nat, ety = tn := ⟨ety.toNat, by omega⟩
    have htn : tn < s.types.length := by omega
    rw [Int.toNat_natCast, kindsOf_types, List.getD_eq_getElem?_getD, List.getElem?_map, List.getElem?_eq_getElem htn] at hres
    obtain ⟨kb, ko, hta, hkb, hkc⟩ := (HS.out.rd.below hbe).elem (n := 2) (fun _ => rfl) (by omega) htn
    have hx := HS.out.each s.types[tn] (List.getElem_mem _)
    generalize s.types[tn] = T at *
    have ck0 : wb.cell? ⟨kb, ko + tn * 2, none⟩ = some (.string T.name) := hkc 0 _ rfl
    have ck1 : wb.cell? ⟨kb, ko + tn * 2 + 1, none⟩ = some (.slice T.fa T.fields.length T.fc) := hkc 1 _ rfl
    have XR := Lib.hid (hx.rd.below hbe)
    have hfl : T.fields.length ≤ 5864062014634 := hx.len
    replace hres : RES = rowFits s.syms.length (tkinds T) eat := hres
    have HRS := Lib.hid hres
    have htI : (tn : Int) < (s.types.length : Int) := by omega
    have s0 := y0.cell 0
    have s1 := y0.cell 1
    have v0 := y1.cell 0
    have v2 := y1.cell 2
    rw [hta]
    rw [hta] at s0
    have HTA := Lib.hid hta
    clear hx hkc hres hg hty hta
    by_cases hlen : eat.length = T.fields.length
    · have hlk : (tkinds T).length = T.fields.length := by simp [tkinds]
      have hres2 : RES = attrsOk s.syms.length (tkinds T) eat := by rw [HRS.out]; unfold rowFits; rw [decide_eq_true (hlen.trans hlk.symm)]; rfl
      have HR2 : Hid (RES = attrsOk s.syms.length ((tkinds T).drop 0) (eat.drop 0)) := Lib.hid hres2
      have HLEN := Lib.hid hlen
      have HLK := Lib.hid hlk
      have hel : eat.length ≤ 8796093021952 := HE.out.len
      have hlB : (eat.length != T.fields.length) = false := by rw [hlen]; simp
      clear hres2 hlen hlk
      go_wp2
      clear s0 v0 v2 hlB ck0 ck1
      go_loopw [50] (fun i wr => ∃ k : Nat, k ≤ eat.length ∧ i = .int .i64 k ∧ Below wb.heap.size wb wr ∧ Hid (RES = attrsOk s.syms.length ((tkinds T).drop k) (eat.drop k))) (fun i _ => eat.length - (intOf i).toNat)
      case atStart => exact ⟨0, Nat.zero_le _, rfl, Below.refl _ _, HR2⟩
      case round =>
        obtain ⟨k, hk, rfl, hbl, hrec⟩ := hrel
        obtain ⟨wl, rfl⟩ : ∃ wl : World, wl = wr := ⟨_, rfl⟩
        by_cases hlk : k < eat.length
        · as_aux_lemma =>
          have hrk : k < T.fields.length := by rw [← HLEN.out]; exact hlk
          have hrk2 : k < (tkinds T).length := by rw [HLK.out]; exact hrk
          obtain ⟨vb, vo, rfl, hvb, hvc⟩ := (((show Rd w w.heap.size eA (eat.flatMap V.cells) from HE.out.rd).below hbe).below (hbl.mono hbe.size)).elem (n := 2) (fun _ => rfl) (by omega) hlk
          obtain ⟨rb, ro, hrA, hrb, hrc⟩ := (XR.out.below (hbl.mono hbe.size)).elem (n := 2) (fun _ => rfl) (by omega) hrk
          have hfit : eat[k].fits := HE.out.fits _ (List.getElem_mem _)
          have hrec2 := hrec.out
          rw [attrsOk_drop s.syms.length k (tkinds T) eat (by rw [HLK.out]; exact HLEN.out.symm) hlk hrk2] at hrec2
          rw [show (tkinds T)[k] = T.fields[k].kind from by simp [tkinds]] at hrec2
          have HREC := Lib.hid hrec2
          clear hrec hrec2
          generalize eat[k] = x at *
          generalize T.fields[k] = fd at *
          have hv0 : wl.cell? ⟨vb, vo + k * 2, none⟩ = some (.int .i64 x.k) := hvc 0 _ rfl
          have hv1 : wl.cell? ⟨vb, vo + k * 2 + 1, none⟩ = some (.int .u64 x.b) := hvc 1 _ rfl
          have hr1 : wl.cell? ⟨rb, ro + k * 2 + 1, none⟩ = some (.int .i64 fd.kind) := hrc 1 _ rfl
          clear hvc hrc
          have hbW : Below wl.heap.size wl (wl.alloc (.cells #[.int .i64 x.k, .int .u64 x.b] 68)) := (Below.refl _ _).alloc (Nat.le_refl _) _
          have kv := Bk.new wl 68 #[.int .i64 x.k, .int .u64 x.b]
          have hkI : (k : Int) < (eat.length : Int) := by omega
          have hrI : (k : Int) < (T.fields.length : Int) := by omega
          rw [hrA]
          have HRA := Lib.hid hrA
          clear hrA
          go_wp2_with fail
          generalize wl.alloc (.cells #[.int .i64 x.k, .int .u64 x.b] 68) = W at *
          have hbM : Below wb.heap.size wb W := hbl.trans (hbW.mono hbl.size)
          have q1 := (y0.old hbM).cell 1
          have cr := (bcell hbW _ _ (World.block_lt_of_cell? _ _ hr1)).trans hr1
          have v0 := kv.cell 0
          have v1 := kv.cell 1
          have hsy : s.syms.length ≤ 8796093021952 := HS.out.slen
          clear hv0 hv1 hr1 hbW hbl kv
          refine wp_region_b (by kernel_rfl) (fun qk => (rvR9 s T rb ro k fd x w wl).getD qk .any) (by kernel_rfl) ?_ ?_
          · refine BOk.cons rfl [] [7] rfl rfl (by kernel_rfl) (by kernel_rfl) (fun qK qa wr hB qO qF hK => ?_) ?_
            · have e7 : qa.tmps[7]? = some (.pointer (some ⟨wl.heap.size, 0, none⟩)) := qO.1.trans rfl
              clear qO qF
              go_simp
              exact hK _ _ (Below.refl _ _) rfl
            refine BOk.cons rfl [0] [] rfl rfl (by kernel_rfl) (by kernel_rfl) (fun qK qa wr hB qO qF hK => ?_) ?_
            · have e55 : qa.tmps[55]? = some (.pointer (some ⟨wl.heap.size, 0, none⟩)) := fis qF.1 rfl rfl
              clear qO qF
              have hv0 := (bcell hB _ _ (World.block_lt_of_cell? _ _ v0)).trans v0
              go_simp
              exact hK _ _ (Below.refl _ _) rfl
            refine BOk.cons rfl [] [5] rfl rfl (by kernel_rfl) (by kernel_rfl) (fun qK qa wr hB qO qF hK => ?_) ?_
            · have e5 : qa.tmps[5]? = some (.slice (some ⟨rb, ro, none⟩) T.fields.length T.fc) := qO.1.trans rfl
              clear qO qF
              go_simp
              exact hK _ _ (Below.refl _ _) rfl
            refine BOk.cons rfl [] [6] rfl rfl (by kernel_rfl) (by kernel_rfl) (fun qK qa wr hB qO qF hK => ?_) ?_
            · have e6 : qa.tmps[6]? = some (.int .i64 (k : Nat)) := qO.1.trans rfl
              clear qO qF
              go_simp
              exact hK _ _ (Below.refl _ _) rfl
            refine BOk.cons rfl [2, 3] [] rfl rfl (by kernel_rfl) (by kernel_rfl) (fun qK qa wr hB qO qF hK => ?_) ?_
            · have e57 : qa.tmps[57]? = some (.slice (some ⟨rb, ro, none⟩) T.fields.length T.fc) := fis qF.1 rfl rfl
              have e58 : qa.tmps[58]? = some (.int .i64 (k : Nat)) := fis qF.2.1 rfl rfl
              clear qO qF
              go_simp
              exact hK _ _ (Below.refl _ _) rfl
            refine BOk.cons rfl [4] [] rfl rfl (by kernel_rfl) (by kernel_rfl) (fun qK qa wr hB qO qF hK => ?_) ?_
            · have e59 : qa.tmps[59]? = some (.pointer (some ⟨rb, ro + k * 2, none⟩)) := fis qF.1 rfl rfl
              clear qO qF
              go_simp
              exact hK _ _ (Below.refl _ _) rfl
            refine BOk.cons rfl [5] [] rfl rfl (by kernel_rfl) (by kernel_rfl) (fun qK qa wr hB qO qF hK => ?_) ?_
            · have e60 : qa.tmps[60]? = some (.pointer (some ⟨rb, ro + k * 2 + 1, none⟩)) := fis qF.1 rfl rfl
              clear qO qF
              have hcr := (bcell hB _ _ (World.block_lt_of_cell? _ _ cr)).trans cr
              go_simp
              exact hK _ _ (Below.refl _ _) rfl
            refine BOk.cons rfl [1, 6] [] rfl rfl (by kernel_rfl) (by kernel_rfl) (fun qK qa wr hB qO qF hK => ?_) ?_
            · have e56 : qa.tmps[56]? = some (.int .i64 x.k) := fis qF.1 rfl rfl
              have e61 : qa.tmps[61]? = some (.int .i64 fd.kind) := fis qF.2.1 rfl rfl
              clear qO qF
              go_simp
              refine hK _ _ (Below.refl _ _) ?_
              show (_ : Value) = _
              first | rfl | (simp; done) | (simp; omega) | (congr 1; simp; done) | (congr 1; rw [decide_eq_decide]; omega) | exact congrArg Value.bool (nat_bne _ _) | exact congrArg Value.bool (nat_beq _ _)
            refine BOk.cons rfl [7] [] rfl rfl (by kernel_rfl) (by kernel_rfl) (fun qK qa wr hB qO qF hK => ?_) ?_
            · have e62 : qa.tmps[62]? = some (.bool ((x.k != fd.kind))) := fis qF.1 rfl rfl
              clear qO qF
              go_simp
              exact hK _ _ (Below.refl _ _) (by first | rfl | (show (_ : Value) = _; simp_all; done))
            refine BOk.optT rfl [] [7] rfl 8 false rfl rfl rfl rfl (by kernel_rfl) (by kernel_rfl) (by kernel_rfl) (fun hp hc hP qK qa wr hB qO qF hK => ?_) ?_
            · have e7 : qa.tmps[7]? = some (.pointer (some ⟨wl.heap.size, 0, none⟩)) := qO.1.trans rfl
              clear qO qF
              have hv0 := (bcell hB _ _ (World.block_lt_of_cell? _ _ v0)).trans v0
              have hv1 := (bcell hB _ _ (World.block_lt_of_cell? _ _ v1)).trans v1
              go_simp
              exact hK _ _ (Below.refl _ _) rfl
            refine BOk.optT rfl [9] [] rfl 8 false rfl rfl rfl rfl (by kernel_rfl) (by kernel_rfl) (by kernel_rfl) (fun hp hc hP qK qa wr hB qO qF hK => ?_) ?_
            · have e64 : qa.tmps[64]? = some (.agg #[.int .i64 x.k, .int .u64 x.b]) := fif qF.1 rfl hP rfl
              clear qO qF
              go_simp
              go_at_call 60
              refine (rclean_any x hfit _).mono ?_
              rintro e9 w3 ⟨rfl, hb3⟩
              simp only [V.v]
              exact hK _ _ hb3 rfl
            refine BOk.optT rfl [] [7] rfl 8 false rfl rfl rfl rfl (by kernel_rfl) (by kernel_rfl) (by kernel_rfl) (fun hp hc hP qK qa wr hB qO qF hK => ?_) ?_
            · have e7 : qa.tmps[7]? = some (.pointer (some ⟨wl.heap.size, 0, none⟩)) := qO.1.trans rfl
              clear qO qF
              have hv0 := (bcell hB _ _ (World.block_lt_of_cell? _ _ v0)).trans v0
              have hv1 := (bcell hB _ _ (World.block_lt_of_cell? _ _ v1)).trans v1
              go_simp
              exact hK _ _ (Below.refl _ _) rfl
            refine BOk.optT rfl [10, 11] [] rfl 8 false rfl rfl rfl rfl (by kernel_rfl) (by kernel_rfl) (by kernel_rfl) (fun hp hc hP qK qa wr hB qO qF hK => ?_) ?_
            · have e65 : qa.tmps[65]? = some (.agg #[.int .i64 (clean x).k, .int .u64 (clean x).b]) := fif qF.1 rfl hP rfl
              have e66 : qa.tmps[66]? = some (.agg #[.int .i64 x.k, .int .u64 x.b]) := fif qF.2.1 rfl hP rfl
              clear qO qF
              have hnq := neq_V2 (clean x).k (clean x).b x.k x.b
              go_simp
              refine hK _ _ (Below.refl _ _) ?_
              show (_ : Value) = _
              exact congrArg Value.bool (clean_text x)
            refine BOk.cons rfl [8, 12] [] rfl rfl (by kernel_rfl) (by kernel_rfl) (fun qK qa wr hB qO qF hK => ?_) ?_
            · have e63 : qa.tmps[63]? = some (.bool ((x.k != fd.kind))) := fis qF.1 rfl rfl
              obtain ⟨u67, e67, r12⟩ := qF.2.1
              have r12 : u67 = (bif (true && (((x.k != fd.kind)) == false)) then .bool (!cleanB x) else undef) := r12
              clear qO qF
              rcases (Bool.eq_false_or_eq_true (((x.k != fd.kind)))).symm with hcc | hcc
              · rw [hcc] at e63
                have e67 : qa.tmps[67]? = some (.bool ((!cleanB x))) := (show u67 = .bool ((!cleanB x)) from r12.trans (by (first | rw [hcc] | skip); first | rfl | (rw [hP]; rfl))) ▸ e67
                go_simp
                exact hK _ _ (Below.refl _ _) (by show (_ : Value) = _; first | (rw [hcc]; first | rfl | (simp; done)) | (simp_all; done))
              · rw [hcc] at e63
                go_simp
                exact hK _ _ (Below.refl _ _) (by show (_ : Value) = _; first | (rw [hcc]; first | rfl | (simp; done)) | (simp_all; done))
            refine BOk.cons rfl [13] [] rfl rfl (by kernel_rfl) (by kernel_rfl) (fun qK qa wr hB qO qF hK => ?_) ?_
            · have e68 : qa.tmps[68]? = some (.bool (((x.k != fd.kind)) || (!cleanB x))) := fis qF.1 rfl rfl
              clear qO qF
              go_simp
              exact hK _ _ (Below.refl _ _) (by first | rfl | (show (_ : Value) = _; simp_all; done))
            refine BOk.optT rfl [] [7] rfl 14 false rfl rfl rfl rfl (by kernel_rfl) (by kernel_rfl) (by kernel_rfl) (fun hp hc hP qK qa wr hB qO qF hK => ?_) ?_
            · have e7 : qa.tmps[7]? = some (.pointer (some ⟨wl.heap.size, 0, none⟩)) := qO.1.trans rfl
              clear qO qF
              go_simp
              exact hK _ _ (Below.refl _ _) rfl
            refine BOk.optT rfl [15] [] rfl 14 false rfl rfl rfl rfl (by kernel_rfl) (by kernel_rfl) (by kernel_rfl) (fun hp hc hP qK qa wr hB qO qF hK => ?_) ?_
            · have e70 : qa.tmps[70]? = some (.pointer (some ⟨wl.heap.size, 0, none⟩)) := fif qF.1 rfl hP rfl
              clear qO qF
              have hv0 := (bcell hB _ _ (World.block_lt_of_cell? _ _ v0)).trans v0
              go_simp
              exact hK _ _ (Below.refl _ _) rfl
            refine BOk.optT rfl [16] [] rfl 14 false rfl rfl rfl rfl (by kernel_rfl) (by kernel_rfl) (by kernel_rfl) (fun hp hc hP qK qa wr hB qO qF hK => ?_) ?_
            · have e71 : qa.tmps[71]? = some (.int .i64 x.k) := fif qF.1 rfl hP rfl
              clear qO qF
              go_simp
              refine hK _ _ (Below.refl _ _) ?_
              show (_ : Value) = _
              first | rfl | (simp; done) | (simp; omega) | (congr 1; simp; done) | (congr 1; rw [decide_eq_decide]; omega) | exact congrArg Value.bool (nat_bne _ _) | exact congrArg Value.bool (nat_beq _ _)
            refine BOk.optT rfl [17] [] rfl 14 false rfl rfl rfl rfl (by kernel_rfl) (by kernel_rfl) (by kernel_rfl) (fun hp hc hP qK qa wr hB qO qF hK => ?_) ?_
            · have e72 : qa.tmps[72]? = some (.bool ((x.k == 3))) := fif qF.1 rfl hP rfl
              clear qO qF
              go_simp
              exact hK _ _ (Below.refl _ _) (by first | rfl | (show (_ : Value) = _; simp_all; done))
            refine BOk.optX rfl [] [7] rfl 18 true rfl rfl rfl rfl (by kernel_rfl) (by kernel_rfl) (by kernel_rfl) (fun hp hc hP qK qa wr hB qO qF hK => ?_) ?_
            · have e7 : qa.tmps[7]? = some (.pointer (some ⟨wl.heap.size, 0, none⟩)) := qO.1.trans rfl
              clear qO qF
              go_simp
              exact hK _ _ (Below.refl _ _) rfl
            refine BOk.optX rfl [19] [] rfl 18 true rfl rfl rfl rfl (by kernel_rfl) (by kernel_rfl) (by kernel_rfl) (fun hp hc hP qK qa wr hB qO qF hK => ?_) ?_
            · have e74 : qa.tmps[74]? = some (.pointer (some ⟨wl.heap.size, 1, none⟩)) := fif qF.1 rfl hP rfl
              clear qO qF
              have hv1 := (bcell hB _ _ (World.block_lt_of_cell? _ _ v1)).trans v1
              go_simp
              exact hK _ _ (Below.refl _ _) rfl
            refine BOk.optX rfl [] [2] rfl 18 true rfl rfl rfl rfl (by kernel_rfl) (by kernel_rfl) (by kernel_rfl) (fun hp hc hP qK qa wr hB qO qF hK => ?_) ?_
            · have e2 : qa.tmps[2]? = some (.pointer (some ⟨w.heap.size, 0, none⟩)) := qO.1.trans rfl
              clear qO qF
              go_simp
              exact hK _ _ (Below.refl _ _) rfl
            refine BOk.optX rfl [21] [] rfl 18 true rfl rfl rfl rfl (by kernel_rfl) (by kernel_rfl) (by kernel_rfl) (fun hp hc hP qK qa wr hB qO qF hK => ?_) ?_
            · have e76 : qa.tmps[76]? = some (.pointer (some ⟨w.heap.size, 1, none⟩)) := fif qF.1 rfl hP rfl
              clear qO qF
              have hq1 := (bcell hB _ _ (World.block_lt_of_cell? _ _ q1)).trans q1
              go_simp
              exact hK _ _ (Below.refl _ _) rfl
            refine BOk.optX rfl [22] [] rfl 18 true rfl rfl rfl rfl (by kernel_rfl) (by kernel_rfl) (by kernel_rfl) (fun hp hc hP qK qa wr hB qO qF hK => ?_) ?_
            · have e77 : qa.tmps[77]? = some (.slice s.sa s.syms.length s.sc) := fif qF.1 rfl hP rfl
              clear qO qF
              go_simp
              exact hK _ _ (Below.refl _ _) rfl
            refine BOk.optX rfl [23] [] rfl 18 true rfl rfl rfl rfl (by kernel_rfl) (by kernel_rfl) (by kernel_rfl) (fun hp hc hP qK qa wr hB qO qF hK => ?_) ?_
            · have e78 : qa.tmps[78]? = some (.int .i64 (s.syms.length : Nat)) := fif qF.1 rfl hP rfl
              clear qO qF
              go_simp
              exact hK _ _ (Below.refl _ _) (by first | rfl | exact congrArg (Value.int .u64) (u64w s.syms.length (by omega)))
            refine BOk.optX rfl [20, 24] [] rfl 18 true rfl rfl rfl rfl (by kernel_rfl) (by kernel_rfl) (by kernel_rfl) (fun hp hc hP qK qa wr hB qO qF hK => ?_) ?_
            · have e75 : qa.tmps[75]? = some (.int .u64 x.b) := fif qF.1 rfl hP rfl
              have e79 : qa.tmps[79]? = some (.int .u64 (s.syms.length : Nat)) := fif qF.2.1 rfl hP rfl
              clear qO qF
              go_simp
              refine hK _ _ (Below.refl _ _) ?_
              show (_ : Value) = _
              first | rfl | (simp; done) | (simp; omega) | (congr 1; simp; done) | (congr 1; rw [decide_eq_decide]; omega) | exact congrArg Value.bool (nat_bne _ _) | exact congrArg Value.bool (nat_beq _ _)
            refine BOk.optT rfl [18, 25] [] rfl 14 false rfl rfl rfl rfl (by kernel_rfl) (by kernel_rfl) (by kernel_rfl) (fun hp hc hP qK qa wr hB qO qF hK => ?_) ?_
            · have e73 : qa.tmps[73]? = some (.bool ((x.k == 3))) := fif qF.1 rfl hP rfl
              obtain ⟨u80, e80, r25⟩ := qF.2.1
              have r25 : u80 = (bif ((true && ((((x.k != fd.kind)) || (!cleanB x)) == false)) && (((x.k == 3)) == true)) then .bool (decide ((s.syms.length : Nat) ≤ x.b)) else undef) := r25
              clear qO qF
              rcases (Bool.eq_false_or_eq_true (((x.k == 3)))).symm with hcc | hcc
              · rw [hcc] at e73
                go_simp
                exact hK _ _ (Below.refl _ _) (by show (_ : Value) = _; first | (rw [hcc]; first | rfl | (simp; done)) | (simp_all; done))
              · rw [hcc] at e73
                have e80 : qa.tmps[80]? = some (.bool ((decide ((s.syms.length : Nat) ≤ x.b)))) := (show u80 = .bool ((decide ((s.syms.length : Nat) ≤ x.b))) from r25.trans (by (first | rw [hcc] | skip); first | rfl | (rw [hP]; rfl))) ▸ e80
                go_simp
                exact hK _ _ (Below.refl _ _) (by show (_ : Value) = _; first | (rw [hcc]; first | rfl | (simp; done)) | (simp_all; done))
            refine BOk.cons rfl [14, 26] [] rfl rfl (by kernel_rfl) (by kernel_rfl) (fun qK qa wr hB qO qF hK => ?_) ?_
            · have e69 : qa.tmps[69]? = some (.bool (((x.k != fd.kind)) || (!cleanB x))) := fis qF.1 rfl rfl
              obtain ⟨u81, e81, r26⟩ := qF.2.1
              have r26 : u81 = (bif (true && ((((x.k != fd.kind)) || (!cleanB x)) == false)) then .bool (((x.k == 3)) && (decide ((s.syms.length : Nat) ≤ x.b))) else undef) := r26
              clear qO qF
              rcases (Bool.eq_false_or_eq_true ((((x.k != fd.kind)) || (!cleanB x)))).symm with hcc | hcc
              · rw [hcc] at e69
                have e81 : qa.tmps[81]? = some (.bool ((((x.k == 3)) && (decide ((s.syms.length : Nat) ≤ x.b))))) := (show u81 = .bool ((((x.k == 3)) && (decide ((s.syms.length : Nat) ≤ x.b)))) from r26.trans (by (first | rw [hcc] | skip); first | rfl | (rw [hP]; rfl))) ▸ e81
                go_simp
                exact hK _ _ (Below.refl _ _) (by show (_ : Value) = _; first | (rw [hcc]; first | rfl | (simp; done)) | (simp_all; done))
              · rw [hcc] at e69
                go_simp
                exact hK _ _ (Below.refl _ _) (by show (_ : Value) = _; first | (rw [hcc]; first | rfl | (simp; done)) | (simp_all; done))
            exact BOk.nil
          intro vals wr hl hB hR
          match vals, hl with
          | [y55, y56, y57, y58, y59, y60, y61, y62, y63, y64, y65, y66, y67, y68, y69, y70, y71, y72, y73, y74, y75, y76, y77, y78, y79, y80, y81, y82], _ =>
          have r27 : y82 = .bool ((((x.k != fd.kind)) || (!cleanB x)) || (((x.k == 3)) && (decide ((s.syms.length : Nat) ≤ x.b)))) := hR 27 _ rfl
          subst r27
          clear hR
          simp only [List.cons_append, List.nil_append, putAll, Act.put, List.setIfInBounds_toArray, List.set_cons_zero, List.set_cons_succ]
          have hbR := hbM.trans (hB.mono hbM.size)
          clear hB hbM q1 cr v0 v1
          rw [attr_text]
          cases hat : attrOk s.syms.length fd.kind x
          · rw [hat, Bool.false_and] at HREC
            clear hat
            go_wp2
            go_ret
            exact ⟨ret_bool HREC.out.symm, hbe.trans (hbR.mono hbe.size)⟩
          · rw [hat, Bool.true_and] at HREC
            clear hat
            go_wp2
            go_roundw
            case rel => exact ⟨k + 1, by omega, by go_num, hbR, HREC⟩
            case measure => simp [intOf]; omega
        · as_aux_lemma =>
          obtain rfl : k = eat.length := by omega
          have hend : RES = true := by rw [hrec.out, attrsOk_end _ _ _ _ (by rw [HLK.out, HLEN.out]; exact Nat.le_refl _) (Nat.le_refl _)]
          have HEND := Lib.hid hend
          clear hrec hend
          go_wp2
          go_ret
          exact ⟨ret_bool HEND.out.symm, hbe.trans (hbl.mono hbe.size)⟩
    · have hlk : (tkinds T).length = T.fields.length := by simp [tkinds]
      have hres2 : RES = false := by rw [HRS.out]; unfold rowFits; rw [decide_eq_false (by rw [hlk]; exact hlen)]; rfl
      have HEND := Lib.hid hres2
      clear hres2 hlk
      go_wp2
      go_ret
      exact ⟨ret_bool HEND.out.symm, hbe⟩
end Go.Proofs.YtpakcicbojbonaaGreatDoor
