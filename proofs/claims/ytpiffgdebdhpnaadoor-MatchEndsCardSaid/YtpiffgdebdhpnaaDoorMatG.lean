/- Layer 10: which matches are well made, by the document: of matches of bounded bulk. No conditions. -/
import Derived.Test.YtpiffgdebdhpnaaDoorMatF
import Derived.BigQuiet
namespace Go.Proofs.YtpiffgdebdhpnaaDoor
open Go.RowKit
set_option maxRecDepth 10000
set_option linter.unusedVariables false
set_option linter.unusedSimpArgs false

/-- Through the places, each looked at: the last. -/
def chk (n p : Int) : List Int → Option Int
  | [] => some p
  | x :: l => if p < x ∧ 0 ≤ x ∧ x < n then chk n x l else none
def finG (st n : Int) : Option Int → Bool
  | none => false
  | some q => decide (st ≤ n) && decide (q ≤ st)
def okL (L : List (List Int)) : Bool := L.all fun l => decide (0 < l.length)
theorem chk_asc (n : Int) : ∀ (l : List Int) (p : Int), -1 ≤ p → chk n p l = match ascT p l with | none => none | some q => if l = [] ∨ q < n then some q else none
  | [], p, _ => rfl
  | x :: l, p, h => by
    show (if p < x ∧ 0 ≤ x ∧ x < n then chk n x l else none) = match (if x ≤ p then none else ascT x l) with | none => none | some q => if x :: l = [] ∨ q < n then some q else none
    by_cases h1 : x ≤ p
    · rw [if_pos h1, if_neg (by omega)]
    · rw [if_neg h1]
      by_cases h2 : x < n
      · rw [if_pos (by omega), chk_asc n l x (by omega)]
        cases h3 : ascT x l with
        | none => rfl
        | some q =>
          show (if l = [] ∨ q < n then some q else none) = if x :: l = [] ∨ q < n then some q else none
          by_cases h4 : q < n
          · rw [if_pos (.inr h4), if_pos (.inr h4)]
          · cases l with
            | nil => simp [ascT] at h3; omega
            | cons y l => rw [if_neg (by simp; omega), if_neg (by simp; omega)]
      · rw [if_neg (by omega)]
        cases h3 : ascT x l with
        | none => rfl
        | some q =>
          have := (asc_range l x q h3).1
          show none = if x :: l = [] ∨ q < n then some q else none
          rw [if_neg (by simp; omega)]
theorem asc_cat : ∀ (a b : List Int) (p : Int), ascT p (a ++ b) = match ascT p a with | none => none | some q => ascT q b
  | [], b, p => rfl
  | x :: a, b, p => by
    show (if x ≤ p then none else ascT x (a ++ b)) = match (if x ≤ p then none else ascT x a) with | none => none | some q => ascT q b
    by_cases h1 : x ≤ p
    · rw [if_pos h1, if_pos h1]
    · rw [if_neg h1, if_neg h1, asc_cat a b x]
theorem parts_flat : ∀ (L : List (List Int)) (p : Int), partsT p L = if okL L = true then ascT p L.flatten else none
  | [], p => rfl
  | l :: L, p => by
    show (if l.length = 0 then none else match ascT p l with | none => none | some q => partsT q L) = _
    have h0 : okL (l :: L) = (decide (0 < l.length) && okL L) := rfl
    rw [h0, List.flatten_cons, asc_cat]
    by_cases h1 : l.length = 0
    · rw [if_pos h1, decide_eq_false (by omega), Bool.false_and, if_neg (by decide)]
    · rw [if_neg h1, decide_eq_true (by omega), Bool.true_and]
      cases ascT p l with
      | none => by_cases h5 : okL L = true <;> simp [h5]
      | some q => exact parts_flat L q
theorem flat_nil : ∀ (L : List (List Int)), okL L = true → 0 < L.length → L.flatten ≠ []
  | l :: L, h, _ => by
    have h0 : okL (l :: L) = (decide (0 < l.length) && okL L) := rfl
    rw [h0, Bool.and_eq_true, decide_eq_true_eq] at h
    cases l with
    | nil => exact absurd h.1 (by simp)
    | cons x l => simp
theorem good_chk (st br n : Int) (L : List (List Int)) : goodB st br n L = ((decide (0 ≤ br) && decide (0 < L.length)) && okL L && finG st n (chk n (-1) L.flatten)) := by
  unfold goodB
  rw [parts_flat, chk_asc n _ (-1) (by omega)]
  by_cases h1 : okL L = true
  · rw [if_pos h1, h1, Bool.and_true]
    by_cases h2 : 0 < L.length
    · have h3 := flat_nil L h1 h2
      cases h4 : ascT (-1) L.flatten with
      | none => simp [finG]
      | some q =>
        have h5 : 0 ≤ q := by
          cases h6 : L.flatten with
          | nil => exact absurd h6 h3
          | cons x l =>
            rw [h6] at h4
            have := (asc_range _ _ _ h4).2 x (by simp)
            omega
        show lastB st br n q = ((decide (0 ≤ br) && decide (0 < L.length)) && finG st n (if L.flatten = [] ∨ q < n then some q else none))
        by_cases h7 : q < n
        · rw [if_pos (.inr h7)]
          rw [Bool.eq_iff_iff]
          simp only [lastB, finG, Bool.and_eq_true, decide_eq_true_eq]
          omega
        · rw [if_neg (by simp [h3]; omega)]
          simp [lastB, finG, h7]
    · have h3 : L = [] := by cases L with | nil => rfl | cons _ _ => simp at h2
      subst h3
      simp [lastB, ascT, okL]
  · rw [if_neg h1]
    have h2 : okL L = false := by simpa using h1
    rw [h2]; simp
theorem infoI9 : (Tryd.prog.info? 3).map (fun i => (i.zero, i.size, i.bytes)) = some (some (.int .i64 0), 1, 8) := by kernel_rfl
theorem flat_snoc2 (L : List (List Int)) (k : Nat) (h : k < L.length) : (L.take (k + 1)).flatten = (L.take k).flatten ++ L[k] := by
  rw [List.take_succ_eq_append_getElem h, List.flatten_append]; simp
theorem okL_snoc (L : List (List Int)) (k : Nat) (h : k < L.length) : okL (L.take (k + 1)) = (okL (L.take k) && decide (0 < L[k].length)) := by
  unfold okL
  rw [List.take_succ_eq_append_getElem h, List.all_append]; simp

set_option maxRecDepth 100000 in
set_option maxHeartbeats 8000000 in
theorem rgood_any (m : MatV) (n : Int) (w : World) (h : m.ok w w.heap.size) (hrl : m.rows.length ≤ 1048576) (hrr : ∀ r ∈ m.rows, r.l.length ≤ 1048576) :
    Calls Tryd.prog 12 #[m.val, .int .i64 n] w fun r w' => r = .returned (.bool (goodB m.step m.branch n m.L)) ∧ Below w.heap.size w w' := by
  obtain ⟨iI, hI, hI0, hI1, hI2⟩ := info_parts infoI9
  have HM := Lib.hid h
  obtain ⟨mA, hmA⟩ : ∃ mA, m.A = mA := ⟨_, rfl⟩
  have HMA := Lib.hid hmA
  have HRR := Lib.hid hrr
  have x0 := Bk.new w 24 #[.int .i64 m.step, .int .i64 m.branch, .slice m.A m.rows.length m.c]
  have hbW : Below w.heap.size w (w.alloc (.cells #[.int .i64 m.step, .int .i64 m.branch, .slice m.A m.rows.length m.c] 24)) := (Below.refl _ _).alloc (Nat.le_refl _) _
  clear h hrr
  obtain ⟨RES, hres⟩ : ∃ RES, goodB m.step m.branch n m.L = RES := ⟨_, rfl⟩
  rw [hres]
  rw [good_chk] at hres
  have hLl : m.L.length = m.rows.length := by simp [MatV.L]
  rw [hLl] at hres
  obtain ⟨K0, hK0⟩ : ∃ K0, (decide (0 ≤ m.branch) && decide (0 < m.rows.length)) = K0 := ⟨_, rfl⟩
  rw [hK0] at hres
  have HR := Lib.hid hres
  have HK0 := Lib.hid hK0
  clear hres hK0 hLl
  unfold MatV.val
  rw [hmA] at x0 hbW ⊢
  clear hmA
  go_enter Tryd.func12, Tryd.ntmps12
  have hcase : K0 = true ∧ 0 ≤ m.branch ∧ (0 : Int) < (m.rows.length : Int) ∧ 0 < m.rows.length ∨ K0 = false ∧ 0 ≤ m.branch ∧ ¬ (0 : Int) < (m.rows.length : Int) ∧ ¬ 0 < m.rows.length ∨ K0 = false ∧ ¬ 0 ≤ m.branch := by
    have h := HK0.out
    by_cases h1 : 0 ≤ m.branch
    · by_cases h2 : 0 < m.rows.length
      · exact .inl ⟨by rw [← h]; simp [h1, h2], h1, by omega, h2⟩
      · exact .inr (.inl ⟨by rw [← h]; simp [h1, h2], h1, by omega, h2⟩)
    · exact .inr (.inr ⟨by rw [← h]; simp [h1], h1⟩)
  clear HK0
  have s0 := x0.cell 0
  have s1 := x0.cell 1
  have s2 := x0.cell 2
  rcases hcase with ⟨rfl, h1, h2, h3⟩ | ⟨rfl, h1, h2, h3⟩ | ⟨rfl, h1⟩
  case' inr.inr =>
    have h2 : 0 ≤ (0 : Int) := by omega
    have h3 : 0 ≤ (0 : Int) := by omega
  all_goals
    have H3 := Lib.hid h3
    clear h3
    go_wp2
    clear h1 h2 s0 s1 s2
    generalize w.alloc (.cells #[.int .i64 m.step, .int .i64 m.branch, .slice mA m.rows.length m.c] 24) = W at *
    go_loopw [5, 6, 23] (fun v okk i wr => ∃ (k N : Nat) (A : Option Addr) (c : Nat) (ok : Bool), k ≤ m.rows.length ∧ N ≤ k * 1048576 ∧ v = .slice A N c ∧ okk = .bool ok ∧ i = .int .i64 k ∧ Below w.heap.size w wr ∧ w.heap.size + 1 ≤ wr.heap.size ∧ Bk wr w.heap.size 24 #[.int .i64 m.step, .int .i64 m.branch, .slice mA m.rows.length m.c] ∧
      wr.ownsRow (w.heap.size + 1) 3 1 (.slice A N c) N (ints (m.L.take k).flatten) ∧ Hid (N = (m.L.take k).flatten.length) ∧ Hid (ok = true → 0 < m.rows.length ∧ okL (m.L.take k) = true) ∧ Hid ((ok && okL (m.L.drop k) && finG m.step n (chk n (-1) m.L.flatten)) = RES)) (fun _ _ i _ => m.rows.length - (intOf i).toNat)
    case atStart => exact ⟨0, 0, none, 0, _, Nat.zero_le _, Nat.zero_le _, rfl, rfl, rfl, hbW, x0.lt, x0, World.ownsRow_nil _ _ _ _, rfl, Lib.hid (fun h => by first | exact ⟨of_decide_eq_true h, rfl⟩ | (simp at h; done)), Lib.hid (by have h := HR.out; have h3 := H3.out; first | exact h | (simpa [h3] using h) | (simp at h3; simpa [h3] using h))⟩
    case round =>
      clear HR
      obtain ⟨k, N, A, c, ok, hk, hN, rfl, rfl, rfl, hbel, hsz, y0, hown, hNl, hinv, hrec⟩ := hrel
      by_cases hlt : k < m.rows.length
      · as_aux_lemma =>
        obtain ⟨ab, ao, hA, hab, hac⟩ := (HM.out.rd.below hbel).elem (n := 1) (fun _ => rfl) (by omega) hlt
        have r0 : wr.cell? ⟨ab, ao + k * 1, none⟩ = some (.slice m.rows[k].A m.rows[k].l.length m.rows[k].c) := hac 0 _ rfl
        rw [Nat.mul_one] at r0
        have hkL : k < m.L.length := by unfold MatV.L; simpa using hlt
        have e1 : m.L[k] = m.rows[k].l := by simp [MatV.L]
        have hnx := flat_snoc2 m.L k hkL
        have hok : okL (m.L.drop k) = (decide (0 < m.L[k].length) && okL (m.L.drop (k + 1))) := by rw [List.drop_eq_getElem_cons hkL]; rfl
        rw [e1] at hnx hok
        have hsn := okL_snoc m.L k hkL
        rw [e1] at hsn
        have HSN := Lib.hid hsn
        clear hsn
        have hlen := HRR.out m.rows[k] (List.getElem_mem _)
        have HRD := Lib.hid ((HM.out.each m.rows[k] (List.getElem_mem _)).rd.below hbel)
        have HNX := Lib.hid hnx
        have HOK : Hid ((ok && decide (0 < m.rows[k].l.length) && okL (m.L.drop (k + 1)) && finG m.step n (chk n (-1) m.L.flatten)) = RES) := Lib.hid (by rw [← hrec.out, hok]; simp [Bool.and_assoc])
        clear hnx hok hrec e1 hac
        generalize m.rows[k] = R at *
        rw [HMA.out] at hA
        subst hA
        obtain ⟨RA, Rc, Rl⟩ := R
        simp only at hlen HRD HNX HOK r0 HSN
        obtain ⟨q, hq⟩ : ∃ q, decide (0 < Rl.length) = q := ⟨_, rfl⟩
        have HQ := Lib.hid hq
        have hqI : (q = true ∧ (0 : Int) < (Rl.length : Int)) ∨ (q = false ∧ ¬ (0 : Int) < (Rl.length : Int)) := by
          by_cases h : 0 < Rl.length
          · exact .inl ⟨by rw [← hq]; simp [h], by omega⟩
          · exact .inr ⟨by rw [← hq]; simp [h], by omega⟩
        clear hq
        have hws := hbel.size
        rcases hqI with ⟨rfl, hqI⟩ | ⟨rfl, hqI⟩ <;> cases ok
        all_goals
          go_wp2_with (at_builtin; refine wpList_append_rd (by rfl) _ _ 35 (by rfl) (w.heap.size + 1) 3 iI _ 1 8 Tryd.underlying35 hI hI0 hI1 hI2 rfl (by decide) (.slice A N c) N _ (by rfl) hown w.heap.size RA Rl.length Rc (ints Rl) (by rfl) HRD.out (by rw [ints_len, Nat.mul_one]) ?c2 ?c3 ?c4 hsz ?_)
          case c2 => intro u hu; simp only [ints, List.mem_map] at hu; obtain ⟨z, _, rfl⟩ := hu; rfl
          case c3 => unfold maxLen; omega
          case c4 => omega
          intro A3 c3 w3 hown3 hg hat
          have hbe3 : Below w.heap.size w w3 := below_own hbel hown (by omega) hg (by omega)
          have y3 := y0.grown hg (own_ne_bk hown y0 (by decide))
          have hsz3 : w.heap.size + 1 ≤ w3.heap.size := y3.lt
          have hown4 : w3.ownsRow (w.heap.size + 1) 3 1 (.slice A3 (N + Rl.length) c3) (N + Rl.length) (ints (m.L.take (k + 1)).flatten) := by
            rw [HNX.out]
            have e : ints ((m.L.take k).flatten ++ Rl) = ints (m.L.take k).flatten ++ ints Rl := by simp [ints]
            rw [e]; exact hown3
          have hNl2 : Hid (N + Rl.length = (m.L.take (k + 1)).flatten.length) := Lib.hid (by rw [HNX.out, List.length_append, ← hNl.out])
          clear hown3 hg hat hown y0 hqI r0 hbel hsz
          go_wp2
          go_roundw
          case rel => exact ⟨k + 1, N + Rl.length, A3, c3, _, by omega, by omega, rfl, rfl, by go_num, hbe3, hsz3, y3, hown4, hNl2, Lib.hid (fun h => by first | (simp at h; done) | exact ⟨(hinv.out (by first | rfl | trivial)).1, by rw [HSN.out, (hinv.out (by first | rfl | trivial)).2, Bool.true_and]; exact h⟩), Lib.hid (by have h := HOK.out; have hq := HQ.out; first | (simpa using h) | (simp at hq; simpa [hq] using h))⟩
          case measure => simp [intOf]; omega
      · as_aux_lemma =>
        obtain rfl : k = m.rows.length := by omega
        have e1 : m.L.take m.rows.length = m.L := List.take_of_length_le (by simp [MatV.L])
        have e2 : okL (m.L.drop m.rows.length) = true := by rw [List.drop_eq_nil_of_le (by simp [MatV.L])]; rfl
        rw [e1] at hown hNl
        have HR2 : Hid ((ok && finG m.step n (chk n (-1) (m.L.flatten.drop 0))) = RES) := Lib.hid (by rw [← hrec.out, e2, Bool.and_true]; rfl)
        have HNE : Hid (ok = true → m.L.flatten ≠ []) := Lib.hid fun h => by
          have h2 := hinv.out h
          rw [e1] at h2
          exact flat_nil m.L h2.2 (by simp [MatV.L]; exact h2.1)
        clear hrec e1 e2 hinv
        generalize m.L.flatten = F at *
        obtain rfl : N = F.length := hNl.out
        have HF := Lib.hid (own_rd hown)
        have a0 := y0.cell 0
        have hFl : F.length ≤ 1099511627776 := by omega
        clear hown hNl
        go_wp2
        go_loopw [6, 39] (fun okk i wr' => ∃ (j : Nat) (ok : Bool) (p : Int), j ≤ F.length ∧ okk = .bool ok ∧ i = .int .i64 j ∧ wr' = wr ∧ Hid ((ok && finG m.step n (chk n p (F.drop j))) = RES) ∧ Hid ((j = 0 ∧ p = -1) ∨ (0 < j ∧ F[j - 1]? = some p)) ∧ Hid (ok = true → F ≠ [])) (fun _ i _ => F.length - (intOf i).toNat)
        case atStart => exact ⟨0, ok, -1, Nat.zero_le _, rfl, rfl, rfl, HR2, Lib.hid (.inl ⟨rfl, rfl⟩), HNE⟩
        case round =>
          clear HR2 HNE
          obtain ⟨j, ok, p, hj, rfl, rfl, rfl, hrec, hpp, hne⟩ := hrel
          by_cases hlj : j < F.length
          · as_aux_lemma =>
            obtain ⟨b1, o1, hA1, hb1, hc1⟩ := HF.out.elem1 hlj
            have hd : chk n p (F.drop j) = if p < F[j] ∧ 0 ≤ F[j] ∧ F[j] < n then chk n F[j] (F.drop (j + 1)) else none := by rw [List.drop_eq_getElem_cons hlj]; rfl
            have HNE2 : Hid (F ≠ []) := Lib.hid (by intro e; rw [e] at hlj; simp at hlj)
            have hpn : Hid ((j + 1 = 0 ∧ F[j] = -1) ∨ (0 < j + 1 ∧ F[j + 1 - 1]? = some F[j])) := Lib.hid (.inr ⟨by omega, by rw [Nat.add_sub_cancel]; exact List.getElem?_eq_getElem hlj⟩)
            rw [hd] at hrec
            have HREC := Lib.hid hrec.out
            clear hrec hd
            rw [hA1]
            generalize F[j] = x at *
            have hok2 : ∀ g : Bool, (decide (p < x ∧ 0 ≤ x ∧ x < n)) = g → Hid ((ok && g && finG m.step n (chk n x (F.drop (j + 1)))) = RES) := fun g hg => Lib.hid (by
              rw [← HREC.out]
              cases g
              · rw [if_neg (by simpa using hg)]; cases ok <;> rfl
              · rw [if_pos (by simpa using hg), Bool.and_true])
            clear HREC
            cases ok
            · have HN := hok2 _ rfl
              clear hok2
              go_wp2
              go_roundw
              case rel => exact ⟨j + 1, false, x, by omega, rfl, by go_num, by first | rfl | trivial, Lib.hid (by have h := HN.out; simpa using h), hpn, Lib.hid (fun h => by first | (simp at h; done) | exact HNE2.out)⟩
              case measure => simp [intOf]; omega
            by_cases h0 : 0 ≤ x
            case neg =>
              have HN := hok2 false (by simp; omega)
              clear hok2
              go_wp2
              go_roundw
              case rel => exact ⟨j + 1, false, x, by omega, rfl, by go_num, by first | rfl | trivial, Lib.hid (by have h := HN.out; simpa using h), hpn, Lib.hid (fun h => by first | (simp at h; done) | exact HNE2.out)⟩
              case measure => simp [intOf]; omega
            by_cases h1 : x < n
            case neg =>
              have HN := hok2 false (by simp; omega)
              clear hok2
              go_wp2
              go_roundw
              case rel => exact ⟨j + 1, false, x, by omega, rfl, by go_num, by first | rfl | trivial, Lib.hid (by have h := HN.out; simpa using h), hpn, Lib.hid (fun h => by first | (simp at h; done) | exact HNE2.out)⟩
              case measure => simp [intOf]; omega
            rcases hpp.out with ⟨hj0, hp⟩ | ⟨hj0, hp⟩
            · subst hp
              have HN := hok2 true (by simp; omega)
              have hjI : ((j : Int) == 0) = true := by simp [hj0]
              clear hok2 hpp hj0
              go_wp2
              go_roundw
              case rel => exact ⟨j + 1, true, x, by omega, rfl, by go_num, by first | rfl | trivial, Lib.hid (by have h := HN.out; simpa using h), hpn, Lib.hid (fun h => by first | (simp at h; done) | exact HNE2.out)⟩
              case measure => simp [intOf]; omega
            · clear hpp
              have hjI : ((j : Int) == 0) = false := by simp; omega
              obtain ⟨b2, o2, hA2, hb2, hc2⟩ := HF.out.elem1 (k := j - 1) (by omega)
              have hpv : F[j - 1]'(by omega) = p := by rw [List.getElem?_eq_getElem (by omega)] at hp; exact Option.some.inj hp
              rw [hpv] at hc2
              rw [hA1] at hA2
              injection hA2 with e
              injection e with e1 e2
              subst e1; subst e2
              clear hpv hp
              obtain ⟨i, rfl⟩ : ∃ i, j = i + 1 := ⟨j - 1, by omega⟩
              rw [Nat.add_sub_cancel] at hc2
              clear hj0
              by_cases hpx : p < x
              · have HN := hok2 true (by simp; omega)
                clear hok2
                go_wp2
                go_roundw
                case rel => exact ⟨i + 1 + 1, true, x, by omega, rfl, by go_num, by first | rfl | trivial, Lib.hid (by have h := HN.out; simpa using h), hpn, HNE2.out |> fun h => Lib.hid fun _ => h⟩
                case measure => simp [intOf]; omega
              · have HN := hok2 false (by simp; omega)
                clear hok2
                go_wp2
                go_roundw
                case rel => exact ⟨i + 1 + 1, false, x, by omega, rfl, by go_num, by first | rfl | trivial, Lib.hid (by have h := HN.out; simpa using h), hpn, Lib.hid (fun h => by simp at h)⟩
                case measure => simp [intOf]; omega
          · as_aux_lemma =>
            obtain rfl : j = F.length := by omega
            rw [List.drop_length] at hrec
            cases ok
            · have HN : Hid (false = RES) := Lib.hid hrec.out
              clear hrec
              go_upto_region 14 with fail
              go_quiet (fail)
              go_wp2
              go_ret
              exact ⟨ret_bool HN.out, by first | exact hbel | exact hbel.trans ⟨rfl, rfl, rfl, Nat.le_refl _, fun _ _ => rfl⟩⟩
            · have hne2 := hne.out rfl
              have hl0 : 0 < F.length := List.length_pos_iff.2 hne2
              have HN : Hid ((decide (m.step ≤ n) && decide (p ≤ m.step)) = RES) := Lib.hid (by rw [← hrec.out]; rfl)
              have hp : F[F.length - 1]? = some p := by
                rcases hpp.out with ⟨h, _⟩ | ⟨_, h⟩
                · omega
                · exact h
              obtain ⟨b2, o2, hA2, hb2, hc2⟩ := HF.out.elem1 (k := F.length - 1) (by omega)
              have hpv : F[F.length - 1]'(by omega) = p := by rw [List.getElem?_eq_getElem (by omega)] at hp; exact Option.some.inj hp
              rw [hpv] at hc2
              clear hrec hpp hne hne2 hp hpv
              rw [hA2]
              clear hA2
              obtain ⟨i, hi⟩ : ∃ i, F.length = i + 1 := ⟨F.length - 1, by omega⟩
              rw [hi, Nat.add_sub_cancel] at hc2
              rw [hi]
              clear hl0
              by_cases h1 : m.step ≤ n <;> by_cases h2 : p ≤ m.step
              all_goals
                simp only [h1, h2, decide_true, decide_false, Bool.and_true, Bool.true_and, Bool.and_false, Bool.false_and] at HN
                first | have h1d := decide_eq_true h1 | have h1d := decide_eq_false h1
                first | have h2d := decide_eq_true h2 | have h2d := decide_eq_false h2
                go_upto_region 14 with fail
                go_quiet (fail)
                go_wp2
                go_ret
                exact ⟨ret_bool HN.out, by first | exact hbel | exact hbel.trans ⟨rfl, rfl, rfl, Nat.le_refl _, fun _ _ => rfl⟩⟩
end Go.Proofs.YtpiffgdebdhpnaaDoor
