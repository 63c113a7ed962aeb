/-
  The contracts of goesOn and reference. Conditions: the text begins with &, and has at most 100000 bytes.
-/
import Derived.Test.YtmcjljjagfpkkaaEntNum
import Derived.Test.YtmcjljjagfpkkaaEntNamed
set_option linter.all false
namespace Go.Proofs.Ytmcjljjagfpkkaa
open Go.RowKit
theorem letB_fin : ∀ i : Fin 256, letB (UInt8.ofNat i.val) = isLetter (UInt8.ofNat i.val) := by decide +kernel
theorem letB_eq (c : UInt8) : letB c = isLetter c := by
  have := letB_fin ⟨c.toNat, c.toNat_lt⟩
  simpa using this
theorem byte_eq (c : UInt8) (n : Nat) (h : n < 256) : ((c.toNat : Int) == (n : Int)) = (c == UInt8.ofNat n) := by
  rw [Bool.eq_iff_iff]
  simp only [beq_iff_eq]
  constructor
  · intro e
    have : c.toNat = n := by omega
    rw [← this]; simp
  · intro e
    subst e
    simp [Nat.mod_eq_of_lt h]
set_option maxHeartbeats 1000000 in
theorem goesOn_calls (c : UInt8) (w : World) :
    Calls Try.prog 58 #[.int .u8 (c.toNat : Int)] w fun e w' => e = .returned (.bool (moreB c)) ∧ w = w' := by
  have hm : moreB c = (isLetter c || (decide (0 ≤ digit c 10) || ((c.toNat : Int) == 61))) := by
    have h61 := byte_eq c 61 (by decide)
    have e : ((c.toNat : Int) == 61) = (c == 61) := h61
    rw [e, ← letB_eq]
    unfold moreB
    rw [Bool.or_assoc]
  have HM := hid hm
  have HD := hid (fun w => digit_calls c 10 (by omega) (by omega) w)
  have HL := hid (fun w => letter_calls c w)
  generalize digit c 10 = d at *
  generalize isLetter c = b at *
  clear hm
  cases b
  · go_enter Try.func58, Try.ntmps58
    cases hd : decide (0 ≤ d)
    · go_wp2_with fail
      refine (HL.out w).mono ?_
      rintro e w' ⟨rfl, rfl⟩
      go_wp2_with fail
      refine (HD.out w).mono ?_
      rintro e w' ⟨rfl, rfl⟩
      go_wp2_with fail
      go_ret
      exact ⟨ret_bool (by rw [HM.out, hd]; rfl), rfl⟩
    · go_wp2_with fail
      refine (HL.out w).mono ?_
      rintro e w' ⟨rfl, rfl⟩
      go_wp2_with fail
      refine (HD.out w).mono ?_
      rintro e w' ⟨rfl, rfl⟩
      go_wp2_with fail
      go_ret
      exact ⟨ret_bool (by rw [HM.out, hd]; rfl), rfl⟩
  · go_enter Try.func58, Try.ntmps58
    go_wp2_with fail
    refine (HL.out w).mono ?_
    rintro e w' ⟨rfl, rfl⟩
    go_wp2_with fail
    go_ret
    exact ⟨ret_bool (by rw [HM.out]; rfl), rfl⟩
theorem named_some (s : ByteArray) (t : List UInt8) (h : namedL s.data.toList = some t) (hs : s.size ≤ 100000) (w : World) :
    Calls Try.prog 14 #[.string s] w fun e w' => e = .returned (.tuple #[.string (strB t), .bool true]) ∧ Below w.heap.size w w' := by
  have := named_calls s w hs
  rw [h] at this
  exact this
theorem named_no (s : ByteArray) (h : namedL s.data.toList = none) (hs : s.size ≤ 100000) (w : World) :
    Calls Try.prog 14 #[.string s] w fun e w' => e = .returned (.tuple #[.string ⟨#[]⟩, .bool false]) ∧ Below w.heap.size w w' := by
  have := named_calls s w hs
  rw [h] at this
  exact this
theorem nameFrom_at {r : List UInt8} {m : Nat} {t : List UInt8} (h : namedL (r.take (m + 1)) = some t) : nameFrom r (m + 1) = if r[m]? ≠ some 59 ∧ goesL (r.drop (m + 1)) = true then none else some (t, m + 1) := by
  rw [nameFrom]
  simp only [h]
theorem goesL_at {r : List UInt8} {n : Nat} (h : n < r.length) : goesL (r.drop n) = moreB r[n] := by
  rw [List.drop_eq_getElem_cons h]
  rfl
theorem goesL_end {r : List UInt8} {n : Nat} (h : r.length ≤ n) : goesL (r.drop n) = false := by
  rw [List.drop_eq_nil_of_le h]
  rfl
def is35 : List UInt8 → Bool
  | [] => false
  | c :: _ => c == 35
theorem byte_59 (c : UInt8) : ((c.toNat : Int) == 59) = (c == 59) := byte_eq c 59 (by decide)
set_option maxHeartbeats 4000000 in
set_option maxRecDepth 100000 in
theorem reference_calls (s : ByteArray) (r : List UInt8) (w : World) (hs : s.data.toList = 38 :: r) (hz : s.size ≤ 100000) :
    Calls Try.prog 43 #[.string s] w fun e w' => e = .returned (refV (refE r)) ∧ Below w.heap.size w w' := by
  have hsz : s.size = r.length + 1 := by
    have : s.data.toList.length = s.size := by simp
    rw [hs] at this
    simpa using this.symm
  have hpre : Lib.hasPrefix s.data.toList [38, 35] = (is35 r) := by
    rw [hs]
    cases r with
    | nil => rfl
    | cons c q =>
      show (([38, 35] : List UInt8).isPrefixOf (38 :: c :: q)) = (c == 35)
      by_cases h : c = 35
      · subst h; rfl
      · have h1 : (c == 35) = false := by simpa using h
        have h2 : ((35 : UInt8) == c) = false := by rw [beq_eq_false_iff_ne]; exact fun e => h e.symm
        rw [h1]
        simp [List.isPrefixOf, h2]
  have HP : Hid (∀ w, Calls Try.prog 56 #[.string s, .string ⟨#[38, 35]⟩] w fun e w' => e = .returned (.bool (is35 r)) ∧ w = w') := hid (fun w => by
    refine (Try.strings_HasPrefix s ⟨#[38, 35]⟩ w).mono ?_
    rintro e w' ⟨rfl, rfl⟩
    exact ⟨by rw [← hpre], rfl⟩)
  clear hpre
  cases hc : (is35 r)
  · have hr : refE r = nameE r := by
      cases r with
      | nil => rfl
      | cons c q => exact refE_name (by have h' : (c == 35) = false := hc; simpa using h')
    rw [hc] at HP
    have hget : ∀ j, (h : j < r.length) → (h2 : j + 1 < s.size) → s[j + 1]'h2 = r[j] := fun j h h2 => by
      have h1 : s[j + 1]'h2 = s.data.toList[j + 1]'(by rw [hs]; simp; omega) := by simp; rfl
      rw [h1]
      simp only [hs, List.getElem_cons_succ]
    have hcut : ∀ n, n ≤ r.length → s.extract 1 (n + 1) = strB (r.take n) := fun n _ => by
      rw [ext_listE, hs]
      simp
    have HG := hid hget
    have HCUT := hid hcut
    have hza : s.size ≤ r.length + 1 := by omega
    have hzb : r.length + 1 ≤ s.size := by omega
    have HR := hid hr
    have hW : IntKind.i64.wrap ((s.size : Int) - 1) = (s.size : Int) - 1 := IntWalk.i64_in _ (by omega)
    obtain ⟨q, hq⟩ : ∃ q, q = min 15 r.length := ⟨_, rfl⟩
    have hmin : min 15 ((s.size : Int) - 1) = (q : Int) := by omega
    have hq1 : q ≤ 15 := by omega
    have hq2 : q ≤ r.length := by omega
    have HQ : Hid (nameE r = nameFrom r q) := hid (by rw [hq]; rfl)
    clear hget hcut hs hsz hr hc hq
    go_enter Try.func43, Try.ntmps43
    go_wp2_with fail
    refine (HP.out w).mono ?_
    rintro e w' ⟨rfl, rfl⟩
    go_wp2_with fail
    clear hmin hW
    go_loopw [4] (fun i wr => ∃ n : Nat, n ≤ q ∧ i = .int .i64 n ∧ Hid (nameE r = nameFrom r n) ∧ Below w.heap.size w wr) (fun i _ => (intOf i).toNat)
    case atStart => exact ⟨q, Nat.le_refl _, rfl, HQ, Below.refl _ _⟩
    case round =>
      obtain ⟨n, hn, rfl, hnm, hbw⟩ := hrel
      have HBW := hid hbw
      clear hbw
      by_cases hn0 : n = 0
      · subst hn0
        have HF : Hid (refE r = none) := hid (by rw [HR.out, hnm.out]; rfl)
        go_wp2_with fail
        go_ret2
        exact ⟨by rw [HF.out]; rfl, HBW.out⟩
      · obtain ⟨m, hm⟩ : ∃ m, n = m + 1 := ⟨n - 1, by omega⟩
        obtain ⟨e, he⟩ : ∃ e, e = n + 1 := ⟨_, rfl⟩
        have hcx : s.extract 1 e = strB (r.take n) := by rw [he]; exact HCUT.out n (by omega)
        have hxz : (strB (r.take n)).size ≤ 100000 := by rw [strB_size, List.length_take]; omega
        have hW1 : IntKind.i64.wrap ((n : Int) + 1) = (e : Int) := by rw [IntWalk.i64_in _ (by omega)]; omega
        have hn1 : 0 < n := by omega
        have hnr : n ≤ r.length := by omega
        have he1 : 1 ≤ e := by omega
        have hes : e ≤ s.size := by omega
        have he2 : 0 < e := by omega
        have he3 : (1 : Int) ≤ (e : Int) := by omega
        have he4 : (e : Int) ≤ (s.size : Int) := by omega
        have HM := hid hm
        have HE := hid he
        clear hn0 he
        cases hnl : namedL (r.take n) with
        | none =>
          have HNX : Hid (nameE r = nameFrom r m) := hid (by rw [hnm.out, hm, nameFrom]; rw [hm] at hnl; simp only [hnl])
          have HC := hid (fun w => named_no (strB (r.take n)) (by rw [strB_list]; exact hnl) hxz w)
          clear hnl hnm hm
          go_wp2_with fail
          refine (HC.out _).mono ?_
          rintro e' w4 ⟨rfl, hb4⟩
          have HB4 := hid (HBW.out.trans (hb4.mono HBW.out.size))
          clear hb4 hcx hW1
          go_wp2_with fail
          go_roundw
          case rel => exact ⟨m, by have := HM.out; omega, by have := HM.out; subst this; go_num, HNX, HB4.out⟩
          case measure => simp [intOf]; omega
        | some t =>
          have hat := nameFrom_at (r := r) (m := m) (t := t) (by rw [← hm]; exact hnl)
          rw [← hm, ← hnm.out, ← HR.out] at hat
          have hsemi : r[m]? = some (r[m]'(by omega)) := List.getElem?_eq_getElem (by omega)
          rw [hsemi] at hat
          have HC := hid (fun w => named_some (strB (r.take n)) t (by rw [strB_list]; exact hnl) hxz w)
          have hns : n < s.size := by omega
          have hby : s[n]'hns = r[m]'(by omega) := by
            have := HG.out m (by omega) (by omega)
            have h9 : s[n]'hns = s[m + 1]'(by omega) := by congr 1
            rw [h9]; exact this
          have h59 := byte_59 (r[m]'(by omega))
          generalize r[m]'(by omega) = c at *
          have HBY := hid hby
          clear hnl hnm hsemi hm
          cases hc59 : (c == 59)
          · rw [hc59] at h59
            have hcne : ¬ c = 59 := by simpa using hc59
            have hsb : (((s[n]'hns).toNat : Int) != 59) = true := by rw [hby]; simp [bne, h59]
            by_cases hnl : n < r.length
            · rw [goesL_at hnl] at hat
              have hes2 : e < s.size := by have := HE.out; omega
              have hgo : s[e]'hes2 = r[n] := by
                have := HG.out n hnl (by omega)
                have h9 : s[e]'hes2 = s[n + 1]'(by omega) := by have h' := HE.out; subst h'; rfl
                rw [h9]; exact this
              have HGO := hid (fun w => goesOn_calls r[n] w)
              generalize r[n] = d at *
              have HGO2 := hid hgo
              clear hby h59 hc59
              cases hmo : moreB d
              · rw [hmo] at HGO
                have HF : Hid (refE r = some (t, n)) := hid (hat.trans (if_neg (by rintro ⟨_, h⟩; rw [hmo] at h; cases h)))
                clear hat hmo hcne
                go_wp2_with fail
                refine (HC.out _).mono ?_
                rintro e' w4 ⟨rfl, hb4⟩
                have HB4 := hid (HBW.out.trans (hb4.mono HBW.out.size))
                clear hb4 hcx
                go_wp2_with fail
                refine (HGO.out _).mono ?_
                rintro e' w5 ⟨rfl, rfl⟩
                go_wp2_with fail
                go_ret2
                exact ⟨by rw [HF.out, HE.out]; rfl, HB4.out⟩
              · rw [hmo] at HGO
                have HF : Hid (refE r = none) := hid (by rw [hat, if_pos ⟨by intro e; injection e with e; exact hcne e, hmo⟩])
                clear hat hmo hcne
                go_wp2_with fail
                refine (HC.out _).mono ?_
                rintro e' w4 ⟨rfl, hb4⟩
                have HB4 := hid (HBW.out.trans (hb4.mono HBW.out.size))
                clear hb4 hcx
                go_wp2_with fail
                refine (HGO.out _).mono ?_
                rintro e' w5 ⟨rfl, rfl⟩
                go_wp2_with fail
                go_ret2
                exact ⟨by rw [HF.out]; rfl, HB4.out⟩
            · rw [goesL_end (by omega)] at hat
              have HF : Hid (refE r = some (t, n)) := hid (by rw [hat, if_neg (by simp)])
              have hse : s.size ≤ e := by have := HE.out; omega
              clear hat hcne hby h59 hc59
              go_wp2_with fail
              refine (HC.out _).mono ?_
              rintro e' w4 ⟨rfl, hb4⟩
              have HB4 := hid (HBW.out.trans (hb4.mono HBW.out.size))
              clear hb4 hcx
              go_wp2_with fail
              go_ret2
              exact ⟨by rw [HF.out, HE.out]; rfl, HB4.out⟩
          · rw [hc59] at h59
            have hceq : c = 59 := by simpa using hc59
            have hsb : (((s[n]'hns).toNat : Int) != 59) = false := by rw [hby]; simp [bne, h59]
            have HF : Hid (refE r = some (t, n)) := hid (by rw [hat, if_neg (by rw [hceq]; simp)])
            clear hat hceq hby h59 hc59
            go_wp2_with fail
            refine (HC.out _).mono ?_
            rintro e' w4 ⟨rfl, hb4⟩
            have HB4 := hid (HBW.out.trans (hb4.mono HBW.out.size))
            clear hb4 hcx
            go_wp2_with fail
            go_ret2
            exact ⟨by rw [HF.out, HE.out]; rfl, HB4.out⟩
  · cases r with
    | nil => cases hc
    | cons c q =>
      have hc35 : c = 35 := by have h' : (c == 35) = true := hc; simpa using h'
      subst hc35
      rw [hc] at HP
      have HN := hid (fun w => numbered_calls s q w hs hz)
      have HR : Hid (refE (35 :: q) = numE q) := hid rfl
      rw [HR.out]
      clear hs hsz hc
      go_enter Try.func43, Try.ntmps43
      go_wp2_with fail
      refine (HP.out w).mono ?_
      rintro e w' ⟨rfl, rfl⟩
      go_wp2_with fail
      refine (HN.out w).mono ?_
      rintro e w1 ⟨rfl, hb1⟩
      have HB := hid hb1
      clear hb1
      cases hnq : numE q with
      | none =>
        have HX := hid hnq
        unfold refV
        simp only []
        clear hnq
        go_wp2_with fail
        go_ret2
        exact ⟨by rw [HX.out]; simp [refV], HB.out⟩
      | some p =>
        obtain ⟨t, n⟩ := p
        have HX := hid hnq
        unfold refV
        simp only []
        clear hnq
        go_wp2_with fail
        go_ret2
        exact ⟨by rw [HX.out]; simp [refV], HB.out⟩
end Go.Proofs.Ytmcjljjagfpkkaa
