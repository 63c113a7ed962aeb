/-
  The contracts of the document's number, name and Decode. Conditions: the text has at most 20000 bytes.
-/
import Derived.Test.YtmcjljjagfpkkaaEntRefNumber
import Derived.Test.YtmcjljjagfpkkaaEntSmall
set_option linter.all false
namespace Go.Proofs.Ytmcjljjagfpkkaa
open Go.RowKit
theorem byte_isnt' {c : UInt8} {n : Nat} (hn : n < 256) (h : c ≠ UInt8.ofNat n) : ((c.toNat : Int) == (n : Int)) = false := by
  rw [byte_eq c n hn]
  simpa using h
def numTop : List UInt8 → Option (List UInt8 × Nat)
  | [] => none
  | c :: q => if c = 35 then numE q else none
theorem name_35 (q : List UInt8) : nameE (35 :: q) = none := by
  unfold nameE
  rw [nameFrom_skip (m := 0) _ (by omega) fun k hk1 hk2 => ?_]
  · rfl
  · exact named_none_at (r := 35 :: q) (j := 0) (c := 35) rfl (by decide +kernel) (by omega) (by omega) (by intro _; decide)
theorem refE_two (r : List UInt8) : refE r = match numTop r with | some x => some x | none => nameE r := by
  cases r with
  | nil => rfl
  | cons c q =>
    by_cases h : c = 35
    · subst h
      show numE q = match (if (35 : UInt8) = 35 then numE q else none) with | some x => some x | none => nameE (35 :: q)
      rw [if_pos rfl, name_35]
      cases numE q <;> rfl
    · rw [refE_name h]
      show _ = match (if c = 35 then numE q else none) with | some x => some x | none => nameE (c :: q)
      rw [if_neg h]
set_option maxHeartbeats 2000000 in
theorem refNum_calls (s : ByteArray) (r : List UInt8) (w : World) (hs : s.data.toList = r) (hz : s.size ≤ 100000) :
    Calls Try.prog 45 #[.string s] w fun e w' => e = .returned (refV2 (numTop r)) ∧ Below w.heap.size w w' := by
  cases r with
  | nil =>
    have hemp : s.toList.isEmpty = true := by rw [ByteArray.toList_eq, hs]; rfl
    clear hs
    go_enter Try.func45, Try.ntmps45
    go_wp2_with fail
    go_ret2
    exact ⟨rfl, Below.refl _ _⟩
  | cons c q =>
    by_cases h : c = 35
    · subst h
      exact refNumber35_calls s q w hs hz
    · have hemp : s.toList.isEmpty = false := by rw [ByteArray.toList_eq, hs]; rfl
      have h0s : 0 < s.size := by
        have : s.data.toList.length = s.size := by simp
        rw [hs] at this
        simp at this
        omega
      have hz0 : s[0] = c := by
        have h1 : s[0] = s.data.toList[0]'(by rw [hs]; simp) := by simp; rfl
        rw [h1]
        simp [hs]
      have hb35 : (((s[0]).toNat : Int) != 35) = true := by
        have hb := byte_isnt' (c := c) (n := 35) (by decide) h
        rw [hz0]
        have hb' : ((c.toNat : Int) == 35) = false := hb
        simp [bne, hb']
      have HT : Hid (numTop (c :: q) = none) := hid (by show (if c = 35 then numE q else none) = none; rw [if_neg h])
      clear hs hz0 h
      go_enter Try.func45, Try.ntmps45
      go_wp2_with fail
      go_ret2
      exact ⟨by rw [HT.out]; rfl, Below.refl _ _⟩
theorem refNamed_some (s : ByteArray) (t : List UInt8) (h : namedL s.data.toList = some t) (hs : s.size ≤ 100000) (w : World) :
    Calls Try.prog 15 #[.string s] w fun e w' => e = .returned (.tuple #[.string (strB t), .bool true]) ∧ Below w.heap.size w w' := by
  have := refNamed_calls s w hs
  rw [h] at this
  exact this
theorem refNamed_no (s : ByteArray) (h : namedL s.data.toList = none) (hs : s.size ≤ 100000) (w : World) :
    Calls Try.prog 15 #[.string s] w fun e w' => e = .returned (.tuple #[.string ⟨#[]⟩, .bool false]) ∧ Below w.heap.size w w' := by
  have := refNamed_calls s w hs
  rw [h] at this
  exact this
theorem moreB_eq (c : UInt8) : moreB c = (isLetter c || (decide (0 ≤ digit c 10) || ((c.toNat : Int) == 61))) := by
  have h61 := byte_eq c 61 (by decide)
  have e : ((c.toNat : Int) == 61) = (c == 61) := h61
  rw [e, ← letB_eq]
  unfold moreB
  rw [Bool.or_assoc]
set_option maxHeartbeats 8000000 in
set_option maxRecDepth 100000 in
theorem refName_calls (s : ByteArray) (r : List UInt8) (w : World) (hs : s.data.toList = r) (hz : s.size ≤ 100000) :
    Calls Try.prog 46 #[.string s] w fun e w' => e = .returned (refV2 (nameE r)) ∧ Below w.heap.size w w' := by
  have hsz : s.size = r.length := by
    have : s.data.toList.length = s.size := by simp
    rw [hs] at this
    exact this.symm
  have hget : ∀ j, (h : j < r.length) → (h2 : j < s.size) → s[j]'h2 = r[j] := fun j h h2 => by
    have h1 : s[j]'h2 = s.data.toList[j]'(by rw [hs]; exact h) := by simp; rfl
    rw [h1]
    simp only [hs]
  have hcut : ∀ n, s.extract 0 n = strB (r.take n) := fun n => by rw [ext_listE, hs]; simp
  have HG := hid hget
  have HCUT := hid hcut
  have hza : s.size ≤ r.length := by omega
  have hzb : r.length ≤ s.size := by omega
  obtain ⟨q, hq⟩ : ∃ q, q = min 15 r.length := ⟨_, rfl⟩
  have hmin : min (s.size : Int) 15 = (q : Int) := by omega
  have hq1 : q ≤ 15 := by omega
  have hq2 : q ≤ r.length := by omega
  have HQ : Hid (nameE r = nameFrom r q) := hid (by rw [hq]; rfl)
  clear hget hcut hs hsz hq
  go_enter Try.func46, Try.ntmps46
  go_wp2_with fail
  clear hmin
  go_loopw [4] (fun i wr => ∃ n : Nat, n ≤ q ∧ i = .int .i64 n ∧ Hid (nameE r = nameFrom r n) ∧ Below w.heap.size w wr) (fun i _ => (intOf i).toNat)
  case atStart => exact ⟨q, Nat.le_refl _, rfl, HQ, Below.refl _ _⟩
  case round =>
    obtain ⟨n, hn, rfl, hnm, hbw⟩ := hrel
    have HBW := hid hbw
    clear hbw
    by_cases hn0 : n = 0
    · subst hn0
      have HF : Hid (nameE r = none) := hid (by rw [hnm.out]; rfl)
      go_wp2_with fail
      go_ret2
      exact ⟨by rw [HF.out]; rfl, HBW.out⟩
    · obtain ⟨m, hm⟩ : ∃ m, n = m + 1 := ⟨n - 1, by omega⟩
      have hcx := HCUT.out n
      have hxz : (strB (r.take n)).size ≤ 100000 := by rw [strB_size, List.length_take]; omega
      have hn1 : 0 < n := by omega
      have hnr : n ≤ r.length := by omega
      have hns : n ≤ s.size := by omega
      have hns4 : (n : Int) ≤ (s.size : Int) := by omega
      have hWm : IntKind.i64.wrap ((n : Int) - 1) = (m : Int) := by rw [IntWalk.i64_in _ (by omega)]; omega
      have hms : m < s.size := by omega
      have HM := hid hm
      clear hn0
      cases hnl : namedL (r.take n) with
      | none =>
        have HNX : Hid (nameE r = nameFrom r m) := hid (by rw [hnm.out, hm, nameFrom]; rw [hm] at hnl; simp only [hnl])
        have HC := hid (fun w => refNamed_no (strB (r.take n)) (by rw [strB_list]; exact hnl) hxz w)
        clear hnl hnm hm
        go_wp2_with fail
        refine (HC.out _).mono ?_
        rintro e' w4 ⟨rfl, hb4⟩
        have HB4 := hid (HBW.out.trans (hb4.mono HBW.out.size))
        clear hb4 hcx
        go_wp2_with fail
        go_roundw
        case rel => exact ⟨m, by have := HM.out; omega, by first | rfl | (have := HM.out; subst this; go_num), HNX, HB4.out⟩
        case measure => have := HM.out; simp [intOf]; omega
      | some t =>
        have hat := nameFrom_at (r := r) (m := m) (t := t) (by rw [← hm]; exact hnl)
        rw [← hm, ← hnm.out] at hat
        have hsemi : r[m]? = some (r[m]'(by omega)) := List.getElem?_eq_getElem (by omega)
        rw [hsemi] at hat
        have HC := hid (fun w => refNamed_some (strB (r.take n)) t (by rw [strB_list]; exact hnl) hxz w)
        have hby : s[m]'hms = r[m]'(by omega) := HG.out m (by omega) hms
        have h59 := byte_59 (r[m]'(by omega))
        generalize r[m]'(by omega) = c at *
        have HBY := hid hby
        clear hnl hnm hsemi hm
        have hsb : ∃ b, (((s[m]'hms).toNat : Int) != 59) = !b ∧ (c == 59) = b := ⟨c == 59, by rw [hby]; simp [bne, h59], rfl⟩
        obtain ⟨b, hsb, hcb⟩ := hsb
        clear hby h59
        by_cases hnl : n < r.length
        · rw [goesL_at hnl] at hat
          have hnl2 : n < s.size := by omega
          have hgo : s[n]'hnl2 = r[n] := HG.out n hnl hnl2
          have HLE := hid (fun w => refLetter_calls r[n] w)
          have HDI := hid (fun w => refDigit_calls r[n] 10 (by omega) (by omega) w)
          have hmo := moreB_eq r[n]
          generalize r[n] = d at *
          generalize digit d 10 = dg at *
          cases hl : isLetter d
          rotate_left
          · rw [hl] at hmo HLE
            rw [Bool.true_or] at hmo
            clear hl
            cases b
            · have HF : Hid (nameE r = none) := hid (hat.trans (if_pos ⟨by intro e; injection e with e; rw [e] at hcb; revert hcb; decide, hmo⟩))
              clear hat hcb hmo
              go_wp2_with fail
              refine (HC.out _).mono ?_
              rintro e' w4 ⟨rfl, hb4⟩
              have HB4 := hid (HBW.out.trans (hb4.mono HBW.out.size))
              clear hb4 hcx
              go_wp2_with fail
              refine (HLE.out _).mono ?_
              rintro e' w5 ⟨rfl, rfl⟩
              go_wp2_with fail
              go_ret2
              exact ⟨by rw [HF.out]; rfl, HB4.out⟩
            · have HF : Hid (nameE r = some (t, n)) := hid (hat.trans (if_neg (by rintro ⟨h, _⟩; exact h (by rw [eq_of_beq hcb]))))
              clear hat hcb hmo
              go_wp2_with fail
              refine (HC.out _).mono ?_
              rintro e' w4 ⟨rfl, hb4⟩
              have HB4 := hid (HBW.out.trans (hb4.mono HBW.out.size))
              clear hb4 hcx
              go_wp2_with fail
              refine (HLE.out _).mono ?_
              rintro e' w5 ⟨rfl, rfl⟩
              go_wp2_with fail
              go_ret2
              exact ⟨by rw [HF.out]; rfl, HB4.out⟩
          rw [hl, Bool.false_or] at hmo
          rw [hl] at HLE
          clear hl
          cases hd : decide (0 ≤ dg)
          rotate_left
          · rw [hd, Bool.true_or] at hmo
            cases b
            · have HF : Hid (nameE r = none) := hid (hat.trans (if_pos ⟨by intro e; injection e with e; rw [e] at hcb; revert hcb; decide, hmo⟩))
              clear hat hcb hmo
              go_wp2_with fail
              refine (HC.out _).mono ?_
              rintro e' w4 ⟨rfl, hb4⟩
              have HB4 := hid (HBW.out.trans (hb4.mono HBW.out.size))
              clear hb4 hcx
              go_wp2_with fail
              refine (HLE.out _).mono ?_
              rintro e' w5 ⟨rfl, rfl⟩
              go_wp2_with fail
              refine (HDI.out _).mono ?_
              rintro e' w5 ⟨rfl, rfl⟩
              go_wp2_with fail
              go_ret2
              exact ⟨by rw [HF.out]; rfl, HB4.out⟩
            · have HF : Hid (nameE r = some (t, n)) := hid (hat.trans (if_neg (by rintro ⟨h, _⟩; exact h (by rw [eq_of_beq hcb]))))
              clear hat hcb hmo
              go_wp2_with fail
              refine (HC.out _).mono ?_
              rintro e' w4 ⟨rfl, hb4⟩
              have HB4 := hid (HBW.out.trans (hb4.mono HBW.out.size))
              clear hb4 hcx
              go_wp2_with fail
              refine (HLE.out _).mono ?_
              rintro e' w5 ⟨rfl, rfl⟩
              go_wp2_with fail
              refine (HDI.out _).mono ?_
              rintro e' w5 ⟨rfl, rfl⟩
              go_wp2_with fail
              go_ret2
              exact ⟨by rw [HF.out]; rfl, HB4.out⟩
          rw [hd, Bool.false_or] at hmo
          cases h61 : ((d.toNat : Int) == 61)
          · rw [h61] at hmo
            cases b
            · have HF : Hid (nameE r = some (t, n)) := hid (hat.trans (if_neg (by rintro ⟨_, h⟩; rw [hmo] at h; cases h)))
              clear hat hcb hmo
              go_wp2_with fail
              refine (HC.out _).mono ?_
              rintro e' w4 ⟨rfl, hb4⟩
              have HB4 := hid (HBW.out.trans (hb4.mono HBW.out.size))
              clear hb4 hcx
              go_wp2_with fail
              refine (HLE.out _).mono ?_
              rintro e' w5 ⟨rfl, rfl⟩
              go_wp2_with fail
              refine (HDI.out _).mono ?_
              rintro e' w5 ⟨rfl, rfl⟩
              go_wp2_with fail
              go_ret2
              exact ⟨by rw [HF.out]; rfl, HB4.out⟩
            · have HF : Hid (nameE r = some (t, n)) := hid (hat.trans (if_neg (by rintro ⟨_, h⟩; rw [hmo] at h; cases h)))
              clear hat hcb hmo
              go_wp2_with fail
              refine (HC.out _).mono ?_
              rintro e' w4 ⟨rfl, hb4⟩
              have HB4 := hid (HBW.out.trans (hb4.mono HBW.out.size))
              clear hb4 hcx
              go_wp2_with fail
              refine (HLE.out _).mono ?_
              rintro e' w5 ⟨rfl, rfl⟩
              go_wp2_with fail
              refine (HDI.out _).mono ?_
              rintro e' w5 ⟨rfl, rfl⟩
              go_wp2_with fail
              go_ret2
              exact ⟨by rw [HF.out]; rfl, HB4.out⟩
          · rw [h61] at hmo
            cases b
            · have HF : Hid (nameE r = none) := hid (hat.trans (if_pos ⟨by intro e; injection e with e; rw [e] at hcb; revert hcb; decide, hmo⟩))
              clear hat hcb hmo
              go_wp2_with fail
              refine (HC.out _).mono ?_
              rintro e' w4 ⟨rfl, hb4⟩
              have HB4 := hid (HBW.out.trans (hb4.mono HBW.out.size))
              clear hb4 hcx
              go_wp2_with fail
              refine (HLE.out _).mono ?_
              rintro e' w5 ⟨rfl, rfl⟩
              go_wp2_with fail
              refine (HDI.out _).mono ?_
              rintro e' w5 ⟨rfl, rfl⟩
              go_wp2_with fail
              go_ret2
              exact ⟨by rw [HF.out]; rfl, HB4.out⟩
            · have HF : Hid (nameE r = some (t, n)) := hid (hat.trans (if_neg (by rintro ⟨h, _⟩; exact h (by rw [eq_of_beq hcb]))))
              clear hat hcb hmo
              go_wp2_with fail
              refine (HC.out _).mono ?_
              rintro e' w4 ⟨rfl, hb4⟩
              have HB4 := hid (HBW.out.trans (hb4.mono HBW.out.size))
              clear hb4 hcx
              go_wp2_with fail
              refine (HLE.out _).mono ?_
              rintro e' w5 ⟨rfl, rfl⟩
              go_wp2_with fail
              refine (HDI.out _).mono ?_
              rintro e' w5 ⟨rfl, rfl⟩
              go_wp2_with fail
              go_ret2
              exact ⟨by rw [HF.out]; rfl, HB4.out⟩
        · rw [goesL_end (by omega)] at hat
          have HF : Hid (nameE r = some (t, n)) := hid (hat.trans (if_neg (by rintro ⟨_, h⟩; cases h)))
          have hse : s.size ≤ n := by omega
          clear hat hcb
          cases b
          · go_wp2_with fail
            refine (HC.out _).mono ?_
            rintro e' w4 ⟨rfl, hb4⟩
            have HB4 := hid (HBW.out.trans (hb4.mono HBW.out.size))
            clear hb4 hcx
            go_wp2_with fail
            go_ret2
            exact ⟨by rw [HF.out]; rfl, HB4.out⟩
          · go_wp2_with fail
            refine (HC.out _).mono ?_
            rintro e' w4 ⟨rfl, hb4⟩
            have HB4 := hid (HBW.out.trans (hb4.mono HBW.out.size))
            clear hb4 hcx
            go_wp2_with fail
            go_ret2
            exact ⟨by rw [HF.out]; rfl, HB4.out⟩
end Go.Proofs.Ytmcjljjagfpkkaa
