/-
  The walk of EntityNames. Conditions: the arguments are as they can be handed over.
-/
import Derived.Test.YtmcjljjagfpkkaaEntNumbersW
set_option linter.all false
namespace Go.Proofs.Ytmcjljjagfpkkaa
open Go.RowKit
theorem named_len {l t : List UInt8} (h : namedL l = some t) : t.length ≤ 14 := by
  obtain ⟨r, _, h1, _, h2, _⟩ := namedL_good h
  omega
theorem goes_no {c : UInt8} {r : List UInt8} (h1 : isLetter c = false) (h2 : digit c 10 < 0) (h3 : ((c.toNat : Int) == 61) = false) : goesL (c :: r) = false := by
  show moreB c = false
  unfold moreB
  have h61 : ((c.toNat : Int) == 61) = (c == 61) := byte_eq c 61 (by decide)
  rw [letB_eq, h1, ← h61, h3]
  have : decide (0 ≤ digit c 10) = false := decide_eq_false (by omega)
  rw [this]
  rfl
set_option maxHeartbeats 32000000 in
set_option maxRecDepth 100000 in
theorem entityNames_walk (s b : ByteArray) (w : World) (hs : s.size ≤ maxLen) (hb : b.size ≤ maxLen) :
    Calls Try.prog 6 #[.string s, .string b] w fun e w' => e = .returned (.bool true) ∧ Below w.heap.size w w' := by
  unfold maxLen at hs hb
  go_enter Try.func6, Try.ntmps6
  go_wp2_with fail
  refine (entSmall_calls _).mono ?_
  rintro e w1 ⟨rfl, hb1⟩
  have HB := hid hb1
  clear hb1
  by_cases hs3 : s.size ≤ 50
  rotate_left
  · go_wp2_with fail
    go_ret
    exact ⟨rfl, HB.out⟩
  by_cases hb3 : b.size ≤ 200
  rotate_left
  · go_wp2_with fail
    go_ret
    exact ⟨rfl, HB.out⟩
  have z38 : (⟨#[38]⟩ : ByteArray).size = 1 := rfl
  have z59 : (⟨#[59]⟩ : ByteArray).size = 1 := rfl
  have z61 : (⟨#[61]⟩ : ByteArray).size = 1 := rfl
  have hxz := decE_size b
  have D0 := hid (fun w => decode_of b _ rfl (by omega) w)
  have hcat : (s ++ ⟨#[59]⟩ : ByteArray).data.toList = s.data.toList ++ [59] := by simp
  have hAL : (⟨#[38]⟩ ++ s ++ b : ByteArray).data.toList = 38 :: (s.data.toList ++ b.data.toList) := by simp
  have hEL : (⟨#[38]⟩ ++ s ++ ⟨#[59]⟩ ++ b : ByteArray).data.toList = 38 :: (s.data.toList ++ 59 :: b.data.toList) := by simp
  have hQL : (⟨#[38]⟩ ++ s ++ ⟨#[61]⟩ ++ b : ByteArray).data.toList = 38 :: (s.data.toList ++ 61 :: b.data.toList) := by simp
  have DSm := hid (fun (t : List UInt8) (h1 : namedL s.data.toList = some t) (h2 : s.data.toList.getLast? = some 59) w => decode_of (⟨#[38]⟩ ++ s ++ b) (strB t ++ strB (decE b.data.toList)) (by rw [hAL, decE_semi _ h1 h2, strB_app]) (by simp [z38]; omega) w)
  have DEm := hid (fun (t : List UInt8) (h1 : namedL (s.data.toList ++ [59]) = some t) w => decode_of (⟨#[38]⟩ ++ s ++ ⟨#[59]⟩ ++ b) (strB t ++ strB (decE b.data.toList)) (by rw [hEL, decE_ended _ h1, strB_app]) (by simp [z38, z59]; omega) w)
  have DOm := hid (fun (t : List UInt8) (h1 : namedL s.data.toList = some t) (h2 : s.data.toList.getLast? ≠ some 59) (h3 : goesL b.data.toList = false) (h4 : b.data.toList.head? ≠ some 59) w => decode_of (⟨#[38]⟩ ++ s ++ b) (strB t ++ strB (decE b.data.toList)) (by rw [hAL, decE_open h1 h2 h3 h4, strB_app]) (by simp [z38]; omega) w)
  have DQm := hid (fun (t : List UInt8) (h1 : namedL s.data.toList = some t) (h2 : s.data.toList.getLast? ≠ some 59) w => decode_of (⟨#[38]⟩ ++ s ++ ⟨#[61]⟩ ++ b) (⟨#[38]⟩ ++ s ++ ⟨#[61]⟩ ++ strB (decE b.data.toList)) (by
    rw [hQL, decE_equal _ h1 h2]
    apply ByteArray.ext
    apply Array.toList_inj.1
    simp [strB]) (by simp [z38, z61]; omega) w)
  have NEs := hid (fun (t : List UInt8) (h : namedL (s.data.toList ++ [59]) = some t) w => named_some (s ++ ⟨#[59]⟩) t (by rw [hcat]; exact h) (by simp [z59]; omega) w)
  have NEn := hid (fun (h : namedL (s.data.toList ++ [59]) = none) w => named_no (s ++ ⟨#[59]⟩) (by rw [hcat]; exact h) (by simp [z59]; omega) w)
  have NBs := hid (fun (t : List UInt8) (h : namedL s.data.toList = some t) w => named_some s t h (by omega) w)
  have NBn := hid (fun (h : namedL s.data.toList = none) w => named_no s h (by omega) w)
  generalize strB (decE b.data.toList) = x at *
  clear hcat hAL hEL hQL
  have hlast : (s.size = 0 ∧ s.toList.isEmpty = true ∧ s.data.toList.getLast? ≠ some 59) ∨ ∃ m, ∃ h : m < s.size, s.size = m + 1 ∧ s.toList.isEmpty = false ∧ s.data.toList.getLast? = some s[m] := by
    by_cases h0 : s.size = 0
    · have q0 : s.data.toList = [] := List.length_eq_zero_iff.1 (by simpa using h0)
      exact .inl ⟨h0, by rw [ByteArray.toList_eq, q0]; rfl, by rw [q0]; simp⟩
    · refine .inr ⟨s.size - 1, by omega, by omega, ?_, ?_⟩
      · rw [ByteArray.toList_eq]
        cases hq : s.data.toList with
        | nil => exact absurd (by have := congrArg List.length hq; simpa using this) h0
        | cons p q => rfl
      · rw [List.getLast?_eq_getElem?]
        have hl : s.data.toList.length = s.size := by simp
        rw [hl, List.getElem?_eq_getElem (by rw [hl]; omega)]
        rfl
  rcases hlast with ⟨h0, he, hnl⟩ | ⟨m, hms, hm, he, hla⟩
  · have HNL := hid hnl
    have HZ := hid h0
    clear hnl h0
    cases hbare : namedL s.data.toList with
    | some t =>
      have hended := namedL_bare hbare HNL.out
      have htl := named_len hbare
      have NE := hid (NEs.out t hended)
      have NB := hid (NBs.out t hbare)
      have DE := hid (DEm.out t hended)
      have DQ := hid (DQm.out t hbare HNL.out)
      have HBA := hid hbare
      have htz : (strB t).size ≤ 14 := by rw [strB_size]; exact htl
      clear hbare hended htl
      go_wp2_with fail
      refine (NE.out _).mono ?_
      rintro e w10 ⟨rfl, hb10⟩
      have HB := hid (HB.out.trans (hb10.mono HB.out.size))
      clear hb10
      go_wp2_with fail
      refine (NB.out _).mono ?_
      rintro e w11 ⟨rfl, hb11⟩
      have HB := hid (HB.out.trans (hb11.mono HB.out.size))
      clear hb11
      go_wp2_with fail
      refine (DE.out _).mono ?_
      rintro e w12 ⟨rfl, hb12⟩
      have HB := hid (HB.out.trans (hb12.mono HB.out.size))
      clear hb12
      go_wp2_with fail
      refine (D0.out _).mono ?_
      rintro e w13 ⟨rfl, hb13⟩
      have HB := hid (HB.out.trans (hb13.mono HB.out.size))
      clear hb13
      by_cases hb0 : b.size = 0
      · have hbe : b.toList.isEmpty = true := by rw [ByteArray.toList_eq]; have : b.data.toList = [] := List.length_eq_zero_iff.1 (by simpa using hb0); rw [this]; rfl
        have q0 : b.data.toList = [] := List.length_eq_zero_iff.1 (by simpa using hb0)
        have OP : Hid (goesL b.data.toList = false ∧ b.data.toList.head? ≠ some 59) := hid ⟨by rw [q0]; rfl, by rw [q0]; simp⟩
        clear hb0 q0
        have DO := hid (DOm.out t HBA.out HNL.out OP.out.1 OP.out.2)
        go_wp2_with fail
        refine (DO.out _).mono ?_
        rintro e w14 ⟨rfl, hb14⟩
        have HB := hid (HB.out.trans (hb14.mono HB.out.size))
        clear hb14
        go_wp2_with fail
        refine (D0.out _).mono ?_
        rintro e w15 ⟨rfl, hb15⟩
        have HB := hid (HB.out.trans (hb15.mono HB.out.size))
        clear hb15
        go_wp2_with fail
        refine (DQ.out _).mono ?_
        rintro e w16 ⟨rfl, hb16⟩
        have HB := hid (HB.out.trans (hb16.mono HB.out.size))
        clear hb16
        go_wp2_with fail
        refine (D0.out _).mono ?_
        rintro e w17 ⟨rfl, hb17⟩
        have HB := hid (HB.out.trans (hb17.mono HB.out.size))
        clear hb17
        go_wp2_with fail
        go_ret
        exact ⟨rfl, HB.out⟩
      · have hbe : b.toList.isEmpty = false := by rw [ByteArray.toList_eq]; cases hq : b.data.toList with | nil => exact absurd (by have := congrArg List.length hq; simpa using this) hb0 | cons p q => rfl
        have hb1 : 0 < b.size := by omega
        have hbl : 0 < b.data.toList.length := by simpa using hb1
        have hby : b[0] = b.data.toList[0] := by simp; rfl
        have hcons : b.data.toList = b[0] :: b.data.toList.drop 1 := by rw [hby]; exact (List.drop_eq_getElem_cons hbl)
        have HCONS := hid hcons
        have h59 := byte_59 b[0]
        have HDIG := hid (fun w => digit_calls b[0] 10 (by omega) (by omega) w)
        have HLET := hid (fun w => letter_calls b[0] w)
        clear hcons hby hb0
        cases hl : isLetter b[0]
        rotate_left
        · have HLT : Hid (∀ w, Calls Try.prog 22 #[.int .u8 ((b[0]).toNat : Int)] w fun e w' => e = .returned (.bool true) ∧ w = w') := hid (fun w => by have := HLET.out w; rwa [hl] at this)
          clear h59 hl
          go_wp2_with fail
          refine (HLT.out _).mono ?_
          rintro e w' ⟨rfl, rfl⟩
          go_wp2_with fail
          refine (DQ.out _).mono ?_
          rintro e w18 ⟨rfl, hb18⟩
          have HB := hid (HB.out.trans (hb18.mono HB.out.size))
          clear hb18
          go_wp2_with fail
          refine (D0.out _).mono ?_
          rintro e w19 ⟨rfl, hb19⟩
          have HB := hid (HB.out.trans (hb19.mono HB.out.size))
          clear hb19
          go_wp2_with fail
          go_ret
          exact ⟨rfl, HB.out⟩
        have HLF : Hid (∀ w, Calls Try.prog 22 #[.int .u8 ((b[0]).toNat : Int)] w fun e w' => e = .returned (.bool false) ∧ w = w') := hid (fun w => by have := HLET.out w; rwa [hl] at this)
        by_cases hd : digit b[0] 10 < 0
        rotate_left
        · have hdd : decide (digit b[0] 10 < 0) = false := decide_eq_false hd
          clear h59 hl hd
          generalize digit b[0] 10 = dg at *
          go_wp2_with fail
          refine (HLF.out _).mono ?_
          rintro e w' ⟨rfl, rfl⟩
          go_wp2_with fail
          refine (HDIG.out _).mono ?_
          rintro e w' ⟨rfl, rfl⟩
          go_wp2_with fail
          refine (DQ.out _).mono ?_
          rintro e w20 ⟨rfl, hb20⟩
          have HB := hid (HB.out.trans (hb20.mono HB.out.size))
          clear hb20
          go_wp2_with fail
          refine (D0.out _).mono ?_
          rintro e w21 ⟨rfl, hb21⟩
          have HB := hid (HB.out.trans (hb21.mono HB.out.size))
          clear hb21
          go_wp2_with fail
          go_ret
          exact ⟨rfl, HB.out⟩
        have hdd : decide (digit b[0] 10 < 0) = true := decide_eq_true hd
        cases h61 : (((b[0]).toNat : Int) == 61)
        rotate_left
        · have h61n : (((b[0]).toNat : Int) != 61) = false := by simp [bne, h61]
          clear h59 hl hd
          generalize digit b[0] 10 = dg at *
          go_wp2_with fail
          refine (HLF.out _).mono ?_
          rintro e w' ⟨rfl, rfl⟩
          go_wp2_with fail
          refine (HDIG.out _).mono ?_
          rintro e w' ⟨rfl, rfl⟩
          go_wp2_with fail
          refine (DQ.out _).mono ?_
          rintro e w22 ⟨rfl, hb22⟩
          have HB := hid (HB.out.trans (hb22.mono HB.out.size))
          clear hb22
          go_wp2_with fail
          refine (D0.out _).mono ?_
          rintro e w23 ⟨rfl, hb23⟩
          have HB := hid (HB.out.trans (hb23.mono HB.out.size))
          clear hb23
          go_wp2_with fail
          go_ret
          exact ⟨rfl, HB.out⟩
        have h61n : (((b[0]).toNat : Int) != 61) = true := by simp [bne, h61]
        cases hs9 : (((b[0]).toNat : Int) == 59)
        rotate_left
        · have hs9n : (((b[0]).toNat : Int) != 59) = false := by simp [bne, hs9]
          clear h59 hl hd
          generalize digit b[0] 10 = dg at *
          go_wp2_with fail
          refine (HLF.out _).mono ?_
          rintro e w' ⟨rfl, rfl⟩
          go_wp2_with fail
          refine (HDIG.out _).mono ?_
          rintro e w' ⟨rfl, rfl⟩
          go_wp2_with fail
          refine (DQ.out _).mono ?_
          rintro e w24 ⟨rfl, hb24⟩
          have HB := hid (HB.out.trans (hb24.mono HB.out.size))
          clear hb24
          go_wp2_with fail
          refine (D0.out _).mono ?_
          rintro e w25 ⟨rfl, hb25⟩
          have HB := hid (HB.out.trans (hb25.mono HB.out.size))
          clear hb25
          go_wp2_with fail
          go_ret
          exact ⟨rfl, HB.out⟩
        have hs9n : (((b[0]).toNat : Int) != 59) = true := by simp [bne, hs9]
        have OP : Hid (goesL b.data.toList = false ∧ b.data.toList.head? ≠ some 59) := hid (by
          rw [HCONS.out]
          refine ⟨goes_no hl hd h61, ?_⟩
          rw [hs9] at h59
          intro e
          injection e with e
          rw [e] at h59
          revert h59
          decide)
        clear h59 hl hd
        generalize digit b[0] 10 = dg at *
        have DO := hid (DOm.out t HBA.out HNL.out OP.out.1 OP.out.2)
        go_wp2_with fail
        refine (HLF.out _).mono ?_
        rintro e w' ⟨rfl, rfl⟩
        go_wp2_with fail
        refine (HDIG.out _).mono ?_
        rintro e w' ⟨rfl, rfl⟩
        go_wp2_with fail
        refine (DO.out _).mono ?_
        rintro e w26 ⟨rfl, hb26⟩
        have HB := hid (HB.out.trans (hb26.mono HB.out.size))
        clear hb26
        go_wp2_with fail
        refine (D0.out _).mono ?_
        rintro e w27 ⟨rfl, hb27⟩
        have HB := hid (HB.out.trans (hb27.mono HB.out.size))
        clear hb27
        go_wp2_with fail
        refine (DQ.out _).mono ?_
        rintro e w28 ⟨rfl, hb28⟩
        have HB := hid (HB.out.trans (hb28.mono HB.out.size))
        clear hb28
        go_wp2_with fail
        refine (D0.out _).mono ?_
        rintro e w29 ⟨rfl, hb29⟩
        have HB := hid (HB.out.trans (hb29.mono HB.out.size))
        clear hb29
        go_wp2_with fail
        go_ret
        exact ⟨rfl, HB.out⟩
    | none =>
      have NB := hid (NBn.out hbare)
      clear hbare
      cases hended : namedL (s.data.toList ++ [59]) with
      | some t =>
        have htl := named_len hended
        have NE := hid (NEs.out t hended)
        have DE := hid (DEm.out t hended)
        have htz : (strB t).size ≤ 14 := by rw [strB_size]; exact htl
        clear hended htl
        go_wp2_with fail
        refine (NE.out _).mono ?_
        rintro e w30 ⟨rfl, hb30⟩
        have HB := hid (HB.out.trans (hb30.mono HB.out.size))
        clear hb30
        go_wp2_with fail
        refine (NB.out _).mono ?_
        rintro e w31 ⟨rfl, hb31⟩
        have HB := hid (HB.out.trans (hb31.mono HB.out.size))
        clear hb31
        go_wp2_with fail
        refine (DE.out _).mono ?_
        rintro e w32 ⟨rfl, hb32⟩
        have HB := hid (HB.out.trans (hb32.mono HB.out.size))
        clear hb32
        go_wp2_with fail
        refine (D0.out _).mono ?_
        rintro e w33 ⟨rfl, hb33⟩
        have HB := hid (HB.out.trans (hb33.mono HB.out.size))
        clear hb33
        by_cases hb0 : b.size = 0
        · have hbe : b.toList.isEmpty = true := by rw [ByteArray.toList_eq]; have : b.data.toList = [] := List.length_eq_zero_iff.1 (by simpa using hb0); rw [this]; rfl
          have q0 : b.data.toList = [] := List.length_eq_zero_iff.1 (by simpa using hb0)
          have OP : Hid (goesL b.data.toList = false ∧ b.data.toList.head? ≠ some 59) := hid ⟨by rw [q0]; rfl, by rw [q0]; simp⟩
          clear hb0 q0
          go_wp2_with fail
          go_ret
          exact ⟨rfl, HB.out⟩
        · have hbe : b.toList.isEmpty = false := by rw [ByteArray.toList_eq]; cases hq : b.data.toList with | nil => exact absurd (by have := congrArg List.length hq; simpa using this) hb0 | cons p q => rfl
          have hb1 : 0 < b.size := by omega
          have hbl : 0 < b.data.toList.length := by simpa using hb1
          have hby : b[0] = b.data.toList[0] := by simp; rfl
          have hcons : b.data.toList = b[0] :: b.data.toList.drop 1 := by rw [hby]; exact (List.drop_eq_getElem_cons hbl)
          have HCONS := hid hcons
          have h59 := byte_59 b[0]
          have HDIG := hid (fun w => digit_calls b[0] 10 (by omega) (by omega) w)
          have HLET := hid (fun w => letter_calls b[0] w)
          clear hcons hby hb0
          cases hl : isLetter b[0]
          rotate_left
          · have HLT : Hid (∀ w, Calls Try.prog 22 #[.int .u8 ((b[0]).toNat : Int)] w fun e w' => e = .returned (.bool true) ∧ w = w') := hid (fun w => by have := HLET.out w; rwa [hl] at this)
            clear h59 hl
            go_wp2_with fail
            refine (HLT.out _).mono ?_
            rintro e w' ⟨rfl, rfl⟩
            go_wp2_with fail
            go_ret
            exact ⟨rfl, HB.out⟩
          have HLF : Hid (∀ w, Calls Try.prog 22 #[.int .u8 ((b[0]).toNat : Int)] w fun e w' => e = .returned (.bool false) ∧ w = w') := hid (fun w => by have := HLET.out w; rwa [hl] at this)
          by_cases hd : digit b[0] 10 < 0
          rotate_left
          · have hdd : decide (digit b[0] 10 < 0) = false := decide_eq_false hd
            clear h59 hl hd
            generalize digit b[0] 10 = dg at *
            go_wp2_with fail
            refine (HLF.out _).mono ?_
            rintro e w' ⟨rfl, rfl⟩
            go_wp2_with fail
            refine (HDIG.out _).mono ?_
            rintro e w' ⟨rfl, rfl⟩
            go_wp2_with fail
            go_ret
            exact ⟨rfl, HB.out⟩
          have hdd : decide (digit b[0] 10 < 0) = true := decide_eq_true hd
          cases h61 : (((b[0]).toNat : Int) == 61)
          rotate_left
          · have h61n : (((b[0]).toNat : Int) != 61) = false := by simp [bne, h61]
            clear h59 hl hd
            generalize digit b[0] 10 = dg at *
            go_wp2_with fail
            refine (HLF.out _).mono ?_
            rintro e w' ⟨rfl, rfl⟩
            go_wp2_with fail
            refine (HDIG.out _).mono ?_
            rintro e w' ⟨rfl, rfl⟩
            go_wp2_with fail
            go_ret
            exact ⟨rfl, HB.out⟩
          have h61n : (((b[0]).toNat : Int) != 61) = true := by simp [bne, h61]
          cases hs9 : (((b[0]).toNat : Int) == 59)
          rotate_left
          · have hs9n : (((b[0]).toNat : Int) != 59) = false := by simp [bne, hs9]
            clear h59 hl hd
            generalize digit b[0] 10 = dg at *
            go_wp2_with fail
            refine (HLF.out _).mono ?_
            rintro e w' ⟨rfl, rfl⟩
            go_wp2_with fail
            refine (HDIG.out _).mono ?_
            rintro e w' ⟨rfl, rfl⟩
            go_wp2_with fail
            go_ret
            exact ⟨rfl, HB.out⟩
          have hs9n : (((b[0]).toNat : Int) != 59) = true := by simp [bne, hs9]
          have OP : Hid (goesL b.data.toList = false ∧ b.data.toList.head? ≠ some 59) := hid (by
            rw [HCONS.out]
            refine ⟨goes_no hl hd h61, ?_⟩
            rw [hs9] at h59
            intro e
            injection e with e
            rw [e] at h59
            revert h59
            decide)
          clear h59 hl hd
          generalize digit b[0] 10 = dg at *
          go_wp2_with fail
          refine (HLF.out _).mono ?_
          rintro e w' ⟨rfl, rfl⟩
          go_wp2_with fail
          refine (HDIG.out _).mono ?_
          rintro e w' ⟨rfl, rfl⟩
          go_wp2_with fail
          go_ret
          exact ⟨rfl, HB.out⟩
      | none =>
        have NE := hid (NEn.out hended)
        clear hended
        go_wp2_with fail
        refine (NE.out _).mono ?_
        rintro e w34 ⟨rfl, hb34⟩
        have HB := hid (HB.out.trans (hb34.mono HB.out.size))
        clear hb34
        go_wp2_with fail
        refine (NB.out _).mono ?_
        rintro e w35 ⟨rfl, hb35⟩
        have HB := hid (HB.out.trans (hb35.mono HB.out.size))
        clear hb35
        by_cases hb0 : b.size = 0
        · have hbe : b.toList.isEmpty = true := by rw [ByteArray.toList_eq]; have : b.data.toList = [] := List.length_eq_zero_iff.1 (by simpa using hb0); rw [this]; rfl
          have q0 : b.data.toList = [] := List.length_eq_zero_iff.1 (by simpa using hb0)
          have OP : Hid (goesL b.data.toList = false ∧ b.data.toList.head? ≠ some 59) := hid ⟨by rw [q0]; rfl, by rw [q0]; simp⟩
          clear hb0 q0
          go_wp2_with fail
          go_ret
          exact ⟨rfl, HB.out⟩
        · have hbe : b.toList.isEmpty = false := by rw [ByteArray.toList_eq]; cases hq : b.data.toList with | nil => exact absurd (by have := congrArg List.length hq; simpa using this) hb0 | cons p q => rfl
          have hb1 : 0 < b.size := by omega
          have hbl : 0 < b.data.toList.length := by simpa using hb1
          have hby : b[0] = b.data.toList[0] := by simp; rfl
          have hcons : b.data.toList = b[0] :: b.data.toList.drop 1 := by rw [hby]; exact (List.drop_eq_getElem_cons hbl)
          have HCONS := hid hcons
          have h59 := byte_59 b[0]
          have HDIG := hid (fun w => digit_calls b[0] 10 (by omega) (by omega) w)
          have HLET := hid (fun w => letter_calls b[0] w)
          clear hcons hby hb0
          cases hl : isLetter b[0]
          rotate_left
          · have HLT : Hid (∀ w, Calls Try.prog 22 #[.int .u8 ((b[0]).toNat : Int)] w fun e w' => e = .returned (.bool true) ∧ w = w') := hid (fun w => by have := HLET.out w; rwa [hl] at this)
            clear h59 hl
            go_wp2_with fail
            refine (HLT.out _).mono ?_
            rintro e w' ⟨rfl, rfl⟩
            go_wp2_with fail
            go_ret
            exact ⟨rfl, HB.out⟩
          have HLF : Hid (∀ w, Calls Try.prog 22 #[.int .u8 ((b[0]).toNat : Int)] w fun e w' => e = .returned (.bool false) ∧ w = w') := hid (fun w => by have := HLET.out w; rwa [hl] at this)
          by_cases hd : digit b[0] 10 < 0
          rotate_left
          · have hdd : decide (digit b[0] 10 < 0) = false := decide_eq_false hd
            clear h59 hl hd
            generalize digit b[0] 10 = dg at *
            go_wp2_with fail
            refine (HLF.out _).mono ?_
            rintro e w' ⟨rfl, rfl⟩
            go_wp2_with fail
            refine (HDIG.out _).mono ?_
            rintro e w' ⟨rfl, rfl⟩
            go_wp2_with fail
            go_ret
            exact ⟨rfl, HB.out⟩
          have hdd : decide (digit b[0] 10 < 0) = true := decide_eq_true hd
          cases h61 : (((b[0]).toNat : Int) == 61)
          rotate_left
          · have h61n : (((b[0]).toNat : Int) != 61) = false := by simp [bne, h61]
            clear h59 hl hd
            generalize digit b[0] 10 = dg at *
            go_wp2_with fail
            refine (HLF.out _).mono ?_
            rintro e w' ⟨rfl, rfl⟩
            go_wp2_with fail
            refine (HDIG.out _).mono ?_
            rintro e w' ⟨rfl, rfl⟩
            go_wp2_with fail
            go_ret
            exact ⟨rfl, HB.out⟩
          have h61n : (((b[0]).toNat : Int) != 61) = true := by simp [bne, h61]
          cases hs9 : (((b[0]).toNat : Int) == 59)
          rotate_left
          · have hs9n : (((b[0]).toNat : Int) != 59) = false := by simp [bne, hs9]
            clear h59 hl hd
            generalize digit b[0] 10 = dg at *
            go_wp2_with fail
            refine (HLF.out _).mono ?_
            rintro e w' ⟨rfl, rfl⟩
            go_wp2_with fail
            refine (HDIG.out _).mono ?_
            rintro e w' ⟨rfl, rfl⟩
            go_wp2_with fail
            go_ret
            exact ⟨rfl, HB.out⟩
          have hs9n : (((b[0]).toNat : Int) != 59) = true := by simp [bne, hs9]
          have OP : Hid (goesL b.data.toList = false ∧ b.data.toList.head? ≠ some 59) := hid (by
            rw [HCONS.out]
            refine ⟨goes_no hl hd h61, ?_⟩
            rw [hs9] at h59
            intro e
            injection e with e
            rw [e] at h59
            revert h59
            decide)
          clear h59 hl hd
          generalize digit b[0] 10 = dg at *
          go_wp2_with fail
          refine (HLF.out _).mono ?_
          rintro e w' ⟨rfl, rfl⟩
          go_wp2_with fail
          refine (HDIG.out _).mono ?_
          rintro e w' ⟨rfl, rfl⟩
          go_wp2_with fail
          go_ret
          exact ⟨rfl, HB.out⟩
  · have hW : IntKind.i64.wrap ((s.size : Int) - 1) = (m : Int) := by rw [IntWalk.i64_in _ (by omega)]; omega
    have hM := hid hm
    have h9 := byte_59 s[m]
    have hma : s.size ≤ m + 1 := by omega
    clear hm
    cases hc : (((s[m]).toNat : Int) == 59)
    · have HNL : Hid (s.data.toList.getLast? ≠ some 59) := hid (by
        rw [hla]
        rw [hc] at h9
        intro e
        injection e with e
        rw [e] at h9
        revert h9
        decide)
      clear hla h9
      cases hbare : namedL s.data.toList with
      | some t =>
        have hended := namedL_bare hbare HNL.out
        have htl := named_len hbare
        have NE := hid (NEs.out t hended)
        have NB := hid (NBs.out t hbare)
        have DE := hid (DEm.out t hended)
        have DQ := hid (DQm.out t hbare HNL.out)
        have HBA := hid hbare
        have htz : (strB t).size ≤ 14 := by rw [strB_size]; exact htl
        clear hbare hended htl
        go_wp2_with fail
        refine (NE.out _).mono ?_
        rintro e w36 ⟨rfl, hb36⟩
        have HB := hid (HB.out.trans (hb36.mono HB.out.size))
        clear hb36
        go_wp2_with fail
        refine (NB.out _).mono ?_
        rintro e w37 ⟨rfl, hb37⟩
        have HB := hid (HB.out.trans (hb37.mono HB.out.size))
        clear hb37
        go_wp2_with fail
        refine (DE.out _).mono ?_
        rintro e w38 ⟨rfl, hb38⟩
        have HB := hid (HB.out.trans (hb38.mono HB.out.size))
        clear hb38
        go_wp2_with fail
        refine (D0.out _).mono ?_
        rintro e w39 ⟨rfl, hb39⟩
        have HB := hid (HB.out.trans (hb39.mono HB.out.size))
        clear hb39
        by_cases hb0 : b.size = 0
        · have hbe : b.toList.isEmpty = true := by rw [ByteArray.toList_eq]; have : b.data.toList = [] := List.length_eq_zero_iff.1 (by simpa using hb0); rw [this]; rfl
          have q0 : b.data.toList = [] := List.length_eq_zero_iff.1 (by simpa using hb0)
          have OP : Hid (goesL b.data.toList = false ∧ b.data.toList.head? ≠ some 59) := hid ⟨by rw [q0]; rfl, by rw [q0]; simp⟩
          clear hb0 q0
          have DO := hid (DOm.out t HBA.out HNL.out OP.out.1 OP.out.2)
          go_wp2_with fail
          refine (DO.out _).mono ?_
          rintro e w40 ⟨rfl, hb40⟩
          have HB := hid (HB.out.trans (hb40.mono HB.out.size))
          clear hb40
          go_wp2_with fail
          refine (D0.out _).mono ?_
          rintro e w41 ⟨rfl, hb41⟩
          have HB := hid (HB.out.trans (hb41.mono HB.out.size))
          clear hb41
          go_wp2_with fail
          refine (DQ.out _).mono ?_
          rintro e w42 ⟨rfl, hb42⟩
          have HB := hid (HB.out.trans (hb42.mono HB.out.size))
          clear hb42
          go_wp2_with fail
          refine (D0.out _).mono ?_
          rintro e w43 ⟨rfl, hb43⟩
          have HB := hid (HB.out.trans (hb43.mono HB.out.size))
          clear hb43
          go_wp2_with fail
          go_ret
          exact ⟨rfl, HB.out⟩
        · have hbe : b.toList.isEmpty = false := by rw [ByteArray.toList_eq]; cases hq : b.data.toList with | nil => exact absurd (by have := congrArg List.length hq; simpa using this) hb0 | cons p q => rfl
          have hb1 : 0 < b.size := by omega
          have hbl : 0 < b.data.toList.length := by simpa using hb1
          have hby : b[0] = b.data.toList[0] := by simp; rfl
          have hcons : b.data.toList = b[0] :: b.data.toList.drop 1 := by rw [hby]; exact (List.drop_eq_getElem_cons hbl)
          have HCONS := hid hcons
          have h59 := byte_59 b[0]
          have HDIG := hid (fun w => digit_calls b[0] 10 (by omega) (by omega) w)
          have HLET := hid (fun w => letter_calls b[0] w)
          clear hcons hby hb0
          cases hl : isLetter b[0]
          rotate_left
          · have HLT : Hid (∀ w, Calls Try.prog 22 #[.int .u8 ((b[0]).toNat : Int)] w fun e w' => e = .returned (.bool true) ∧ w = w') := hid (fun w => by have := HLET.out w; rwa [hl] at this)
            clear h59 hl
            go_wp2_with fail
            refine (HLT.out _).mono ?_
            rintro e w' ⟨rfl, rfl⟩
            go_wp2_with fail
            refine (DQ.out _).mono ?_
            rintro e w44 ⟨rfl, hb44⟩
            have HB := hid (HB.out.trans (hb44.mono HB.out.size))
            clear hb44
            go_wp2_with fail
            refine (D0.out _).mono ?_
            rintro e w45 ⟨rfl, hb45⟩
            have HB := hid (HB.out.trans (hb45.mono HB.out.size))
            clear hb45
            go_wp2_with fail
            go_ret
            exact ⟨rfl, HB.out⟩
          have HLF : Hid (∀ w, Calls Try.prog 22 #[.int .u8 ((b[0]).toNat : Int)] w fun e w' => e = .returned (.bool false) ∧ w = w') := hid (fun w => by have := HLET.out w; rwa [hl] at this)
          by_cases hd : digit b[0] 10 < 0
          rotate_left
          · have hdd : decide (digit b[0] 10 < 0) = false := decide_eq_false hd
            clear h59 hl hd
            generalize digit b[0] 10 = dg at *
            go_wp2_with fail
            refine (HLF.out _).mono ?_
            rintro e w' ⟨rfl, rfl⟩
            go_wp2_with fail
            refine (HDIG.out _).mono ?_
            rintro e w' ⟨rfl, rfl⟩
            go_wp2_with fail
            refine (DQ.out _).mono ?_
            rintro e w46 ⟨rfl, hb46⟩
            have HB := hid (HB.out.trans (hb46.mono HB.out.size))
            clear hb46
            go_wp2_with fail
            refine (D0.out _).mono ?_
            rintro e w47 ⟨rfl, hb47⟩
            have HB := hid (HB.out.trans (hb47.mono HB.out.size))
            clear hb47
            go_wp2_with fail
            go_ret
            exact ⟨rfl, HB.out⟩
          have hdd : decide (digit b[0] 10 < 0) = true := decide_eq_true hd
          cases h61 : (((b[0]).toNat : Int) == 61)
          rotate_left
          · have h61n : (((b[0]).toNat : Int) != 61) = false := by simp [bne, h61]
            clear h59 hl hd
            generalize digit b[0] 10 = dg at *
            go_wp2_with fail
            refine (HLF.out _).mono ?_
            rintro e w' ⟨rfl, rfl⟩
            go_wp2_with fail
            refine (HDIG.out _).mono ?_
            rintro e w' ⟨rfl, rfl⟩
            go_wp2_with fail
            refine (DQ.out _).mono ?_
            rintro e w48 ⟨rfl, hb48⟩
            have HB := hid (HB.out.trans (hb48.mono HB.out.size))
            clear hb48
            go_wp2_with fail
            refine (D0.out _).mono ?_
            rintro e w49 ⟨rfl, hb49⟩
            have HB := hid (HB.out.trans (hb49.mono HB.out.size))
            clear hb49
            go_wp2_with fail
            go_ret
            exact ⟨rfl, HB.out⟩
          have h61n : (((b[0]).toNat : Int) != 61) = true := by simp [bne, h61]
          cases hs9 : (((b[0]).toNat : Int) == 59)
          rotate_left
          · have hs9n : (((b[0]).toNat : Int) != 59) = false := by simp [bne, hs9]
            clear h59 hl hd
            generalize digit b[0] 10 = dg at *
            go_wp2_with fail
            refine (HLF.out _).mono ?_
            rintro e w' ⟨rfl, rfl⟩
            go_wp2_with fail
            refine (HDIG.out _).mono ?_
            rintro e w' ⟨rfl, rfl⟩
            go_wp2_with fail
            refine (DQ.out _).mono ?_
            rintro e w50 ⟨rfl, hb50⟩
            have HB := hid (HB.out.trans (hb50.mono HB.out.size))
            clear hb50
            go_wp2_with fail
            refine (D0.out _).mono ?_
            rintro e w51 ⟨rfl, hb51⟩
            have HB := hid (HB.out.trans (hb51.mono HB.out.size))
            clear hb51
            go_wp2_with fail
            go_ret
            exact ⟨rfl, HB.out⟩
          have hs9n : (((b[0]).toNat : Int) != 59) = true := by simp [bne, hs9]
          have OP : Hid (goesL b.data.toList = false ∧ b.data.toList.head? ≠ some 59) := hid (by
            rw [HCONS.out]
            refine ⟨goes_no hl hd h61, ?_⟩
            rw [hs9] at h59
            intro e
            injection e with e
            rw [e] at h59
            revert h59
            decide)
          clear h59 hl hd
          generalize digit b[0] 10 = dg at *
          have DO := hid (DOm.out t HBA.out HNL.out OP.out.1 OP.out.2)
          go_wp2_with fail
          refine (HLF.out _).mono ?_
          rintro e w' ⟨rfl, rfl⟩
          go_wp2_with fail
          refine (HDIG.out _).mono ?_
          rintro e w' ⟨rfl, rfl⟩
          go_wp2_with fail
          refine (DO.out _).mono ?_
          rintro e w52 ⟨rfl, hb52⟩
          have HB := hid (HB.out.trans (hb52.mono HB.out.size))
          clear hb52
          go_wp2_with fail
          refine (D0.out _).mono ?_
          rintro e w53 ⟨rfl, hb53⟩
          have HB := hid (HB.out.trans (hb53.mono HB.out.size))
          clear hb53
          go_wp2_with fail
          refine (DQ.out _).mono ?_
          rintro e w54 ⟨rfl, hb54⟩
          have HB := hid (HB.out.trans (hb54.mono HB.out.size))
          clear hb54
          go_wp2_with fail
          refine (D0.out _).mono ?_
          rintro e w55 ⟨rfl, hb55⟩
          have HB := hid (HB.out.trans (hb55.mono HB.out.size))
          clear hb55
          go_wp2_with fail
          go_ret
          exact ⟨rfl, HB.out⟩
      | none =>
        have NB := hid (NBn.out hbare)
        clear hbare
        cases hended : namedL (s.data.toList ++ [59]) with
        | some t =>
          have htl := named_len hended
          have NE := hid (NEs.out t hended)
          have DE := hid (DEm.out t hended)
          have htz : (strB t).size ≤ 14 := by rw [strB_size]; exact htl
          clear hended htl
          go_wp2_with fail
          refine (NE.out _).mono ?_
          rintro e w56 ⟨rfl, hb56⟩
          have HB := hid (HB.out.trans (hb56.mono HB.out.size))
          clear hb56
          go_wp2_with fail
          refine (NB.out _).mono ?_
          rintro e w57 ⟨rfl, hb57⟩
          have HB := hid (HB.out.trans (hb57.mono HB.out.size))
          clear hb57
          go_wp2_with fail
          refine (DE.out _).mono ?_
          rintro e w58 ⟨rfl, hb58⟩
          have HB := hid (HB.out.trans (hb58.mono HB.out.size))
          clear hb58
          go_wp2_with fail
          refine (D0.out _).mono ?_
          rintro e w59 ⟨rfl, hb59⟩
          have HB := hid (HB.out.trans (hb59.mono HB.out.size))
          clear hb59
          by_cases hb0 : b.size = 0
          · have hbe : b.toList.isEmpty = true := by rw [ByteArray.toList_eq]; have : b.data.toList = [] := List.length_eq_zero_iff.1 (by simpa using hb0); rw [this]; rfl
            have q0 : b.data.toList = [] := List.length_eq_zero_iff.1 (by simpa using hb0)
            have OP : Hid (goesL b.data.toList = false ∧ b.data.toList.head? ≠ some 59) := hid ⟨by rw [q0]; rfl, by rw [q0]; simp⟩
            clear hb0 q0
            go_wp2_with fail
            go_ret
            exact ⟨rfl, HB.out⟩
          · have hbe : b.toList.isEmpty = false := by rw [ByteArray.toList_eq]; cases hq : b.data.toList with | nil => exact absurd (by have := congrArg List.length hq; simpa using this) hb0 | cons p q => rfl
            have hb1 : 0 < b.size := by omega
            have hbl : 0 < b.data.toList.length := by simpa using hb1
            have hby : b[0] = b.data.toList[0] := by simp; rfl
            have hcons : b.data.toList = b[0] :: b.data.toList.drop 1 := by rw [hby]; exact (List.drop_eq_getElem_cons hbl)
            have HCONS := hid hcons
            have h59 := byte_59 b[0]
            have HDIG := hid (fun w => digit_calls b[0] 10 (by omega) (by omega) w)
            have HLET := hid (fun w => letter_calls b[0] w)
            clear hcons hby hb0
            cases hl : isLetter b[0]
            rotate_left
            · have HLT : Hid (∀ w, Calls Try.prog 22 #[.int .u8 ((b[0]).toNat : Int)] w fun e w' => e = .returned (.bool true) ∧ w = w') := hid (fun w => by have := HLET.out w; rwa [hl] at this)
              clear h59 hl
              go_wp2_with fail
              refine (HLT.out _).mono ?_
              rintro e w' ⟨rfl, rfl⟩
              go_wp2_with fail
              go_ret
              exact ⟨rfl, HB.out⟩
            have HLF : Hid (∀ w, Calls Try.prog 22 #[.int .u8 ((b[0]).toNat : Int)] w fun e w' => e = .returned (.bool false) ∧ w = w') := hid (fun w => by have := HLET.out w; rwa [hl] at this)
            by_cases hd : digit b[0] 10 < 0
            rotate_left
            · have hdd : decide (digit b[0] 10 < 0) = false := decide_eq_false hd
              clear h59 hl hd
              generalize digit b[0] 10 = dg at *
              go_wp2_with fail
              refine (HLF.out _).mono ?_
              rintro e w' ⟨rfl, rfl⟩
              go_wp2_with fail
              refine (HDIG.out _).mono ?_
              rintro e w' ⟨rfl, rfl⟩
              go_wp2_with fail
              go_ret
              exact ⟨rfl, HB.out⟩
            have hdd : decide (digit b[0] 10 < 0) = true := decide_eq_true hd
            cases h61 : (((b[0]).toNat : Int) == 61)
            rotate_left
            · have h61n : (((b[0]).toNat : Int) != 61) = false := by simp [bne, h61]
              clear h59 hl hd
              generalize digit b[0] 10 = dg at *
              go_wp2_with fail
              refine (HLF.out _).mono ?_
              rintro e w' ⟨rfl, rfl⟩
              go_wp2_with fail
              refine (HDIG.out _).mono ?_
              rintro e w' ⟨rfl, rfl⟩
              go_wp2_with fail
              go_ret
              exact ⟨rfl, HB.out⟩
            have h61n : (((b[0]).toNat : Int) != 61) = true := by simp [bne, h61]
            cases hs9 : (((b[0]).toNat : Int) == 59)
            rotate_left
            · have hs9n : (((b[0]).toNat : Int) != 59) = false := by simp [bne, hs9]
              clear h59 hl hd
              generalize digit b[0] 10 = dg at *
              go_wp2_with fail
              refine (HLF.out _).mono ?_
              rintro e w' ⟨rfl, rfl⟩
              go_wp2_with fail
              refine (HDIG.out _).mono ?_
              rintro e w' ⟨rfl, rfl⟩
              go_wp2_with fail
              go_ret
              exact ⟨rfl, HB.out⟩
            have hs9n : (((b[0]).toNat : Int) != 59) = true := by simp [bne, hs9]
            have OP : Hid (goesL b.data.toList = false ∧ b.data.toList.head? ≠ some 59) := hid (by
              rw [HCONS.out]
              refine ⟨goes_no hl hd h61, ?_⟩
              rw [hs9] at h59
              intro e
              injection e with e
              rw [e] at h59
              revert h59
              decide)
            clear h59 hl hd
            generalize digit b[0] 10 = dg at *
            go_wp2_with fail
            refine (HLF.out _).mono ?_
            rintro e w' ⟨rfl, rfl⟩
            go_wp2_with fail
            refine (HDIG.out _).mono ?_
            rintro e w' ⟨rfl, rfl⟩
            go_wp2_with fail
            go_ret
            exact ⟨rfl, HB.out⟩
        | none =>
          have NE := hid (NEn.out hended)
          clear hended
          go_wp2_with fail
          refine (NE.out _).mono ?_
          rintro e w60 ⟨rfl, hb60⟩
          have HB := hid (HB.out.trans (hb60.mono HB.out.size))
          clear hb60
          go_wp2_with fail
          refine (NB.out _).mono ?_
          rintro e w61 ⟨rfl, hb61⟩
          have HB := hid (HB.out.trans (hb61.mono HB.out.size))
          clear hb61
          by_cases hb0 : b.size = 0
          · have hbe : b.toList.isEmpty = true := by rw [ByteArray.toList_eq]; have : b.data.toList = [] := List.length_eq_zero_iff.1 (by simpa using hb0); rw [this]; rfl
            have q0 : b.data.toList = [] := List.length_eq_zero_iff.1 (by simpa using hb0)
            have OP : Hid (goesL b.data.toList = false ∧ b.data.toList.head? ≠ some 59) := hid ⟨by rw [q0]; rfl, by rw [q0]; simp⟩
            clear hb0 q0
            go_wp2_with fail
            go_ret
            exact ⟨rfl, HB.out⟩
          · have hbe : b.toList.isEmpty = false := by rw [ByteArray.toList_eq]; cases hq : b.data.toList with | nil => exact absurd (by have := congrArg List.length hq; simpa using this) hb0 | cons p q => rfl
            have hb1 : 0 < b.size := by omega
            have hbl : 0 < b.data.toList.length := by simpa using hb1
            have hby : b[0] = b.data.toList[0] := by simp; rfl
            have hcons : b.data.toList = b[0] :: b.data.toList.drop 1 := by rw [hby]; exact (List.drop_eq_getElem_cons hbl)
            have HCONS := hid hcons
            have h59 := byte_59 b[0]
            have HDIG := hid (fun w => digit_calls b[0] 10 (by omega) (by omega) w)
            have HLET := hid (fun w => letter_calls b[0] w)
            clear hcons hby hb0
            cases hl : isLetter b[0]
            rotate_left
            · have HLT : Hid (∀ w, Calls Try.prog 22 #[.int .u8 ((b[0]).toNat : Int)] w fun e w' => e = .returned (.bool true) ∧ w = w') := hid (fun w => by have := HLET.out w; rwa [hl] at this)
              clear h59 hl
              go_wp2_with fail
              refine (HLT.out _).mono ?_
              rintro e w' ⟨rfl, rfl⟩
              go_wp2_with fail
              go_ret
              exact ⟨rfl, HB.out⟩
            have HLF : Hid (∀ w, Calls Try.prog 22 #[.int .u8 ((b[0]).toNat : Int)] w fun e w' => e = .returned (.bool false) ∧ w = w') := hid (fun w => by have := HLET.out w; rwa [hl] at this)
            by_cases hd : digit b[0] 10 < 0
            rotate_left
            · have hdd : decide (digit b[0] 10 < 0) = false := decide_eq_false hd
              clear h59 hl hd
              generalize digit b[0] 10 = dg at *
              go_wp2_with fail
              refine (HLF.out _).mono ?_
              rintro e w' ⟨rfl, rfl⟩
              go_wp2_with fail
              refine (HDIG.out _).mono ?_
              rintro e w' ⟨rfl, rfl⟩
              go_wp2_with fail
              go_ret
              exact ⟨rfl, HB.out⟩
            have hdd : decide (digit b[0] 10 < 0) = true := decide_eq_true hd
            cases h61 : (((b[0]).toNat : Int) == 61)
            rotate_left
            · have h61n : (((b[0]).toNat : Int) != 61) = false := by simp [bne, h61]
              clear h59 hl hd
              generalize digit b[0] 10 = dg at *
              go_wp2_with fail
              refine (HLF.out _).mono ?_
              rintro e w' ⟨rfl, rfl⟩
              go_wp2_with fail
              refine (HDIG.out _).mono ?_
              rintro e w' ⟨rfl, rfl⟩
              go_wp2_with fail
              go_ret
              exact ⟨rfl, HB.out⟩
            have h61n : (((b[0]).toNat : Int) != 61) = true := by simp [bne, h61]
            cases hs9 : (((b[0]).toNat : Int) == 59)
            rotate_left
            · have hs9n : (((b[0]).toNat : Int) != 59) = false := by simp [bne, hs9]
              clear h59 hl hd
              generalize digit b[0] 10 = dg at *
              go_wp2_with fail
              refine (HLF.out _).mono ?_
              rintro e w' ⟨rfl, rfl⟩
              go_wp2_with fail
              refine (HDIG.out _).mono ?_
              rintro e w' ⟨rfl, rfl⟩
              go_wp2_with fail
              go_ret
              exact ⟨rfl, HB.out⟩
            have hs9n : (((b[0]).toNat : Int) != 59) = true := by simp [bne, hs9]
            have OP : Hid (goesL b.data.toList = false ∧ b.data.toList.head? ≠ some 59) := hid (by
              rw [HCONS.out]
              refine ⟨goes_no hl hd h61, ?_⟩
              rw [hs9] at h59
              intro e
              injection e with e
              rw [e] at h59
              revert h59
              decide)
            clear h59 hl hd
            generalize digit b[0] 10 = dg at *
            go_wp2_with fail
            refine (HLF.out _).mono ?_
            rintro e w' ⟨rfl, rfl⟩
            go_wp2_with fail
            refine (HDIG.out _).mono ?_
            rintro e w' ⟨rfl, rfl⟩
            go_wp2_with fail
            go_ret
            exact ⟨rfl, HB.out⟩
    · have HLA : Hid (s.data.toList.getLast? = some 59) := hid (by
        rw [hla]
        rw [hc] at h9
        have : s[m] = 59 := by simpa using h9.symm
        rw [this])
      clear hla h9
      cases hended : namedL (s.data.toList ++ [59]) with
      | some q =>
        have NE := hid (NEs.out q hended)
        clear hended
        cases hbare : namedL s.data.toList with
        | some t =>
          have htl := named_len hbare
          have NB := hid (NBs.out t hbare)
          have DS := hid (DSm.out t hbare HLA.out)
          have htz : (strB t).size ≤ 14 := by rw [strB_size]; exact htl
          clear hbare htl
          go_wp2_with fail
          refine (NE.out _).mono ?_
          rintro e w62 ⟨rfl, hb62⟩
          have HB := hid (HB.out.trans (hb62.mono HB.out.size))
          clear hb62
          go_wp2_with fail
          refine (NB.out _).mono ?_
          rintro e w63 ⟨rfl, hb63⟩
          have HB := hid (HB.out.trans (hb63.mono HB.out.size))
          clear hb63
          go_wp2_with fail
          refine (DS.out _).mono ?_
          rintro e w64 ⟨rfl, hb64⟩
          have HB := hid (HB.out.trans (hb64.mono HB.out.size))
          clear hb64
          go_wp2_with fail
          refine (D0.out _).mono ?_
          rintro e w65 ⟨rfl, hb65⟩
          have HB := hid (HB.out.trans (hb65.mono HB.out.size))
          clear hb65
          go_wp2_with fail
          go_ret
          exact ⟨rfl, HB.out⟩
        | none =>
          have NB := hid (NBn.out hbare)
          clear hbare
          go_wp2_with fail
          refine (NE.out _).mono ?_
          rintro e w66 ⟨rfl, hb66⟩
          have HB := hid (HB.out.trans (hb66.mono HB.out.size))
          clear hb66
          go_wp2_with fail
          refine (NB.out _).mono ?_
          rintro e w67 ⟨rfl, hb67⟩
          have HB := hid (HB.out.trans (hb67.mono HB.out.size))
          clear hb67
          go_wp2_with fail
          go_ret
          exact ⟨rfl, HB.out⟩
      | none =>
        have NE := hid (NEn.out hended)
        clear hended
        cases hbare : namedL s.data.toList with
        | some t =>
          have htl := named_len hbare
          have NB := hid (NBs.out t hbare)
          have DS := hid (DSm.out t hbare HLA.out)
          have htz : (strB t).size ≤ 14 := by rw [strB_size]; exact htl
          clear hbare htl
          go_wp2_with fail
          refine (NE.out _).mono ?_
          rintro e w68 ⟨rfl, hb68⟩
          have HB := hid (HB.out.trans (hb68.mono HB.out.size))
          clear hb68
          go_wp2_with fail
          refine (NB.out _).mono ?_
          rintro e w69 ⟨rfl, hb69⟩
          have HB := hid (HB.out.trans (hb69.mono HB.out.size))
          clear hb69
          go_wp2_with fail
          refine (DS.out _).mono ?_
          rintro e w70 ⟨rfl, hb70⟩
          have HB := hid (HB.out.trans (hb70.mono HB.out.size))
          clear hb70
          go_wp2_with fail
          refine (D0.out _).mono ?_
          rintro e w71 ⟨rfl, hb71⟩
          have HB := hid (HB.out.trans (hb71.mono HB.out.size))
          clear hb71
          go_wp2_with fail
          go_ret
          exact ⟨rfl, HB.out⟩
        | none =>
          have NB := hid (NBn.out hbare)
          clear hbare
          go_wp2_with fail
          refine (NE.out _).mono ?_
          rintro e w72 ⟨rfl, hb72⟩
          have HB := hid (HB.out.trans (hb72.mono HB.out.size))
          clear hb72
          go_wp2_with fail
          refine (NB.out _).mono ?_
          rintro e w73 ⟨rfl, hb73⟩
          have HB := hid (HB.out.trans (hb73.mono HB.out.size))
          clear hb73
          go_wp2_with fail
          go_ret
          exact ⟨rfl, HB.out⟩
end Go.Proofs.Ytmcjljjagfpkkaa
