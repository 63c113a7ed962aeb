/-
  The walk of EntityNumbers. Conditions: the arguments are as they can be handed over.
-/
import Derived.Test.YtmcjljjagfpkkaaEntNumeral
set_option linter.all false
namespace Go.Proofs.Ytmcjljjagfpkkaa
open Go.RowKit
theorem digsL_len {base : Nat} (hb : 2 ≤ base) : ∀ k n : Nat, n < base ^ k → (digsL base n).length ≤ k := by
  intro k
  induction k with
  | zero =>
    intro n hn
    have : n = 0 := by simpa using hn
    subst this
    rw [digsL_zero]
    exact Nat.le_refl _
  | succ k ih =>
    intro n hn
    by_cases h0 : n = 0
    · subst h0; rw [digsL_zero]; simp
    · rw [digsL_pos hb (by omega)]
      have h1 : n / base < base ^ k := by
        rw [Nat.div_lt_iff_lt_mul (by omega)]
        rwa [Nat.pow_succ] at hn
      have := ih _ h1
      simp
      omega
theorem numeral_len {base : Nat} (hb : base = 10 ∨ base = 16) (m k : Nat) (hm : m ≤ 2097152) (hk : k ≤ 20) : (numeralL base m k).length ≤ 40 := by
  have h1 : (numerL base m).length ≤ 20 := by
    unfold numerL
    split
    · simp
    · refine Nat.le_trans (digsL_len (by omega) 7 m ?_) (by omega)
      rcases hb with rfl | rfl <;> omega
  unfold numeralL
  simp
  omega
theorem digRun_59 (b : List UInt8) : digRun 10 (59 :: b) = 0 ∧ digRun 16 (59 :: b) = 0 := by
  constructor
  · rw [digRun, if_pos (by decide +kernel)]
  · rw [digRun, if_pos (by decide +kernel)]
theorem decE_ten (n k : Nat) (b : List UInt8) (h : digRun 10 b = 0) (h2 : b.head? ≠ some 59) : decE (38 :: 35 :: (numeralL 10 n k ++ b)) = numberL n ++ decE b := by
  rw [decE_some (refE_ten n k b h), if_neg h2]
  congr 2
  rw [show (35 :: (numeralL 10 n k ++ b)) = (35 :: numeralL 10 n k) ++ b by simp]
  exact List.drop_left' (by simp; omega)
theorem decE_six (n k : Nat) (b : List UInt8) (h : digRun 16 b = 0) (h2 : b.head? ≠ some 59) : decE (38 :: 35 :: 120 :: (numeralL 16 n k ++ b)) = numberL n ++ decE b := by
  rw [decE_some (refE_six n k b h), if_neg h2]
  congr 2
  rw [show (35 :: 120 :: (numeralL 16 n k ++ b)) = (35 :: 120 :: numeralL 16 n k) ++ b by simp]
  exact List.drop_left' (by simp; omega)
theorem decE_ten_s (n k : Nat) (b : List UInt8) : decE (38 :: 35 :: (numeralL 10 n k ++ 59 :: b)) = numberL n ++ decE b := by
  rw [decE_some (refE_ten n k (59 :: b) (digRun_59 b).1), if_pos (show (59 :: b).head? = some 59 from rfl)]
  congr 2
  rw [show (35 :: (numeralL 10 n k ++ 59 :: b)) = (35 :: (numeralL 10 n k ++ [59])) ++ b by simp]
  exact List.drop_left' (by simp; omega)
theorem decE_six_s (n k : Nat) (b : List UInt8) : decE (38 :: 35 :: 120 :: (numeralL 16 n k ++ 59 :: b)) = numberL n ++ decE b := by
  rw [decE_some (refE_six n k (59 :: b) (digRun_59 b).2), if_pos (show (59 :: b).head? = some 59 from rfl)]
  congr 2
  rw [show (35 :: 120 :: (numeralL 16 n k ++ 59 :: b)) = (35 :: 120 :: (numeralL 16 n k ++ [59])) ++ b by simp]
  exact List.drop_left' (by simp; omega)
theorem digit_ten {c : UInt8} (h : digit c 16 < 0) : digit c 10 < 0 := by
  unfold digit at h ⊢
  split at h
  · rw [if_pos (by omega)]; decide
  · split
    · decide
    · exact h
set_option maxHeartbeats 16000000 in
set_option maxRecDepth 100000 in
theorem entityNumbers_walk (c n : Int) (a b : ByteArray) (w : World) (_hc : (Lit.int .i64 c).wf = true) (_hn : (Lit.int .i64 n).wf = true) (ha : a.size ≤ maxLen) (hb : b.size ≤ maxLen) :
    Calls Try.prog 5 #[.int .i64 c, .int .i64 n, .string a, .string b] w fun e w' => e = .returned (.bool true) ∧ Below w.heap.size w w' := by
  unfold maxLen at ha hb
  clear _hc _hn
  go_enter Try.func5, Try.ntmps5
  go_wp2_with fail
  refine (entSmall_calls _).mono ?_
  rintro e w1 ⟨rfl, hb1⟩
  have HB := hid hb1
  clear hb1
  by_cases h1 : c < 0
  · have d1 : decide (c < 0) = true := decide_eq_true h1
    go_wp2_with fail
    go_ret
    exact ⟨rfl, HB.out⟩
  by_cases h2 : 2097152 < c
  · have d1 : decide (c < 0) = false := decide_eq_false h1
    have d2 : decide (2097152 < c) = true := decide_eq_true h2
    go_wp2_with fail
    go_ret
    exact ⟨rfl, HB.out⟩
  by_cases h3 : n < 0
  · have d1 : decide (c < 0) = false := decide_eq_false h1
    have d2 : decide (2097152 < c) = false := decide_eq_false h2
    have d3 : decide (n < 0) = true := decide_eq_true h3
    go_wp2_with fail
    go_ret
    exact ⟨rfl, HB.out⟩
  by_cases h4 : 20 < n
  · have d1 : decide (c < 0) = false := decide_eq_false h1
    have d2 : decide (2097152 < c) = false := decide_eq_false h2
    have d3 : decide (n < 0) = false := decide_eq_false h3
    have d4 : decide (20 < n) = true := decide_eq_true h4
    go_wp2_with fail
    go_ret
    exact ⟨rfl, HB.out⟩
  obtain ⟨m, rfl⟩ : ∃ m : Nat, c = (m : Int) := ⟨c.toNat, by omega⟩
  obtain ⟨k, rfl⟩ : ∃ k : Nat, n = (k : Int) := ⟨n.toNat, by omega⟩
  have hm : m ≤ 2097152 := by omega
  have hk : k ≤ 20 := by omega
  have d1 : decide ((m : Int) < 0) = false := decide_eq_false h1
  have d2 : decide (2097152 < (m : Int)) = false := decide_eq_false h2
  have d3 : decide ((k : Int) < 0) = false := decide_eq_false h3
  have d4 : decide (20 < (k : Int)) = false := decide_eq_false h4
  clear h1 h2 h3 h4
  by_cases ha3 : a.size ≤ 200
  rotate_left
  · go_wp2_with fail
    go_ret
    exact ⟨rfl, HB.out⟩
  by_cases hb3 : b.size ≤ 200
  rotate_left
  · go_wp2_with fail
    go_ret
    exact ⟨rfl, HB.out⟩
  go_wp2_with fail
  go_loopw [10] (fun i wr => ∃ k : Nat, k ≤ a.size ∧ i = .int .i64 k ∧ Hid (∀ x ∈ a.data.toList.take k, x ≠ (38 : UInt8)) ∧ Below w1.heap.size w1 wr) (fun i _ => a.size - (intOf i).toNat)
  case atStart => exact ⟨0, Nat.zero_le _, rfl, hid (by simp), Below.refl _ _⟩
  case round =>
    obtain ⟨i, hi, rfl, hno, hbw⟩ := hrel
    have HBW := hid hbw
    have HB := hid (HB.out.trans (hbw.mono HB.out.size))
    clear hbw
    by_cases hlt : i < a.size
    · have hkl : i < a.data.toList.length := by simpa using hlt
      have hby : a[i] = a.data.toList[i] := by simp; rfl
      have h38 := byte_eq a[i] 38 (by decide)
      cases hc : (((a[i]).toNat : Int) == 38)
      · have HNX : Hid (∀ x ∈ a.data.toList.take (i + 1), x ≠ (38 : UInt8)) := hid (by
          intro x hx
          rw [List.take_succ_eq_append_getElem hkl] at hx
          rcases List.mem_append.1 hx with hx | hx
          · exact hno.out x hx
          · simp only [List.mem_singleton] at hx
            rw [hx, ← hby]
            intro e
            have h' : (((a[i]).toNat : Int) == 38) = (a[i] == 38) := h38
            rw [hc] at h'
            rw [e] at h'
            revert h'
            decide)
        clear h38 hby
        go_wp2_with fail
        go_roundw
        case rel => exact ⟨i + 1, by omega, by go_num, HNX, HBW.out⟩
        case measure => simp [intOf]; omega
      · clear h38 hby
        go_wp2_with fail
        go_ret
        exact ⟨rfl, HB.out⟩
    · obtain rfl : i = a.size := by omega
      have hna : ∀ x ∈ a.data.toList, x ≠ (38 : UInt8) := by
        have := hno.out
        rwa [List.take_of_length_le (by simp)] at this
      have hN10 := numeral_len (base := 10) (.inl rfl) m k hm hk
      have hN16 := numeral_len (base := 16) (.inr rfl) m k hm hk
      have e1 : decE (a ++ (⟨#[38, 35]⟩ ++ strB (numeralL 10 m k)) ++ ⟨#[59]⟩ ++ b : ByteArray).data.toList = a.data.toList ++ (numberL m ++ decE b.data.toList) := by
        rw [← decE_ten_s m k b.data.toList, ← decE_pre _ _ hna]
        congr 1
        simp [strB]
      have e2 : decE (a ++ (⟨#[38, 35, 120]⟩ ++ strB (numeralL 16 m k)) ++ ⟨#[59]⟩ ++ b : ByteArray).data.toList = a.data.toList ++ (numberL m ++ decE b.data.toList) := by
        rw [← decE_six_s m k b.data.toList, ← decE_pre _ _ hna]
        congr 1
        simp [strB]
      have e3 : digRun 10 b.data.toList = 0 → b.data.toList.head? ≠ some 59 → decE (a ++ (⟨#[38, 35]⟩ ++ strB (numeralL 10 m k)) ++ b : ByteArray).data.toList = a.data.toList ++ (numberL m ++ decE b.data.toList) := fun q1 q2 => by
        rw [← decE_ten m k b.data.toList q1 q2, ← decE_pre _ _ hna]
        congr 1
        simp [strB]
      have e4 : digRun 16 b.data.toList = 0 → b.data.toList.head? ≠ some 59 → decE (a ++ (⟨#[38, 35, 120]⟩ ++ strB (numeralL 16 m k)) ++ b : ByteArray).data.toList = a.data.toList ++ (numberL m ++ decE b.data.toList) := fun q1 q2 => by
        rw [← decE_six m k b.data.toList q1 q2, ← decE_pre _ _ hna]
        congr 1
        simp [strB]
      have hxz := decE_size b
      have hvz := number_le (m : Int)
      have hnum := fun w => number_calls (m : Int) w (by omega) (by omega)
      have hfin : strB (a.data.toList ++ (numberL m ++ decE b.data.toList)) = a ++ strB (numberL m) ++ strB (decE b.data.toList) := by
        rw [strB_app, strB_app, strB_of, ByteArray.append_assoc]
      have D0 := hid (fun w => decode_of b _ rfl (by omega) w)
      have HN10 := hid (fun w => numeral_10 m k w hm hk)
      have HN16 := hid (fun w => numeral_16 m k w hm hk)
      have z1 : (strB (numeralL 10 m k)).size ≤ 40 := by rw [strB_size]; exact hN10
      have z2 : (strB (numeralL 16 m k)).size ≤ 40 := by rw [strB_size]; exact hN16
      have z3 : (strB (numberL m)).size ≤ 4 := by rw [strB_size]; exact hvz
      generalize strB (numeralL 10 m k) = n10 at *
      generalize strB (numeralL 16 m k) = n16 at *
      have z4 : (⟨#[38, 35]⟩ : ByteArray).size = 2 := rfl
      have z5 : (⟨#[38, 35, 120]⟩ : ByteArray).size = 3 := rfl
      have z6 : (⟨#[59]⟩ : ByteArray).size = 1 := rfl
      have D1 := hid (fun w => decode_of (a ++ (⟨#[38, 35]⟩ ++ n10) ++ ⟨#[59]⟩ ++ b) _ (by rw [e1, hfin]) (by simp [z4, z6]; omega) w)
      have D2 := hid (fun w => decode_of (a ++ (⟨#[38, 35, 120]⟩ ++ n16) ++ ⟨#[59]⟩ ++ b) _ (by rw [e2, hfin]) (by simp [z5, z6]; omega) w)
      have D3 := hid (fun (q1 : digRun 10 b.data.toList = 0) (q2 : b.data.toList.head? ≠ some 59) w => decode_of (a ++ (⟨#[38, 35]⟩ ++ n10) ++ b) _ (by rw [e3 q1 q2, hfin]) (by simp [z4]; omega) w)
      have D4 := hid (fun (q1 : digRun 16 b.data.toList = 0) (q2 : b.data.toList.head? ≠ some 59) w => decode_of (a ++ (⟨#[38, 35, 120]⟩ ++ n16) ++ b) _ (by rw [e4 q1 q2, hfin]) (by simp [z5]; omega) w)
      have HNUM := hid hnum
      generalize strB (numberL m) = v at *
      generalize strB (decE b.data.toList) = x at *
      clear e1 e2 e3 e4 hfin hnum hna hno hN10 hN16 hvz
      go_wp2_with fail
      refine (HN10.out _).mono ?_
      rintro e w10 ⟨rfl, hb10⟩
      have HB := hid (HB.out.trans (hb10.mono HB.out.size))
      clear hb10
      go_wp2_with fail
      refine (HN16.out _).mono ?_
      rintro e w11 ⟨rfl, hb11⟩
      have HB := hid (HB.out.trans (hb11.mono HB.out.size))
      clear hb11
      go_wp2_with fail
      refine (HNUM.out _).mono ?_
      rintro e w12 ⟨rfl, hb12⟩
      have HB := hid (HB.out.trans (hb12.mono HB.out.size))
      clear hb12
      go_wp2_with fail
      refine (D1.out _).mono ?_
      rintro e w13 ⟨rfl, hb13⟩
      have HB := hid (HB.out.trans (hb13.mono HB.out.size))
      clear hb13
      go_wp2_with fail
      refine (D0.out _).mono ?_
      rintro e w14 ⟨rfl, hb14⟩
      have HB := hid (HB.out.trans (hb14.mono HB.out.size))
      clear hb14
      go_wp2_with fail
      refine (D2.out _).mono ?_
      rintro e w15 ⟨rfl, hb15⟩
      have HB := hid (HB.out.trans (hb15.mono HB.out.size))
      clear hb15
      go_wp2_with fail
      refine (D0.out _).mono ?_
      rintro e w16 ⟨rfl, hb16⟩
      have HB := hid (HB.out.trans (hb16.mono HB.out.size))
      clear hb16
      by_cases hb0 : b.size = 0
      · have hbe : b.toList.isEmpty = true := by rw [ByteArray.toList_eq]; have : b.data.toList = [] := List.length_eq_zero_iff.1 (by simpa using hb0); rw [this]; rfl
        have q0 : b.data.toList = [] := List.length_eq_zero_iff.1 (by simpa using hb0)
        have D3' := hid (D3.out (by rw [q0]; rfl) (by rw [q0]; simp))
        have D4' := hid (D4.out (by rw [q0]; rfl) (by rw [q0]; simp))
        have HB0 := hid hb0
        clear hb0 q0
        go_wp2_with fail
        refine (D3'.out _).mono ?_
        rintro e w17 ⟨rfl, hb17⟩
        have HB := hid (HB.out.trans (hb17.mono HB.out.size))
        clear hb17
        go_wp2_with fail
        refine (D0.out _).mono ?_
        rintro e w18 ⟨rfl, hb18⟩
        have HB := hid (HB.out.trans (hb18.mono HB.out.size))
        clear hb18
        go_wp2_with fail
        refine (D4'.out _).mono ?_
        rintro e w19 ⟨rfl, hb19⟩
        have HB := hid (HB.out.trans (hb19.mono HB.out.size))
        clear hb19
        go_wp2_with fail
        refine (D0.out _).mono ?_
        rintro e w20 ⟨rfl, hb20⟩
        have HB := hid (HB.out.trans (hb20.mono HB.out.size))
        clear hb20
        go_wp2_with fail
        go_ret
        exact ⟨rfl, HB.out⟩
      · have hbe : b.toList.isEmpty = false := by rw [ByteArray.toList_eq]; cases hq : b.data.toList with | nil => exact absurd (by have := congrArg List.length hq; simpa using this) hb0 | cons p q => rfl
        have hb1 : 0 < b.size := by omega
        have hbl : 0 < b.data.toList.length := by simpa using hb1
        have hby : b[0] = b.data.toList[0] := by simp; rfl
        have hcons : b.data.toList = b[0] :: b.data.toList.drop 1 := by rw [hby]; exact (List.drop_eq_getElem_cons hbl)
        have HCONS := hid hcons
        have h59 := byte_59 b[0]
        have HDIG := hid (fun w => digit_calls b[0] 16 (by omega) (by omega) w)
        by_cases hd : digit b[0] 16 < 0
        · have hdd : decide (digit b[0] 16 < 0) = true := decide_eq_true hd
          cases hs : (((b[0]).toNat : Int) == 59)
          · have hsn : (((b[0]).toNat : Int) != 59) = true := by simp [bne, hs]
            have hne59 : b[0] ≠ 59 := by
              rw [hs] at h59
              intro e
              rw [e] at h59
              revert h59
              decide
            have q1 : digRun 16 b.data.toList = 0 := by rw [HCONS.out, digRun, if_pos hd]
            have q2 : digRun 10 b.data.toList = 0 := by rw [HCONS.out, digRun, if_pos (digit_ten hd)]
            have q3 : b.data.toList.head? ≠ some 59 := by rw [HCONS.out]; simpa using hne59
            have D3' := hid (D3.out q2 q3)
            have D4' := hid (D4.out q1 q3)
            clear q1 q2 q3 hne59 h59 hcons hby hb0 hd
            generalize digit b[0] 16 = dg at *
            go_wp2_with fail
            refine (HDIG.out _).mono ?_
            rintro e w' ⟨rfl, rfl⟩
            go_wp2_with fail
            refine (D3'.out _).mono ?_
            rintro e w21 ⟨rfl, hb21⟩
            have HB := hid (HB.out.trans (hb21.mono HB.out.size))
            clear hb21
            go_wp2_with fail
            refine (D0.out _).mono ?_
            rintro e w22 ⟨rfl, hb22⟩
            have HB := hid (HB.out.trans (hb22.mono HB.out.size))
            clear hb22
            go_wp2_with fail
            refine (D4'.out _).mono ?_
            rintro e w23 ⟨rfl, hb23⟩
            have HB := hid (HB.out.trans (hb23.mono HB.out.size))
            clear hb23
            go_wp2_with fail
            refine (D0.out _).mono ?_
            rintro e w24 ⟨rfl, hb24⟩
            have HB := hid (HB.out.trans (hb24.mono HB.out.size))
            clear hb24
            go_wp2_with fail
            go_ret
            exact ⟨rfl, HB.out⟩
          · have hsn : (((b[0]).toNat : Int) != 59) = false := by simp [bne, hs]
            clear h59 hcons hby hb0 hd
            generalize digit b[0] 16 = dg at *
            go_wp2_with fail
            refine (HDIG.out _).mono ?_
            rintro e w' ⟨rfl, rfl⟩
            go_wp2_with fail
            go_ret
            exact ⟨rfl, HB.out⟩
        · have hdd : decide (digit b[0] 16 < 0) = false := decide_eq_false hd
          clear h59 hcons hby hb0 hd
          generalize digit b[0] 16 = dg at *
          go_wp2_with fail
          refine (HDIG.out _).mono ?_
          rintro e w' ⟨rfl, rfl⟩
          go_wp2_with fail
          go_ret
          exact ⟨rfl, HB.out⟩
end Go.Proofs.Ytmcjljjagfpkkaa

