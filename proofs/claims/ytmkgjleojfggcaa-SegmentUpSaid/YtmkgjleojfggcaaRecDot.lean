/-
  The contracts of Dot and Dots, the program's and the document's. Conditions: the text has at most 90000 bytes.
-/
import Derived.Test.YtmkgjleojfggcaaShelf
import Derived.Test.YtmkgjleojfggcaaDigit
import Derived.Test.YtmkgjleojfggcaaLower
set_option linter.all false
namespace Go.Proofs.Ytmkgjleojfggcaa
open Go.RowKit

/-- What stands behind the point at the beginning. -/
def bp : List UInt8 → List UInt8 × Bool
  | [] => ([], false)
  | a :: r => if a = 46 then (r, true) else match r with
    | b :: c :: r => if lowL [a, b, c] = [37, 50, 101] then (r, true) else ([], false)
    | _ => ([], false)

theorem ext_list (s : ByteArray) (i j : Nat) : (s.extract i j).data.toList = (s.data.toList.drop i).take (j - i) := by
  simp [ByteArray.data_extract, Array.toList_extract, List.extract]
theorem ext_drop (s : ByteArray) (i : Nat) : (s.extract i s.size).data.toList = s.data.toList.drop i := by
  rw [ext_list, List.take_of_length_le]
  simp
theorem bpA {l : List UInt8} (h : Lib.hasPrefix l [46] = true) : bp l = (l.drop 1, true) := by
  cases l with
  | nil => simp [Lib.hasPrefix] at h
  | cons a r =>
    have : a = 46 := by simp [Lib.hasPrefix] at h; exact h.symm
    simp [bp, this]
theorem bpB {l : List UInt8} (h : Lib.hasPrefix l [46] = false) (h3 : 3 ≤ l.length) (hl : lowL (l.take 3) = [37, 50, 101]) : bp l = (l.drop 3, true) := by
  match l, h3 with
  | a :: b :: c :: r, _ =>
    have : ¬ a = 46 := by intro e; subst e; simp [Lib.hasPrefix, List.isPrefixOf] at h
    have hl' : lowL [a, b, c] = [37, 50, 101] := hl
    simp [bp, this, hl']
theorem bpC {l : List UInt8} (h : Lib.hasPrefix l [46] = false) (h3 : 3 ≤ l.length) (hl : ¬ lowL (l.take 3) = [37, 50, 101]) : bp l = ([], false) := by
  match l, h3 with
  | a :: b :: c :: r, _ =>
    have : ¬ a = 46 := by intro e; subst e; simp [Lib.hasPrefix, List.isPrefixOf] at h
    have hl' : ¬ lowL [a, b, c] = [37, 50, 101] := hl
    simp [bp, this, hl']
theorem bpD {l : List UInt8} (h : Lib.hasPrefix l [46] = false) (h3 : ¬ 3 ≤ l.length) : bp l = ([], false) := by
  match l, h3 with
  | [], _ => rfl
  | [a], _ =>
    have : ¬ a = 46 := by intro e; subst e; simp [Lib.hasPrefix, List.isPrefixOf] at h
    simp [bp, this]
  | [a, b], _ =>
    have : ¬ a = 46 := by intro e; subst e; simp [Lib.hasPrefix, List.isPrefixOf] at h
    simp [bp, this]
  | _ :: _ :: _ :: _, h => exact absurd (by simp) h

set_option maxHeartbeats 1000000 in
theorem behind_calls (s : ByteArray) (w : World) (hs : s.size ≤ 90000) :
    Calls Try.prog 59 #[.string s] w fun e w' => ∃ r : ByteArray, e = .returned (.tuple #[.string r, .bool (bp s.data.toList).2]) ∧ r.data.toList = (bp s.data.toList).1 ∧ Below w.heap.size w w' := by
  have hlen : Hid (s.data.toList.length = s.size) := hid (by simp)
  cases hp : Lib.hasPrefix s.data.toList (⟨#[46]⟩ : ByteArray).data.toList with
  | true =>
    have h1 : 1 ≤ s.size := by
      have hp' : Lib.hasPrefix s.data.toList [46] = true := hp
      rw [← hlen.out]
      cases hl : s.data.toList with
      | nil => rw [hl] at hp'; simp [Lib.hasPrefix] at hp'
      | cons a r => simp
    have hbp := bpA hp
    rw [hbp]
    have HB := hid hbp
    clear hbp
    go_enter Try.func59, Try.ntmps59
    go_wp2_with fail
    refine (Try.strings_HasPrefix _ _ _).mono ?_
    rintro e w2 ⟨rfl, rfl⟩
    go_wp2_with fail
    go_ret2
    exact ⟨_, rfl, ext_drop s 1, Below.refl _ _⟩
  | false =>
    by_cases h3 : 3 ≤ s.size
    · have hx3 : (s.extract 0 3).data.toList = s.data.toList.take 3 := by rw [ext_list]; simp
      have hz3 : (s.extract 0 3).size ≤ 100000 := by simp; omega
      by_cases hl : lowL (s.data.toList.take 3) = [37, 50, 101]
      · have hq : (lowL (List.take 3 s.data.toList) == [37, 50, 101]) = true := by simp [hl]
        have hbp := bpB hp (by rw [hlen.out]; exact h3) hl
        rw [hbp]
        clear hbp hl hx3
        go_enter Try.func59, Try.ntmps59
        go_wp2_with fail
        refine (Try.strings_HasPrefix _ _ _).mono ?_
        rintro e w2 ⟨rfl, rfl⟩
        go_wp2_with fail
        refine (lower_calls _ _ hz3).mono ?_
        rintro e w3 ⟨rfl, hb⟩
        go_wp2_with fail
        go_ret2
        exact ⟨_, rfl, ext_drop s 3, hb⟩
      · have hq : (lowL (List.take 3 s.data.toList) == [37, 50, 101]) = false := by simpa using hl
        have hbp := bpC hp (by rw [hlen.out]; exact h3) hl
        rw [hbp]
        clear hbp hl hx3
        go_enter Try.func59, Try.ntmps59
        go_wp2_with fail
        refine (Try.strings_HasPrefix _ _ _).mono ?_
        rintro e w2 ⟨rfl, rfl⟩
        go_wp2_with fail
        refine (lower_calls _ _ hz3).mono ?_
        rintro e w3 ⟨rfl, hb⟩
        go_wp2_with fail
        go_ret2
        exact ⟨_, rfl, rfl, hb⟩
    · have hbp := bpD hp (by rw [hlen.out]; exact h3)
      rw [hbp]
      clear hbp
      go_enter Try.func59, Try.ntmps59
      go_wp2_with fail
      refine (Try.strings_HasPrefix _ _ _).mono ?_
      rintro e w2 ⟨rfl, rfl⟩
      go_wp2_with fail
      go_ret2
      exact ⟨_, rfl, rfl, Below.refl _ _⟩

/-- P12.3. -/
def dotL (l : List UInt8) : Bool := (bp l).2 && (bp l).1 == []
def dotsL (l : List UInt8) : Bool := (bp l).2 && dotL (bp l).1

theorem bp_short : ∀ l : List UInt8, (bp l).1.length ≤ l.length
  | [] => by simp [bp]
  | [a] => by by_cases h : a = 46 <;> simp [bp, h]
  | [a, b] => by by_cases h : a = 46 <;> simp [bp, h]
  | a :: b :: c :: r => by
    by_cases h : a = 46
    · simp [bp, h]
    · by_cases h2 : lowL [a, b, c] = [37, 50, 101]
      · simp [bp, h, h2]; omega
      · simp [bp, h, h2]

theorem nil_str (r : ByteArray) {l : List UInt8} (h : r.data.toList = l) : (r.toList == []) = (l == []) := by rw [ByteArray.toList_eq, h]

theorem dot_calls (s : ByteArray) (w : World) (hs : s.size ≤ 90000) :
    Calls Try.prog 31 #[.string s] w fun e w' => e = .returned (.bool (dotL s.data.toList)) ∧ Below w.heap.size w w' := by
  have hd : Hid (dotL s.data.toList = ((bp s.data.toList).2 && (bp s.data.toList).1 == [])) := hid rfl
  go_enter Try.func31, Try.ntmps31
  go_wp2_with fail
  refine (behind_calls s _ hs).mono ?_
  rintro e w2 ⟨r, rfl, hr, hb⟩
  have hn := hid (nil_str r hr)
  clear hr
  generalize (bp s.data.toList).2 = x at *
  generalize ((bp s.data.toList).1 == []) = y at *
  go_wp2_with fail
  all_goals go_ret
  all_goals refine ⟨ret_bool ?_, hb⟩
  all_goals (rw [hd.out, ← hn.out]; simp_all)

theorem dots_calls (s : ByteArray) (w : World) (hs : s.size ≤ 90000) :
    Calls Try.prog 33 #[.string s] w fun e w' => e = .returned (.bool (dotsL s.data.toList)) ∧ Below w.heap.size w w' := by
  have hd : Hid (dotsL s.data.toList = ((bp s.data.toList).2 && dotL (bp s.data.toList).1)) := hid rfl
  have hsh := bp_short s.data.toList
  rw [show s.data.toList.length = s.size by simp] at hsh
  go_enter Try.func33, Try.ntmps33
  go_wp2_with fail
  refine (behind_calls s _ hs).mono ?_
  rintro e w2 ⟨r, rfl, hr, hb⟩
  have hrs : r.size ≤ 90000 := by
    rw [← hr] at hsh
    rw [show r.data.toList.length = r.size by simp] at hsh
    omega
  have HD := hid (dot_calls r w2 hrs)
  rw [hr] at HD
  clear hr hsh
  generalize (bp s.data.toList).2 = x at *
  generalize dotL (bp s.data.toList).1 = y at *
  cases x with
  | true =>
    go_wp2_with fail
    refine HD.out.mono ?_
    rintro e w3 ⟨rfl, hb3⟩
    go_wp2_with fail
    go_ret
    exact ⟨ret_bool (by rw [hd.out]; simp), hb.trans (hb3.mono hb.size)⟩
  | false =>
    go_wp2_with fail
    go_ret
    exact ⟨ret_bool (by rw [hd.out]; rfl), hb⟩

/-- The three texts that are a point. -/
def isDot (l : List UInt8) : Bool := l == [46] || (l == [37, 50, 101] || l == [37, 50, 69])

theorem low_fin : ∀ i : Fin 256, ((lowB (UInt8.ofNat i.val) == 37) = (UInt8.ofNat i.val == 37)) ∧ ((lowB (UInt8.ofNat i.val) == 50) = (UInt8.ofNat i.val == 50)) ∧ ((lowB (UInt8.ofNat i.val) == 101) = (UInt8.ofNat i.val == 101 || UInt8.ofNat i.val == 69)) := by decide +kernel
theorem low_eqs (c : UInt8) : ((lowB c == 37) = (c == 37)) ∧ ((lowB c == 50) = (c == 50)) ∧ ((lowB c == 101) = (c == 101 || c == 69)) := by
  have h := low_fin ⟨c.toNat, c.toNat_lt⟩
  rwa [show UInt8.ofNat (⟨c.toNat, c.toNat_lt⟩ : Fin 256).val = c by simp] at h
theorem low3 (a b c : UInt8) : (lowL [a, b, c] = [37, 50, 101]) ↔ (a = 37 ∧ b = 50 ∧ (c = 101 ∨ c = 69)) := by
  have h1 := (low_eqs a).1
  have h2 := (low_eqs b).2.1
  have h3 := (low_eqs c).2.2
  rw [Bool.eq_iff_iff] at h1 h2 h3
  simp only [beq_iff_eq, Bool.or_eq_true] at h1 h2 h3
  show [lowB a, lowB b, lowB c] = _ ↔ _
  simp only [List.cons.injEq, and_true, h1, h2, h3]

theorem bp_take {l : List UInt8} {i : Nat} (h : isDot (l.take i) = true) : bp l = (l.drop i, true) := by
  unfold isDot at h
  simp only [Bool.or_eq_true, beq_iff_eq] at h
  have hl : l = l.take i ++ l.drop i := (List.take_append_drop i l).symm
  rcases h with h | h | h
  · rw [h] at hl
    rw [hl]
    have hi : i = 1 ∨ (l.drop i = []) := by
      by_cases hlen : i ≤ l.length
      · left
        have := congrArg List.length h
        simp at this
        omega
      · right
        exact List.drop_eq_nil_of_le (by omega)
    simp only [List.cons_append, List.nil_append, bp, if_true]
    rcases hi with rfl | hi
    · simp
    · rw [hi] at hl ⊢
      have : 1 ≤ i := by
        have := congrArg List.length h
        simp at this
        omega
      simp
      omega
  all_goals
    rw [h] at hl
    have hi : i = 3 ∨ (l.drop i = [] ∧ 3 ≤ i) := by
      have := congrArg List.length h
      simp at this
      by_cases hlen : i ≤ l.length
      · left; omega
      · right
        exact ⟨List.drop_eq_nil_of_le (by omega), by omega⟩
    rw [hl]
    simp only [List.cons_append, List.nil_append, bp, low3]
    rcases hi with rfl | ⟨hi, h3⟩
    · simp
    · rw [hi] at hl ⊢
      simp
      omega
theorem bp_ex {l : List UInt8} (h : (bp l).2 = true) : ∃ i, 1 ≤ i ∧ i ≤ l.length ∧ isDot (l.take i) = true ∧ bp l = (l.drop i, true) := by
  match l with
  | [] => simp [bp] at h
  | [a] =>
    by_cases ha : a = 46
    · exact ⟨1, by omega, by simp, by simp [isDot, ha], by simp [bp, ha]⟩
    · simp [bp, ha] at h
  | [a, b] =>
    by_cases ha : a = 46
    · exact ⟨1, by omega, by simp, by simp [isDot, ha], by simp [bp, ha]⟩
    · simp [bp, ha] at h
  | a :: b :: c :: r =>
    by_cases ha : a = 46
    · exact ⟨1, by omega, by simp, by simp [isDot, ha], by simp [bp, ha]⟩
    · by_cases h2 : lowL [a, b, c] = [37, 50, 101]
      · refine ⟨3, by omega, by simp, ?_, by simp [bp, ha, h2]⟩
        rw [low3] at h2
        obtain ⟨rfl, rfl, rfl | rfl⟩ := h2 <;> simp [isDot]
      · simp [bp, ha, h2] at h
theorem dotL_eq (l : List UInt8) : dotL l = isDot l := by
  rw [Bool.eq_iff_iff]
  constructor
  · intro h
    unfold dotL at h
    simp only [Bool.and_eq_true, beq_iff_eq] at h
    obtain ⟨i, h1, h2, h3, h4⟩ := bp_ex h.1
    rw [h4] at h
    have := h.2
    simp only [List.drop_eq_nil_iff] at this
    rw [List.take_of_length_le this] at h3
    exact h3
  · intro h
    have h2 := bp_take (l := l) (i := l.length) (by rw [List.take_length]; exact h)
    unfold dotL
    rw [h2]
    simp
theorem dotsL_iff (l : List UInt8) : dotsL l = true ↔ ∃ i, 1 ≤ i ∧ i < l.length ∧ isDot (l.take i) = true ∧ isDot (l.drop i) = true := by
  constructor
  · intro h
    unfold dotsL at h
    simp only [Bool.and_eq_true] at h
    obtain ⟨i, h1, h2, h3, h4⟩ := bp_ex h.1
    rw [h4] at h
    have h5 := h.2
    simp only [dotL_eq] at h5
    refine ⟨i, h1, ?_, h3, h5⟩
    by_cases hlt : i < l.length
    · exact hlt
    · rw [List.drop_eq_nil_of_le (by omega)] at h5
      simp [isDot] at h5
  · rintro ⟨i, h1, h2, h3, h4⟩
    unfold dotsL
    rw [bp_take h3]
    simp only [Bool.true_and, dotL_eq]
    exact h4

theorem refDot_calls (s : ByteArray) (w : World) :
    Calls Try.prog 32 #[.string s] w fun e w' => e = .returned (.bool (isDot s.data.toList)) ∧ w = w' := by
  have hd : Hid (isDot s.data.toList = (s.toList == [46] || (s.toList == [37, 50, 101] || s.toList == [37, 50, 69]))) := hid (by unfold isDot; rw [ByteArray.toList_eq])
  rw [hd.out]
  clear hd
  go_enter Try.func32, Try.ntmps32
  go_wp2
  all_goals go_ret
  all_goals refine ⟨ret_bool ?_, rfl⟩
  all_goals (simp_all [Bool.or_assoc])

set_option maxHeartbeats 1000000 in
theorem refDots_calls (s : ByteArray) (w : World) (hs : s.size ≤ 90000) :
    Calls Try.prog 34 #[.string s] w fun e w' => e = .returned (.bool (dotsL s.data.toList)) ∧ w = w' := by
  have hlen : Hid (s.data.toList.length = s.size) := hid (by simp)
  go_enter Try.func34, Try.ntmps34
  go_wp2_with fail
  go_loopw [3] (fun i wr => ∃ k : Nat, 1 ≤ k ∧ (k ≤ s.size ∨ k = 1) ∧ i = .int .i64 k ∧ Hid (∀ j, 1 ≤ j → j < k → ¬ (isDot (s.data.toList.take j) = true ∧ isDot (s.data.toList.drop j) = true)) ∧ wr = w) (fun i _ => s.size - (intOf i).toNat)
  case atStart => exact ⟨1, by omega, .inr rfl, rfl, hid (fun j h1 h2 => by omega), rfl⟩
  case round =>
    obtain ⟨k, hk1, hk2, rfl, hno, rfl⟩ := hrel
    by_cases hlt : k < s.size
    · have hx1 : Hid ((s.extract 0 k).data.toList = s.data.toList.take k) := hid (by rw [ext_list]; simp)
      have hx2 : Hid ((s.extract k s.size).data.toList = s.data.toList.drop k) := hid (ext_drop s k)
      cases hd1 : isDot (s.data.toList.take k) with
      | false =>
        have H1 := hid hd1
        clear hd1
        go_wp2_with fail
        refine (refDot_calls _ _).mono ?_
        rintro e w2 ⟨rfl, rfl⟩
        rw [hx1.out, H1.out]
        go_wp2_with fail
        go_roundw
        case rel =>
          refine ⟨k + 1, by omega, .inl (by omega), by go_num, hid (fun j h1 h2 => ?_), by trivial⟩
          by_cases hj : j = k
          · subst hj
            rw [H1.out]
            simp
          · exact hno.out j h1 (by omega)
        case measure => simp [intOf]; omega
      | true =>
        have H1 := hid hd1
        clear hd1
        cases hd2 : isDot (s.data.toList.drop k) with
        | false =>
          have H2 := hid hd2
          clear hd2
          go_wp2_with fail
          refine (refDot_calls _ _).mono ?_
          rintro e w2 ⟨rfl, rfl⟩
          rw [hx1.out, H1.out]
          go_wp2_with fail
          refine (refDot_calls _ _).mono ?_
          rintro e w2 ⟨rfl, rfl⟩
          rw [hx2.out, H2.out]
          go_wp2_with fail
          go_roundw
          case rel =>
            refine ⟨k + 1, by omega, .inl (by omega), by go_num, hid (fun j h1 h2 => ?_), by trivial⟩
            by_cases hj : j = k
            · subst hj
              rw [H2.out]
              simp
            · exact hno.out j h1 (by omega)
          case measure => simp [intOf]; omega
        | true =>
          have H2 := hid hd2
          clear hd2
          go_wp2_with fail
          refine (refDot_calls _ _).mono ?_
          rintro e w2 ⟨rfl, rfl⟩
          rw [hx1.out, H1.out]
          go_wp2_with fail
          refine (refDot_calls _ _).mono ?_
          rintro e w2 ⟨rfl, rfl⟩
          rw [hx2.out, H2.out]
          go_wp2_with fail
          go_ret
          exact ⟨ret_bool ((dotsL_iff _).2 ⟨k, hk1, by rw [hlen.out]; exact hlt, H1.out, H2.out⟩).symm, rfl⟩
    · go_wp2_with fail
      go_ret
      refine ⟨ret_bool ?_, rfl⟩
      cases hd : dotsL s.data.toList with
      | false => rfl
      | true =>
        exfalso
        obtain ⟨i, h1, h2, h3⟩ := (dotsL_iff _).1 hd
        rw [hlen.out] at h2
        exact hno.out i h1 (by omega) h3
end Go.Proofs.Ytmkgjleojfggcaa
