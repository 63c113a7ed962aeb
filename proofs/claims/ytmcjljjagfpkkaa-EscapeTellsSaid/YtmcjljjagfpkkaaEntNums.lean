/-
  Numbers that are written and read. Conditions: as each theorem states.
-/
import Derived.Test.YtmcjljjagfpkkaaEntLaws
set_option linter.all false
namespace Go.Proofs.Ytmcjljjagfpkkaa
open Go.RowKit
def digTab : List UInt8 := [48, 49, 50, 51, 52, 53, 54, 55, 56, 57, 97, 98, 99, 100, 101, 102]
def digC (d : Nat) : UInt8 := digTab.getD d 0
def digsL (base n : Nat) : List UInt8 := if h : n = 0 ∨ base < 2 then [] else digsL base (n / base) ++ [digC (n % base)]
termination_by n
decreasing_by exact Nat.div_lt_self (by omega) (by omega)
theorem digsL_zero (base : Nat) : digsL base 0 = [] := by rw [digsL]; simp
theorem digsL_pos {base n : Nat} (hb : 2 ≤ base) (hn : 0 < n) : digsL base n = digsL base (n / base) ++ [digC (n % base)] := by
  rw [digsL, dif_neg (by omega)]
def numerL (base n : Nat) : List UInt8 := if n = 0 then [48] else digsL base n
def numeralL (base n noughts : Nat) : List UInt8 := List.replicate noughts 48 ++ numerL base n
theorem digC_ten : ∀ d : Fin 10, digit (digC d.val) 10 = (d.val : Int) := by decide +kernel
theorem digC_six : ∀ d : Fin 16, digit (digC d.val) 16 = (d.val : Int) := by decide +kernel
theorem digC_is {base d : Nat} (hb : base = 10 ∨ base = 16) (hd : d < base) : digit (digC d) base = (d : Int) := by
  rcases hb with rfl | rfl
  · exact digC_ten ⟨d, hd⟩
  · exact digC_six ⟨d, hd⟩
theorem digN_is {base : Nat} (hb : base = 10 ∨ base = 16) : digit 48 base = 0 := digC_is (d := 0) hb (by omega)
def valL (base : Int) (n : Int) (l : List UInt8) : Int := l.foldl (fun n c => n * base + digit c base) n
def okD (base : Int) (l : List UInt8) : Prop := ∀ c ∈ l, 0 ≤ digit c base
theorem valL_app (base n : Int) (a b : List UInt8) : valL base n (a ++ b) = valL base (valL base n a) b := by unfold valL; rw [List.foldl_append]
theorem digsL_ok {base : Nat} (hb : base = 10 ∨ base = 16) : ∀ m n : Nat, n ≤ m → okD base (digsL base n) ∧ valL base 0 (digsL base n) = (n : Int) := by
  intro m
  induction m with
  | zero =>
    intro n hn
    have : n = 0 := by omega
    subst this
    rw [digsL_zero]
    exact ⟨fun c hc => by simp at hc, rfl⟩
  | succ m ih =>
    intro n hn
    by_cases h0 : n = 0
    · subst h0
      rw [digsL_zero]
      exact ⟨fun c hc => by simp at hc, rfl⟩
    · have hlt : n / base < n := Nat.div_lt_self (by omega) (by omega)
      obtain ⟨h1, h2⟩ := ih (n / base) (by omega)
      have hm : n % base < base := Nat.mod_lt _ (by omega)
      rw [digsL_pos (by omega) (by omega)]
      refine ⟨fun c hc => ?_, ?_⟩
      · rcases List.mem_append.1 hc with hc | hc
        · exact h1 c hc
        · simp at hc
          subst hc
          rw [digC_is hb hm]
          omega
      · rw [valL_app, h2]
        show ((n / base : Nat) : Int) * base + digit (digC (n % base)) base = n
        rw [digC_is hb hm]
        have := Nat.div_add_mod n base
        rw [Nat.mul_comm] at this
        rw [← Int.natCast_mul, ← Int.natCast_add, this]
theorem numeral_ok {base : Nat} (hb : base = 10 ∨ base = 16) (n k : Nat) : okD base (numeralL base n k) ∧ valL base 0 (numeralL base n k) = (n : Int) ∧ numeralL base n k ≠ [] := by
  have hn : okD base (numerL base n) ∧ valL base 0 (numerL base n) = (n : Int) ∧ numerL base n ≠ [] := by
    unfold numerL
    by_cases h0 : n = 0
    · rw [if_pos h0]
      refine ⟨fun c hc => ?_, ?_, by simp⟩
      · simp at hc
        subst hc
        rw [digN_is hb]
        omega
      · show 0 * (base : Int) + digit 48 base = _
        rw [digN_is hb, h0]
        omega
    · rw [if_neg h0]
      obtain ⟨h1, h2⟩ := digsL_ok hb n n (Nat.le_refl _)
      refine ⟨h1, h2, ?_⟩
      rw [digsL_pos (by omega) (by omega)]
      simp
  have hz : ∀ k : Nat, valL base 0 (List.replicate k 48) = 0 := by
    intro k
    induction k with
    | zero => rfl
    | succ k ih =>
      rw [List.replicate_succ', valL_app, ih]
      show 0 * (base : Int) + digit 48 base = 0
      rw [digN_is hb]
      omega
  unfold numeralL
  refine ⟨fun c hc => ?_, ?_, ?_⟩
  · rcases List.mem_append.1 hc with hc | hc
    · have := List.eq_of_mem_replicate hc
      subst this
      rw [digN_is hb]
      omega
    · exact hn.1 c hc
  · rw [valL_app, hz]
    exact hn.2.1
  · intro e
    have := List.append_eq_nil_iff.1 e
    exact hn.2.2 this.2
theorem worthL_min {base : Int} (hb : 1 ≤ base) : ∀ (l : List UInt8) (n m : Int), 0 ≤ n → m = min n 1114112 → okD base l → l.foldl (worthStep base) m = min (valL base n l) 1114112 := by
  intro l
  induction l with
  | nil => intro n m _ h _; exact h
  | cons c r ih =>
    intro n m hn hm hd
    have hc := hd c (by simp)
    have hnb := Int.mul_nonneg hn (show 0 ≤ base by omega)
    refine ih (n * base + digit c base) _ (by omega) ?_ fun x hx => hd x (by simp [hx])
    unfold worthStep
    by_cases h : n ≤ 1114112
    · rw [hm, Int.min_eq_left h]
    · have hm2 : m = 1114112 := by omega
      rw [hm2]
      have h1 : (1114112 : Int) * 1 ≤ 1114112 * base := Int.mul_le_mul_of_nonneg_left hb (by omega)
      have h2 : (1114112 : Int) * base ≤ n * base := Int.mul_le_mul_of_nonneg_right (by omega) (by omega)
      omega
theorem digRun_app {base : Int} : ∀ (l b : List UInt8), okD base l → digRun base (l ++ b) = l.length + digRun base b
  | [], b, _ => by simp
  | c :: r, b, h => by
    have hc := h c (by simp)
    rw [List.cons_append, digRun, if_neg (by omega), digRun_app r b fun x hx => h x (by simp [hx])]
    simp
    omega
theorem encode_bad {n : Int} (h : Utf8.valid n = false) : Utf8.encode n = ⟨#[239, 191, 189]⟩ := by
  unfold Utf8.encode
  rw [h]
  simp only [Bool.false_eq_true, if_false]
  decide +kernel
theorem valid_no {n : Int} (h : n < 0 ∨ (55296 ≤ n ∧ n ≤ 57343) ∨ 1114111 < n) : Utf8.valid n = false := by
  unfold Utf8.valid
  have e : ¬ ((0 ≤ n ∧ n < 55296) ∨ (57344 ≤ n ∧ n ≤ 1114111)) := by omega
  simpa using e
theorem number_big : ∀ n : Int, 1114112 ≤ n → numberL n = numberL 1114112 := by
  intro n hn
  unfold numberL shownL
  rw [if_neg (by omega), if_neg (by omega), if_neg (by omega), if_neg (by omega)]
  unfold sigL
  rw [encode_bad (valid_no (.inr (.inr (by omega)))), encode_bad (n := 1114112) (by decide)]
theorem number_min (n : Int) : numberL (min n 1114112) = numberL n := by
  by_cases h : n ≤ 1114112
  · rw [Int.min_eq_left h]
  · rw [Int.min_eq_right (by omega), number_big n (by omega)]
/-- a number that is read: whatever noughts ahead, with a ; behind it, or without one if no digit follows -/
theorem numAt_numeral {base : Nat} (hb : base = 10 ∨ base = 16) (skip n k : Nat) (b : List UInt8) (h : digRun base b = 0) :
    numAt base skip (numeralL base n k ++ b) = some (numberL n, skip + (numeralL base n k).length + (if b.head? = some 59 then 1 else 0)) := by
  obtain ⟨h1, h2, h3⟩ := numeral_ok hb n k
  have hpos : (numeralL base n k).length ≠ 0 := fun e => h3 (List.length_eq_zero_iff.1 e)
  unfold numAt
  rw [digRun_app _ _ h1, h, Nat.add_zero, if_neg hpos, List.take_left]
  have hw : numberL (worthL base (numeralL base n k)) = numberL n := by
    unfold worthL
    rw [worthL_min (by omega) _ 0 0 (by omega) (by omega) h1, h2, number_min]
  have hg : (numeralL base n k ++ b)[(numeralL base n k).length]? = b.head? := by
    rw [List.getElem?_append_right (Nat.le_refl _), Nat.sub_self, List.head?_eq_getElem?]
  rw [hw, hg]
theorem isX_dig : ∀ i : Fin 256, (isX (UInt8.ofNat i.val) && decide (0 ≤ digit (UInt8.ofNat i.val) 10)) = false := by decide +kernel
theorem isX_no {c : UInt8} (h : 0 ≤ digit c 10) : isX c = false := by
  have := isX_dig ⟨c.toNat, c.toNat_lt⟩
  simp only [UInt8.ofNat_toNat] at this
  rw [decide_eq_true h, Bool.and_true] at this
  exact this
theorem refE_ten (n k : Nat) (b : List UInt8) (h : digRun 10 b = 0) :
    refE (35 :: (numeralL 10 n k ++ b)) = some (numberL n, 1 + (numeralL 10 n k).length + (if b.head? = some 59 then 1 else 0)) := by
  have hn := numAt_numeral (base := 10) (.inl rfl) 1 n k b h
  obtain ⟨h1, _, h3⟩ := numeral_ok (base := 10) (.inl rfl) n k
  show numE (numeralL 10 n k ++ b) = _
  rw [← hn]
  cases hl : numeralL 10 n k with
  | nil => exact absurd hl h3
  | cons c r =>
    have hc := h1 c (by rw [hl]; simp)
    rw [List.cons_append]
    show (if isX c = true then _ else _) = _
    rw [if_neg (by rw [isX_no hc]; decide)]
    rfl
theorem refE_six (n k : Nat) (b : List UInt8) (h : digRun 16 b = 0) :
    refE (35 :: 120 :: (numeralL 16 n k ++ b)) = some (numberL n, 2 + (numeralL 16 n k).length + (if b.head? = some 59 then 1 else 0)) := by
  have hn := numAt_numeral (base := 16) (.inr rfl) 2 n k b h
  rw [← hn]
  rfl
theorem decE_ten_semi (n k : Nat) (b : List UInt8) : decE (38 :: 35 :: (numeralL 10 n k ++ 59 :: b)) = numberL n ++ decE b := by
  rw [decE_some (refE_ten n k (59 :: b) (by decide +kernel : digRun 10 [59] = 0))]
  congr 2
  rw [show (35 :: (numeralL 10 n k ++ 59 :: b)) = (35 :: (numeralL 10 n k ++ [59])) ++ b by simp]
  exact List.drop_left' (by simp; omega)
end Go.Proofs.Ytmcjljjagfpkkaa
