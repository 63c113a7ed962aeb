/-
  Floats of 64 bits: how two of them stand to each other, told by their bits' rungs. Conditions: none.
-/
import Ieee.Arith
set_option linter.all false
namespace Go.Proofs.Ytllgkmacjncelaa
def fNaN (x : Nat) : Bool := decide (2047 * 2 ^ 52 < x % 2 ^ 63)
def fNeg (x : Nat) : Bool := x / 2 ^ 63 % 2 == 1
/-- a sign's number -/
def sgI (s : Bool) (n : Nat) : Int := if s then -(n : Int) else (n : Int)
def rk (x : Nat) : Int := sgI (fNeg x) (x % 2 ^ 63)
/-- what stands at a rung, in units of the least place -/
def mg (r : Nat) : Nat := if r < 2 ^ 52 then r else (2 ^ 52 + r % 2 ^ 52) * 2 ^ (r / 2 ^ 52 - 1)

theorem mg_succ (r : Nat) : mg r < mg (r + 1) := by
  unfold mg
  by_cases h1 : r + 1 < 2 ^ 52
  · rw [if_pos (by omega), if_pos h1]; omega
  · by_cases h2 : r < 2 ^ 52
    · have h3 : r + 1 = 2 ^ 52 := by omega
      rw [if_pos h2, if_neg h1, h3]
      have : (2 ^ 52 + 2 ^ 52 % 2 ^ 52) * 2 ^ (2 ^ 52 / 2 ^ 52 - 1) = 2 ^ 52 := by decide +kernel
      omega
    · rw [if_neg h2, if_neg h1]
      by_cases h4 : (r + 1) % 2 ^ 52 = 0
      · have hq : (r + 1) / 2 ^ 52 - 1 = (r / 2 ^ 52 - 1) + 1 := by omega
        rw [hq, h4, Nat.pow_succ]
        have hp : 0 < 2 ^ (r / 2 ^ 52 - 1) := Nat.two_pow_pos _
        have hlt : 2 ^ 52 + r % 2 ^ 52 < 2 ^ 52 * 2 := by omega
        calc (2 ^ 52 + r % 2 ^ 52) * 2 ^ (r / 2 ^ 52 - 1) < (2 ^ 52 * 2) * 2 ^ (r / 2 ^ 52 - 1) := Nat.mul_lt_mul_of_pos_right hlt hp
          _ = (2 ^ 52 + 0) * (2 ^ (r / 2 ^ 52 - 1) * 2) := by rw [Nat.add_zero, Nat.mul_assoc, Nat.mul_comm 2]
      · have hq : (r + 1) / 2 ^ 52 = r / 2 ^ 52 := by omega
        have hm : (r + 1) % 2 ^ 52 = r % 2 ^ 52 + 1 := by omega
        rw [hq, hm]
        exact Nat.mul_lt_mul_of_pos_right (by omega) (Nat.two_pow_pos _)
theorem mg_lt {r s : Nat} (h : r < s) : mg r < mg s := by
  induction h with
  | refl => exact mg_succ r
  | step _ ih => exact Nat.lt_trans ih (mg_succ _)
theorem mg_lt_iff {r s : Nat} : mg r < mg s ↔ r < s := by
  refine ⟨fun h => ?_, mg_lt⟩
  rcases Nat.lt_trichotomy r s with h1 | h1 | h1
  · exact h1
  · subst h1; omega
  · have := mg_lt h1; omega
theorem mg_inj {r s : Nat} : mg r = mg s ↔ r = s := by
  refine ⟨fun h => ?_, fun h => h ▸ rfl⟩
  rcases Nat.lt_trichotomy r s with h1 | h1 | h1
  · have := mg_lt h1; omega
  · exact h1
  · have := mg_lt h1; omega
theorem mg_zero : mg 0 = 0 := by decide +kernel
theorem cmp_same {a b c d : Int} (h1 : a < b ↔ c < d) (h2 : a = b ↔ c = d) : compare a b = compare c d := by
  simp [compare, compareOfLessAndEq, h1, h2]
theorem sgI_cmp (s t : Bool) (a b : Nat) : compare (sgI s (mg a)) (sgI t (mg b)) = compare (sgI s a) (sgI t b) := by
  have h1 := @mg_lt_iff a b
  have h2 := @mg_inj a b
  have h3 := @mg_lt_iff b a
  have h4 := @mg_inj a 0
  have h5 := @mg_inj b 0
  rw [mg_zero] at h4 h5
  apply cmp_same <;> cases s <;> cases t <;> simp only [sgI] <;> simp <;> omega

theorem read_fin (x : Nat) (h : x % 2 ^ 63 < 2047 * 2 ^ 52) : ∃ (m a : Nat), Ieee.double.read x = .number (fNeg x) m (-1074 + (a : Int)) ∧ m * 2 ^ a = mg (x % 2 ^ 63) := by
  have hs : Ieee.double.signWeight = 2 ^ 63 := by decide +kernel
  have hb : Ieee.double.binade = 2 ^ 52 := by decide +kernel
  have hi : Ieee.double.infRung = 2047 * 2 ^ 52 := by decide +kernel
  have hl : Ieee.double.leastPlace = -1074 := by decide +kernel
  unfold Ieee.Format.read
  simp only [hs, hb, hi, hl]
  by_cases h1 : x % 2 ^ 63 < 2 ^ 52
  · refine ⟨x % 2 ^ 63, 0, ?_, ?_⟩
    · rw [if_pos h1]; rfl
    · simp [mg, h1]
  · refine ⟨2 ^ 52 + x % 2 ^ 63 % 2 ^ 52, x % 2 ^ 63 / 2 ^ 52 - 1, ?_, ?_⟩
    · rw [if_neg h1, if_pos h]; rfl
    · rw [mg, if_neg h1]
theorem read_inf (x : Nat) (h : x % 2 ^ 63 = 2047 * 2 ^ 52) : Ieee.double.read x = .infinity (fNeg x) := by
  have hs : Ieee.double.signWeight = 2 ^ 63 := by decide +kernel
  have hb : Ieee.double.binade = 2 ^ 52 := by decide +kernel
  have hi : Ieee.double.infRung = 2047 * 2 ^ 52 := by decide +kernel
  unfold Ieee.Format.read
  simp only [hs, hb, hi]
  rw [if_neg (by omega), if_neg (by omega), if_pos h]; rfl
theorem read_nan (x : Nat) (h : 2047 * 2 ^ 52 < x % 2 ^ 63) : ∃ f, Ieee.double.read x = .nan (fNeg x) f := by
  have hs : Ieee.double.signWeight = 2 ^ 63 := by decide +kernel
  have hb : Ieee.double.binade = 2 ^ 52 := by decide +kernel
  have hi : Ieee.double.infRung = 2047 * 2 ^ 52 := by decide +kernel
  unfold Ieee.Format.read
  simp only [hs, hb, hi]
  rw [if_neg (by omega), if_neg (by omega), if_neg (by omega)]
  exact ⟨_, rfl⟩
theorem order_nanL (x y : Nat) (h : fNaN x = true) : Ieee.double.order x y = none := by
  obtain ⟨f, hf⟩ := read_nan x (by simpa [fNaN] using h)
  unfold Ieee.Format.order
  rw [hf]
  cases Ieee.double.read y <;> rfl
theorem order_nanR (x y : Nat) (h : fNaN y = true) : Ieee.double.order x y = none := by
  obtain ⟨f, hf⟩ := read_nan y (by simpa [fNaN] using h)
  unfold Ieee.Format.order
  rw [hf]
  cases Ieee.double.read x <;> rfl
theorem shift_cmp (s t : Bool) (m n a b k : Nat) (ha : k ≤ a) (hb : k ≤ b) :
    compare (Ieee.signed s m (a - k)) (Ieee.signed t n (b - k)) = compare (sgI s (m * 2 ^ a)) (sgI t (n * 2 ^ b)) := by
  have hp : (0 : Int) < 2 ^ k := by exact Int.pow_pos (by decide)
  have e1 : ∀ (s : Bool) (m a : Nat), k ≤ a → sgI s (m * 2 ^ a) = Ieee.signed s m (a - k) * 2 ^ k := by
    intro s m a ha
    have : m * 2 ^ a = m <<< (a - k) * 2 ^ k := by
      rw [Nat.shiftLeft_eq, Nat.mul_assoc, ← Nat.pow_add, Nat.sub_add_cancel ha]
    cases s <;> simp [sgI, Ieee.signed, this, Int.neg_mul]
  rw [e1 s m a ha, e1 t n b hb]
  apply cmp_same
  · exact (Int.mul_lt_mul_right hp).symm
  · exact ⟨fun h => by rw [h], fun h => Int.eq_of_mul_eq_mul_right (by omega) h⟩
theorem cmp_lt {a b : Int} (h : a < b) : compare a b = .lt := by simp only [compare, compareOfLessAndEq]; rw [if_pos h]
theorem cmp_gt {a b : Int} (h : b < a) : compare a b = .gt := by simp only [compare, compareOfLessAndEq]; rw [if_neg (by omega), if_neg (by omega)]
theorem cmp_bigR (s t : Bool) (X Y : Nat) (h : X < Y) : (if t then Ordering.gt else Ordering.lt) = compare (sgI s X) (sgI t Y) := by
  cases t
  · exact (cmp_lt (by cases s <;> simp only [sgI] <;> simp <;> omega)).symm
  · exact (cmp_gt (by cases s <;> simp only [sgI] <;> simp <;> omega)).symm
theorem cmp_bigL (s t : Bool) (X Y : Nat) (h : X < Y) : (if t then Ordering.lt else Ordering.gt) = compare (sgI t Y) (sgI s X) := by
  cases t
  · exact (cmp_gt (by cases s <;> simp only [sgI] <;> simp <;> omega)).symm
  · exact (cmp_lt (by cases s <;> simp only [sgI] <;> simp <;> omega)).symm
theorem order_rk (x y : Nat) (hx : fNaN x = false) (hy : fNaN y = false) : Ieee.double.order x y = some (compare (rk x) (rk y)) := by
  have hx' : x % 2 ^ 63 ≤ 2047 * 2 ^ 52 := by simpa [fNaN] using hx
  have hy' : y % 2 ^ 63 ≤ 2047 * 2 ^ 52 := by simpa [fNaN] using hy
  unfold Ieee.Format.order rk
  rcases Nat.lt_or_eq_of_le hx' with h1 | h1 <;> rcases Nat.lt_or_eq_of_le hy' with h2 | h2
  · obtain ⟨m, a, ha, hm⟩ := read_fin x h1
    obtain ⟨n, b, hb, hn⟩ := read_fin y h2
    rw [ha, hb]
    have e1 : (min (-1074 + (a : Int)) (-1074 + (b : Int))) = -1074 + ((min a b : Nat) : Int) := by omega
    show some (compare (Ieee.signed (fNeg x) m (-1074 + (a : Int) - min (-1074 + (a : Int)) (-1074 + (b : Int))).toNat) (Ieee.signed (fNeg y) n (-1074 + (b : Int) - min (-1074 + (a : Int)) (-1074 + (b : Int))).toNat)) = _
    rw [e1]
    have e2 : (-1074 + (a : Int) - (-1074 + ((min a b : Nat) : Int))).toNat = a - min a b := by omega
    have e3 : (-1074 + (b : Int) - (-1074 + ((min a b : Nat) : Int))).toNat = b - min a b := by omega
    rw [e2, e3, shift_cmp _ _ _ _ _ _ _ (Nat.min_le_left ..) (Nat.min_le_right ..), hm, hn, sgI_cmp]
  · obtain ⟨m, a, ha, hm⟩ := read_fin x h1
    rw [ha, read_inf y h2]
    exact congrArg some (cmp_bigR _ _ _ _ (by omega))
  · obtain ⟨n, b, hb, hn⟩ := read_fin y h2
    rw [hb, read_inf x h1]
    exact congrArg some (cmp_bigL _ _ _ _ (by omega))
  · rw [read_inf x h1, read_inf y h2]
    show some (compare (fNeg y).toNat (fNeg x).toNat) = _
    congr 1
    rw [h1, h2]
    cases fNeg y <;> cases fNeg x <;> decide +kernel
end Go.Proofs.Ytllgkmacjncelaa
