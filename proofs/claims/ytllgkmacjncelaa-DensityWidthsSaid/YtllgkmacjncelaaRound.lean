/-
  Rounding of floats of 64 bits keeps the order: of two numbers the greater one's nearest word is no less. Conditions: as each theorem states.
-/
import Derived.Test.YtllgkmacjncelaaFloat
set_option linter.all false
namespace Go.Proofs.Ytllgkmacjncelaa
/-- the rounding of n / 2^d, from its floor -/
def upN (n d : Nat) : Bool := decide (2 ^ d < 2 * (n % 2 ^ d)) || (decide (2 ^ d = 2 * (n % 2 ^ d)) && decide (n / 2 ^ d % 2 = 1))
theorem cut_eq (neg : Bool) (n d : Nat) : Ieee.Toward.even.cut neg n d = n / 2 ^ d + (upN n d).toNat := by
  unfold Ieee.Toward.cut
  simp only [Nat.shiftLeft_eq, Nat.one_mul]
  by_cases h : d ≤ n.log2 + 2
  · rw [Nat.min_eq_left h]
    unfold upN
    congr 2
  · rw [Nat.min_eq_right (by omega)]
    have h1 : n < 2 ^ (n.log2 + 1) := Nat.lt_log2_self
    have h2 : 2 ^ (n.log2 + 2) = 2 * 2 ^ (n.log2 + 1) := by rw [Nat.pow_succ 2 (n.log2 + 1), Nat.mul_comm]
    have h3 : 2 ^ (n.log2 + 2) ≤ 2 ^ d := Nat.pow_le_pow_right (by decide) (by omega)
    have h4 : n < 2 ^ (n.log2 + 2) := by omega
    have h5 : n < 2 ^ d := by omega
    unfold upN
    rw [Nat.div_eq_of_lt h4, Nat.mod_eq_of_lt h4, Nat.div_eq_of_lt h5, Nat.mod_eq_of_lt h5]
    have e1 : ¬ (2 ^ (n.log2 + 2) < 2 * n) := by omega
    have e2 : ¬ (2 ^ (n.log2 + 2) = 2 * n) := by omega
    have e3 : ¬ (2 ^ d < 2 * n) := by omega
    simp [e1, e3]

/-- the rung r is what N / D (in units of the least place) is rounded to -/
def Rnd (N D r : Nat) : Prop := ∃ f : Nat, mg f * D ≤ N ∧ N < mg (f + 1) * D ∧
  ((r = f ∧ ¬ (mg f + mg (f + 1)) * D < 2 * N ∧ ¬ ((mg f + mg (f + 1)) * D = 2 * N ∧ f % 2 = 1)) ∨ (r = f + 1 ∧ ((mg f + mg (f + 1)) * D < 2 * N ∨ ((mg f + mg (f + 1)) * D = 2 * N ∧ f % 2 = 1))))
theorem Rnd.mono {N D r N' D' r' : Nat} (h : Rnd N D r) (h' : Rnd N' D' r') (hD : 0 < D) (hD' : 0 < D') (hle : N * D' ≤ N' * D) : r ≤ r' := by
  obtain ⟨f, h1, h2, h3⟩ := h
  obtain ⟨g, k1, k2, k3⟩ := h'
  have hfg : f ≤ g := by
    rcases Nat.lt_or_ge g f with hlt | hge
    · exfalso
      have hm : mg (g + 1) ≤ mg f := by
        rcases Nat.lt_or_eq_of_le (Nat.succ_le_of_lt hlt) with h | h
        · exact Nat.le_of_lt (mg_lt h)
        · rw [← h]; exact Nat.le_refl _
      have a1 : N' * D < mg (g + 1) * D' * D := Nat.mul_lt_mul_of_pos_right k2 hD
      have a2 : mg f * D * D' ≤ N * D' := Nat.mul_le_mul_right _ h1
      have a3 : mg (g + 1) * D' * D ≤ mg f * D * D' := by
        rw [Nat.mul_assoc, Nat.mul_assoc, Nat.mul_comm D' D]; exact Nat.mul_le_mul_right _ hm
      omega
    · exact hge
  rcases Nat.lt_or_eq_of_le hfg with hlt | heq
  · rcases h3 with ⟨e, _⟩ | ⟨e, _⟩ <;> rcases k3 with ⟨e', _⟩ | ⟨e', _⟩ <;> omega
  · subst heq
    rcases h3 with ⟨e, _⟩ | ⟨e, hc⟩
    · rcases k3 with ⟨e', _⟩ | ⟨e', _⟩ <;> omega
    · rcases k3 with ⟨e', n1, n2⟩ | ⟨e', _⟩
      · exfalso
        generalize mg f + mg (f + 1) = s at hc n1 n2
        have b1 : 2 * (N * D') ≤ 2 * (N' * D) := Nat.mul_le_mul_left _ hle
        have b2 : 2 * (N * D') = (2 * N) * D' := by rw [Nat.mul_assoc]
        have b3 : 2 * (N' * D) = (2 * N') * D := by rw [Nat.mul_assoc]
        rw [b2, b3] at b1
        have b4 : (2 * N') * D ≤ s * D' * D := Nat.mul_le_mul_right _ (by omega)
        have b5 : s * D' * D = s * D * D' := by rw [Nat.mul_assoc, Nat.mul_assoc, Nat.mul_comm D']
        rw [b5] at b4
        rcases hc with hc | ⟨hc, hodd⟩
        · have b6 : s * D * D' < (2 * N) * D' := Nat.mul_lt_mul_of_pos_right hc hD'
          omega
        · have b6 : s * D' * D ≠ 2 * N' * D := fun e => n2 ⟨Nat.eq_of_mul_eq_mul_right hD e, hodd⟩
          rw [hc] at b4 b5
          rw [b5] at b6
          omega
      · omega

/-- what stands at the rung of a significand and a binade -/
theorem mg_at (e k : Nat) (h : (e = 0 ∧ k ≤ 2 ^ 53) ∨ (2 ^ 52 ≤ k ∧ k ≤ 2 ^ 53)) : mg (e * 2 ^ 52 + k) = k * 2 ^ e := by
  by_cases hk : k < 2 ^ 52
  · obtain ⟨rfl, _⟩ : e = 0 ∧ k ≤ 2 ^ 53 := by omega
    simp [mg, hk]
  · unfold mg
    rw [if_neg (by omega)]
    by_cases hk2 : k = 2 ^ 53
    · subst hk2
      have e1 : (e * 2 ^ 52 + 2 ^ 53) % 2 ^ 52 = 0 := by omega
      have e2 : (e * 2 ^ 52 + 2 ^ 53) / 2 ^ 52 - 1 = e + 1 := by omega
      have e3 : 2 ^ (e + 1) = 2 ^ e * 2 := Nat.pow_succ ..
      rw [e1, e2, e3]
      generalize 2 ^ e = z
      omega
    · have e1 : (e * 2 ^ 52 + k) % 2 ^ 52 = k - 2 ^ 52 := by omega
      have e2 : (e * 2 ^ 52 + k) / 2 ^ 52 - 1 = e := by omega
      have e3 : 2 ^ 52 + (k - 2 ^ 52) = k := by omega
      rw [e1, e2, e3]

theorem nearest_word (neg : Bool) (M : Nat) (p : Int) (hM : M ≠ 0) :
    Ieee.double.nearest neg M p = Ieee.double.word neg (min (((max (p + M.log2 - 52) (-1074)) + 1074).toNat * 2 ^ 52 + Ieee.Toward.even.cut neg (M <<< (p - (max (p + M.log2 - 52) (-1074))).toNat) ((max (p + M.log2 - 52) (-1074)) - p).toNat) (2047 * 2 ^ 52)) := by
  have hb : Ieee.double.binade = 2 ^ 52 := by decide +kernel
  have hi : Ieee.double.infRung = 2047 * 2 ^ 52 := by decide +kernel
  have hl : Ieee.double.leastPlace = -1074 := by decide +kernel
  have hf : (Ieee.double.fractionBits : Int) = 52 := by decide +kernel
  unfold Ieee.Format.nearest
  rw [if_neg hM]
  simp only [hb, hi, hl, hf]
  congr 3
/-- the rounding, by its floor: low is the significand's floor, and the rest is looked at -/
theorem rnd_of (N D e low : Nat) (up : Bool) (hlow : (e = 0 ∧ low < 2 ^ 53) ∨ (2 ^ 52 ≤ low ∧ low < 2 ^ 53))
    (h1 : low * 2 ^ e * D ≤ N) (h2 : N < (low + 1) * 2 ^ e * D)
    (h3 : up = true ↔ ((2 * low + 1) * 2 ^ e * D < 2 * N ∨ ((2 * low + 1) * 2 ^ e * D = 2 * N ∧ low % 2 = 1))) : Rnd N D (e * 2 ^ 52 + (low + up.toNat)) := by
  have m1 : mg (e * 2 ^ 52 + low) = low * 2 ^ e := mg_at e low (by omega)
  have m2 : mg (e * 2 ^ 52 + low + 1) = (low + 1) * 2 ^ e := by rw [Nat.add_assoc]; exact mg_at e (low + 1) (by omega)
  have m3 : low * 2 ^ e + (low + 1) * 2 ^ e = (2 * low + 1) * 2 ^ e := by rw [← Nat.add_mul]; congr 1; omega
  have m4 : (e * 2 ^ 52 + low) % 2 = low % 2 := by omega
  refine ⟨e * 2 ^ 52 + low, by rw [m1]; exact h1, by rw [m2]; exact h2, ?_⟩
  rw [m1, m2, m3, m4]
  cases up with
  | false =>
    have h4 := mt h3.2 (by decide)
    exact .inl ⟨by simp, fun h => h4 (.inl h), fun h => h4 (.inr h)⟩
  | true => exact .inr ⟨by simp [Nat.add_assoc], h3.1 rfl⟩
end Go.Proofs.Ytllgkmacjncelaa
