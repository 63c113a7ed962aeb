/-
  The quotient of two floats that are not less than 0, and a float of an integer, as roundings of exact numbers. Conditions: as each theorem states.
-/
import Derived.Test.YtllgkmacjncelaaRound
set_option linter.all false
namespace Go.Proofs.Ytllgkmacjncelaa
theorem upN_true {n d : Nat} : upN n d = true ↔ (2 ^ d < 2 * (n % 2 ^ d) ∨ (2 ^ d = 2 * (n % 2 ^ d) ∧ n / 2 ^ d % 2 = 1)) := by
  unfold upN
  rw [Bool.or_eq_true, Bool.and_eq_true, decide_eq_true_eq, decide_eq_true_eq, decide_eq_true_eq]
/-- from X = low * T + r, and N * T = X * E: how N stands to low * E, and to the middle -/
theorem stand {N E X T low r : Nat} (hT : 0 < T) (hE : 0 < E) (hX : X = low * T + r) (hr : r < T) (h : N * T = X * E) :
    low * E ≤ N ∧ N < (low + 1) * E ∧ ((2 * low + 1) * E < 2 * N ↔ T < 2 * r) ∧ ((2 * low + 1) * E = 2 * N ↔ T = 2 * r) := by
  have e1 : low * E * T ≤ N * T := by
    rw [h, Nat.mul_right_comm]; exact Nat.mul_le_mul_right _ (by omega)
  have e2 : N * T < (low + 1) * E * T := by
    rw [h, Nat.mul_right_comm]; exact Nat.mul_lt_mul_of_pos_right (by rw [Nat.add_mul]; omega) hE
  have k1 : (2 * low + 1) * E * T = (2 * low * T + T) * E := by rw [Nat.mul_right_comm, Nat.add_mul, Nat.one_mul]
  have k2 : 2 * N * T = (2 * low * T + 2 * r) * E := by rw [Nat.mul_assoc, h, hX, ← Nat.mul_assoc, Nat.mul_add, ← Nat.mul_assoc]
  refine ⟨Nat.le_of_mul_le_mul_right e1 hT, Nat.lt_of_mul_lt_mul_right e2, ?_, ?_⟩
  · rw [← Nat.mul_lt_mul_right hT, k1, k2, Nat.mul_lt_mul_right hE]; omega
  · constructor
    · intro e
      have : (2 * low + 1) * E * T = 2 * N * T := by rw [e]
      rw [k1, k2] at this
      have := Nat.eq_of_mul_eq_mul_right hE this
      omega
    · intro e
      refine Nat.eq_of_mul_eq_mul_right hT ?_
      rw [k1, k2, e]
/-- the cut of a number that is exact -/
theorem cut_exact (n d e N D : Nat) (hD : 0 < D) (h : N * 2 ^ d = n * (2 ^ e * D)) (hlow : (e = 0 ∧ n / 2 ^ d < 2 ^ 53) ∨ (2 ^ 52 ≤ n / 2 ^ d ∧ n / 2 ^ d < 2 ^ 53)) :
    Rnd N D (e * 2 ^ 52 + Ieee.Toward.even.cut false n d) := by
  rw [cut_eq]
  have hp : 0 < 2 ^ d := Nat.two_pow_pos _
  obtain ⟨s1, s2, s3, s4⟩ := stand (N := N) (E := 2 ^ e * D) (X := n) (T := 2 ^ d) (low := n / 2 ^ d) (r := n % 2 ^ d) hp (Nat.mul_pos (Nat.two_pow_pos _) hD) (by rw [Nat.mul_comm, Nat.div_add_mod]) (Nat.mod_lt _ hp) h
  refine rnd_of N D e (n / 2 ^ d) (upN n d) hlow (by rw [Nat.mul_assoc]; exact s1) (by rw [Nat.mul_assoc]; exact s2) ?_
  rw [upN_true, Nat.mul_assoc, s3, s4]
/-- the cut of a quotient with its sticky digit -/
theorem cut_sticky (X m g e N D : Nat) (hD : 0 < D) (hm : 0 < m) (h : N * (m * 2 ^ (g + 1)) = X * (2 ^ e * D))
    (hlow : (e = 0 ∧ (2 * (X / m) + (X % m != 0).toNat) / 2 ^ (g + 2) < 2 ^ 53) ∨ (2 ^ 52 ≤ (2 * (X / m) + (X % m != 0).toNat) / 2 ^ (g + 2) ∧ (2 * (X / m) + (X % m != 0).toNat) / 2 ^ (g + 2) < 2 ^ 53)) :
    Rnd N D (e * 2 ^ 52 + Ieee.Toward.even.cut false (2 * (X / m) + (X % m != 0).toNat) (g + 2)) := by
  rw [cut_eq]
  have hp : 0 < m * 2 ^ (g + 1) := Nat.mul_pos hm (Nat.two_pow_pos _)
  have hst : (X % m != 0).toNat ≤ 1 := by cases (X % m != 0) <;> decide
  have e1 : (2 * (X / m) + (X % m != 0).toNat) / 2 ^ (g + 2) = X / (m * 2 ^ (g + 1)) := by
    rw [show 2 ^ (g + 2) = 2 * 2 ^ (g + 1) by rw [Nat.pow_succ 2 (g + 1), Nat.mul_comm], ← Nat.div_div_eq_div_mul, ← Nat.div_div_eq_div_mul]
    congr 1; omega
  obtain ⟨s1, s2, s3, s4⟩ := stand (N := N) (E := 2 ^ e * D) (X := X) (T := m * 2 ^ (g + 1)) (low := X / (m * 2 ^ (g + 1))) (r := X % (m * 2 ^ (g + 1))) hp (Nat.mul_pos (Nat.two_pow_pos _) hD) (by rw [Nat.mul_comm, Nat.div_add_mod]) (Nat.mod_lt _ hp) h
  refine rnd_of N D e _ (upN _ (g + 2)) hlow (by rw [e1, Nat.mul_assoc]; exact s1) (by rw [e1, Nat.mul_assoc]; exact s2) ?_
  rw [upN_true, e1, Nat.mul_assoc, s3, s4]
  -- the rests
  have hmod : X % (m * 2 ^ (g + 1)) = X / m % 2 ^ (g + 1) * m + X % m := by
    rw [Nat.mod_mul]; rw [Nat.mul_comm m, Nat.add_comm]
  have hq : (2 * (X / m) + (X % m != 0).toNat) % 2 ^ (g + 2) = 2 * (X / m % 2 ^ (g + 1)) + (X % m != 0).toNat := by
    rw [show 2 ^ (g + 2) = 2 * 2 ^ (g + 1) by rw [Nat.pow_succ 2 (g + 1), Nat.mul_comm], Nat.mod_mul]
    rw [show (2 * (X / m) + (X % m != 0).toNat) % 2 = (X % m != 0).toNat by omega, show (2 * (X / m) + (X % m != 0).toNat) / 2 = X / m by omega]
    omega
  rw [hmod, hq]
  have hf : X % m < m := Nat.mod_lt _ hm
  have hf0 : (X % m != 0).toNat = if X % m = 0 then 0 else 1 := by
    by_cases h : X % m = 0 <;> simp [h]
  rw [hf0]
  generalize X % m = f at *
  generalize X / m % 2 ^ (g + 1) = s
  have h2 : 2 ^ (g + 2) = 4 * 2 ^ g := by rw [Nat.pow_succ, Nat.pow_succ]; omega
  have h1 : m * 2 ^ (g + 1) = 2 * (m * 2 ^ g) := by rw [Nat.pow_succ]; rw [← Nat.mul_assoc]; omega
  rw [h2, h1]
  generalize 2 ^ g = k
  rw [Nat.mul_comm s m]
  rcases Nat.lt_trichotomy s k with hs | hs | hs
  · have : m * s + m ≤ m * k := by rw [← Nat.mul_succ]; exact Nat.mul_le_mul_left _ hs
    generalize m * s = u at *
    generalize m * k = w at *
    split <;> omega
  · subst hs
    generalize m * s = u at *
    split <;> omega
  · have : m * k + m ≤ m * s := by rw [← Nat.mul_succ]; exact Nat.mul_le_mul_left _ hs
    generalize m * s = u at *
    generalize m * k = w at *
    split <;> omega
end Go.Proofs.Ytllgkmacjncelaa
