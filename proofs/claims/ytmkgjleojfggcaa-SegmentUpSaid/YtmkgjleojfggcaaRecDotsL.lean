/-
  What is a dot, and two, in plain words. Conditions: as each theorem states.
-/
import Derived.Test.YtmkgjleojfggcaaRecDot
set_option linter.all false
namespace Go.Proofs.Ytmkgjleojfggcaa
theorem isDot_cases {l : List UInt8} (h : isDot l = true) : l = [46] ∨ l = [37, 50, 101] ∨ l = [37, 50, 69] := by
  unfold isDot at h
  simpa [Bool.or_eq_true] using h
theorem isDot_len {l : List UInt8} (h : isDot l = true) : l.length = 1 ∨ l.length = 3 := by
  rcases isDot_cases h with rfl | rfl | rfl <;> simp
theorem dots_app {A B : List UInt8} (h1 : dotL A = true) (h2 : dotL B = true) : dotsL (A ++ B) = true := by
  rw [dotL_eq] at h1 h2
  have l1 := isDot_len h1
  have l2 := isDot_len h2
  refine (dotsL_iff _).2 ⟨A.length, by omega, by simp; omega, by simpa using h1, by simpa using h2⟩
theorem dot_not_dots {A : List UInt8} (h : dotL A = true) : dotsL A = false := by
  rw [dotL_eq] at h
  have l1 := isDot_len h
  cases hd : dotsL A
  · rfl
  · obtain ⟨i, h1, h2, h3, h4⟩ := (dotsL_iff _).1 hd
    have k1 := isDot_len h3
    have k2 := isDot_len h4
    rw [List.length_take] at k1
    rw [List.length_drop] at k2
    omega
theorem low46_fin : ∀ i : Fin 256, ((lowB (UInt8.ofNat i.val) == 46) = (UInt8.ofNat i.val == 46)) ∧ ((lowB (UInt8.ofNat i.val) == 69) = false) := by decide +kernel
theorem low46 (c : UInt8) : ((lowB c == 46) = (c == 46)) ∧ ((lowB c == 69) = false) := by
  have h := low46_fin ⟨c.toNat, c.toNat_lt⟩
  rwa [show UInt8.ofNat (⟨c.toNat, c.toNat_lt⟩ : Fin 256).val = c by simp] at h
theorem isDot_low (l : List UInt8) : isDot (lowL l) = isDot l := by
  match l with
  | [] => rfl
  | [a] =>
    have h := (low46 a).1
    rw [Bool.eq_iff_iff] at h ⊢
    simpa [isDot, lowL] using h
  | [a, b] => simp [isDot, lowL]
  | [a, b, c] =>
    have h := low3 a b c
    have h9 := (low46 c).2
    rw [Bool.eq_iff_iff]
    simp only [isDot, Bool.or_eq_true, beq_iff_eq]
    have hx : lowL [a, b, c] = [lowB a, lowB b, lowB c] := rfl
    rw [h, hx]
    simp at h9
    simp [h9]
    constructor
    · rintro ⟨rfl, rfl, rfl | rfl⟩ <;> simp
    · rintro (⟨rfl, rfl, rfl⟩ | ⟨rfl, rfl, rfl⟩) <;> simp
  | a :: b :: c :: d :: r => simp [isDot, lowL]
theorem dotL_low (l : List UInt8) : dotL (lowL l) = dotL l := by rw [dotL_eq, dotL_eq, isDot_low]
theorem dotsL_low (l : List UInt8) : dotsL (lowL l) = dotsL l := by
  rw [Bool.eq_iff_iff, dotsL_iff, dotsL_iff]
  have ht : ∀ i, (lowL l).take i = lowL (l.take i) := fun i => by simp [lowL, List.map_take]
  have hd : ∀ i, (lowL l).drop i = lowL (l.drop i) := fun i => by simp [lowL, List.map_drop]
  have hl : (lowL l).length = l.length := by simp [lowL]
  simp only [ht, hd, hl, isDot_low]
/-- two dots are parted behind one sign, or behind three -/
theorem dots_parts {l : List UInt8} (h : dotsL l = true) : (1 < l.length ∧ dotL (l.take 1) = true ∧ dotL (l.drop 1) = true) ∨ (3 < l.length ∧ dotL (l.take 1) = false ∧ dotL (l.take 3) = true ∧ dotL (l.drop 3) = true) := by
  obtain ⟨i, h1, h2, h3, h4⟩ := (dotsL_iff _).1 h
  simp only [dotL_eq]
  have k1 := isDot_len h3
  rw [List.length_take] at k1
  rcases k1 with k | k
  · obtain rfl : i = 1 := by omega
    exact .inl ⟨h2, h3, h4⟩
  · obtain rfl : i = 3 := by omega
    refine .inr ⟨h2, ?_, h3, h4⟩
    match l, h2 with
    | a :: b :: c :: d :: r, _ =>
      rcases isDot_cases h3 with e | e | e
      · simp at e
      · simp at e; obtain ⟨rfl, _, _⟩ := e; rfl
      · simp at e; obtain ⟨rfl, _, _⟩ := e; rfl
end Go.Proofs.Ytmkgjleojfggcaa
