/-
  What density's Pick and Kept give, in plain words on lists of bits, and what follows of it. Conditions: none.
-/
import Derived.Test.YtllgkmacjncelaaFloat
set_option linter.all false
namespace Go.Proofs.Ytllgkmacjncelaa
/-- the place of the least one that is enough, of the first k -/
def leastF (l : List Nat) (W : Int) : Nat → Int
  | 0 => -1
  | k + 1 => if fNaN (l.getD k 0) = true then leastF l W k else
    if W ≤ rk (l.getD k 0) ∧ (leastF l W k < 0 ∨ rk (l.getD k 0) < rk (l.getD (leastF l W k).toNat 0)) then (k : Int) else leastF l W k
def greatF (l : List Nat) : Nat → Int
  | 0 => -1
  | k + 1 => if fNaN (l.getD k 0) = true then greatF l k else
    if greatF l k < 0 ∨ rk (l.getD (greatF l k).toNat 0) < rk (l.getD k 0) then (k : Int) else greatF l k
def pickF (l : List Nat) (W : Int) : Int := if 0 ≤ leastF l W l.length then leastF l W l.length else greatF l l.length

/-- i is no worse than j -/
def noWorse (l : List Nat) (W : Int) (i j : Nat) : Prop :=
  (W ≤ rk (l.getD i 0) ∧ (W ≤ rk (l.getD j 0) → rk (l.getD i 0) < rk (l.getD j 0) ∨ rk (l.getD i 0) = rk (l.getD j 0) ∧ i ≤ j)) ∨
  (rk (l.getD i 0) < W ∧ rk (l.getD j 0) < W ∧ (rk (l.getD j 0) < rk (l.getD i 0) ∨ rk (l.getD j 0) = rk (l.getD i 0) ∧ i ≤ j))
def PickIs (l : List Nat) (W : Int) (at_ : Int) : Prop :=
  (at_ = -1 ∧ ∀ j, j < l.length → fNaN (l.getD j 0) = true) ∨
  ∃ i : Nat, i < l.length ∧ at_ = i ∧ fNaN (l.getD i 0) = false ∧ ∀ j, j < l.length → fNaN (l.getD j 0) = false → noWorse l W i j

theorem leastF_is (l : List Nat) (W : Int) (k : Nat) :
    (leastF l W k = -1 ∧ ∀ j, j < k → fNaN (l.getD j 0) = false → rk (l.getD j 0) < W) ∨
    ∃ i : Nat, i < k ∧ leastF l W k = i ∧ fNaN (l.getD i 0) = false ∧ W ≤ rk (l.getD i 0) ∧ ∀ j, j < k → fNaN (l.getD j 0) = false → W ≤ rk (l.getD j 0) → rk (l.getD i 0) < rk (l.getD j 0) ∨ rk (l.getD i 0) = rk (l.getD j 0) ∧ i ≤ j := by
  induction k with
  | zero => exact .inl ⟨rfl, fun j hj => by omega⟩
  | succ k ih =>
    unfold leastF
    by_cases hn : fNaN (l.getD k 0) = true
    · rw [if_pos hn]
      rcases ih with ⟨h1, h2⟩ | ⟨i, h1, h2, h3, h4, h5⟩
      · refine .inl ⟨h1, fun j hj hjn => ?_⟩
        rcases Nat.lt_succ_iff_lt_or_eq.1 hj with h | h
        · exact h2 j h hjn
        · subst h; rw [hn] at hjn; cases hjn
      · refine .inr ⟨i, by omega, h2, h3, h4, fun j hj hjn hw => ?_⟩
        rcases Nat.lt_succ_iff_lt_or_eq.1 hj with h | h
        · exact h5 j h hjn hw
        · subst h; rw [hn] at hjn; cases hjn
    · rw [if_neg hn]
      have hnf : fNaN (l.getD k 0) = false := by simpa using hn
      rcases ih with ⟨h1, h2⟩ | ⟨i, h1, h2, h3, h4, h5⟩
      · rw [h1]
        by_cases hw : W ≤ rk (l.getD k 0)
        · rw [if_pos ⟨hw, .inl (by omega)⟩]
          refine .inr ⟨k, by omega, rfl, hnf, hw, fun j hj hjn hjw => ?_⟩
          rcases Nat.lt_succ_iff_lt_or_eq.1 hj with h | h
          · have := h2 j h hjn; omega
          · subst h; exact .inr ⟨rfl, Nat.le_refl _⟩
        · rw [if_neg fun h => hw h.1]
          refine .inl ⟨rfl, fun j hj hjn => ?_⟩
          rcases Nat.lt_succ_iff_lt_or_eq.1 hj with h | h
          · exact h2 j h hjn
          · subst h; omega
      · rw [h2]
        have hi : (i : Int).toNat = i := by omega
        rw [hi]
        by_cases hw : W ≤ rk (l.getD k 0) ∧ ((i : Int) < 0 ∨ rk (l.getD k 0) < rk (l.getD i 0))
        · rw [if_pos hw]
          refine .inr ⟨k, by omega, rfl, hnf, hw.1, fun j hj hjn hjw => ?_⟩
          rcases Nat.lt_succ_iff_lt_or_eq.1 hj with h | h
          · have := h5 j h hjn hjw
            have hlt : rk (l.getD k 0) < rk (l.getD i 0) := by rcases hw.2 with h | h <;> omega
            left; omega
          · subst h; exact .inr ⟨rfl, Nat.le_refl _⟩
        · rw [if_neg hw]
          refine .inr ⟨i, by omega, rfl, h3, h4, fun j hj hjn hjw => ?_⟩
          rcases Nat.lt_succ_iff_lt_or_eq.1 hj with h | h
          · exact h5 j h hjn hjw
          · subst h
            have : ¬ (rk (l.getD j 0) < rk (l.getD i 0)) := fun h => hw ⟨hjw, .inr h⟩
            omega
theorem greatF_is (l : List Nat) (k : Nat) :
    (greatF l k = -1 ∧ ∀ j, j < k → fNaN (l.getD j 0) = true) ∨
    ∃ i : Nat, i < k ∧ greatF l k = i ∧ fNaN (l.getD i 0) = false ∧ ∀ j, j < k → fNaN (l.getD j 0) = false → rk (l.getD j 0) < rk (l.getD i 0) ∨ rk (l.getD j 0) = rk (l.getD i 0) ∧ i ≤ j := by
  induction k with
  | zero => exact .inl ⟨rfl, fun j hj => by omega⟩
  | succ k ih =>
    unfold greatF
    by_cases hn : fNaN (l.getD k 0) = true
    · rw [if_pos hn]
      rcases ih with ⟨h1, h2⟩ | ⟨i, h1, h2, h3, h5⟩
      · refine .inl ⟨h1, fun j hj => ?_⟩
        rcases Nat.lt_succ_iff_lt_or_eq.1 hj with h | h
        · exact h2 j h
        · subst h; exact hn
      · refine .inr ⟨i, by omega, h2, h3, fun j hj hjn => ?_⟩
        rcases Nat.lt_succ_iff_lt_or_eq.1 hj with h | h
        · exact h5 j h hjn
        · subst h; rw [hn] at hjn; cases hjn
    · rw [if_neg hn]
      have hnf : fNaN (l.getD k 0) = false := by simpa using hn
      rcases ih with ⟨h1, h2⟩ | ⟨i, h1, h2, h3, h5⟩
      · rw [h1, if_pos (.inl (by omega))]
        refine .inr ⟨k, by omega, rfl, hnf, fun j hj hjn => ?_⟩
        rcases Nat.lt_succ_iff_lt_or_eq.1 hj with h | h
        · rw [h2 j h] at hjn; cases hjn
        · subst h; exact .inr ⟨rfl, Nat.le_refl _⟩
      · rw [h2]
        have hi : (i : Int).toNat = i := by omega
        rw [hi]
        by_cases hw : (i : Int) < 0 ∨ rk (l.getD i 0) < rk (l.getD k 0)
        · rw [if_pos hw]
          refine .inr ⟨k, by omega, rfl, hnf, fun j hj hjn => ?_⟩
          rcases Nat.lt_succ_iff_lt_or_eq.1 hj with h | h
          · have := h5 j h hjn
            have hlt : rk (l.getD i 0) < rk (l.getD k 0) := by rcases hw with h | h <;> omega
            left; omega
          · subst h; exact .inr ⟨rfl, Nat.le_refl _⟩
        · rw [if_neg hw]
          refine .inr ⟨i, by omega, rfl, h3, fun j hj hjn => ?_⟩
          rcases Nat.lt_succ_iff_lt_or_eq.1 hj with h | h
          · exact h5 j h hjn
          · subst h
            have : ¬ (rk (l.getD i 0) < rk (l.getD j 0)) := fun h => hw (.inr h)
            omega
theorem pickF_is (l : List Nat) (W : Int) : PickIs l W (pickF l W) := by
  unfold pickF
  rcases leastF_is l W l.length with ⟨h1, h2⟩ | ⟨i, h1, h2, h3, h4, h5⟩
  · rw [h1, if_neg (by omega)]
    rcases greatF_is l l.length with ⟨k1, k2⟩ | ⟨i, k1, k2, k3, k5⟩
    · exact .inl ⟨k1, k2⟩
    · refine .inr ⟨i, k1, k2, k3, fun j hj hjn => ?_⟩
      exact .inr ⟨h2 i k1 k3, h2 j hj hjn, k5 j hj hjn⟩
  · rw [h2, if_pos (by omega)]
    exact .inr ⟨i, h1, rfl, h3, fun j hj hjn => .inl ⟨h4, h5 j hj hjn⟩⟩
theorem noWorse_both {l : List Nat} {W : Int} {i j : Nat} (h1 : noWorse l W i j) (h2 : noWorse l W j i) : i = j := by
  unfold noWorse at h1 h2
  omega
theorem PickIs.one {l : List Nat} {W a b : Int} (h1 : PickIs l W a) (h2 : PickIs l W b) : a = b := by
  rcases h1 with ⟨rfl, h1⟩ | ⟨i, hi, rfl, hn, h⟩
  · rcases h2 with ⟨rfl, _⟩ | ⟨j, hj, rfl, hn, _⟩
    · rfl
    · rw [h1 j hj] at hn; cases hn
  · rcases h2 with ⟨rfl, h2⟩ | ⟨j, hj, rfl, hm, h'⟩
    · rw [h2 i hi] at hn; cases hn
    · rw [noWorse_both (h j hj hm) (h' i hi hn)]
theorem PickIs.eq {l : List Nat} {W a : Int} (h : PickIs l W a) : pickF l W = a := (pickF_is l W).one h

/-- the places kept, of the first k -/
def newAt (l : List Nat) (k : Nat) : Prop := fNaN (l.getD k 0) = false ∧ ∀ j, j < k → fNaN (l.getD j 0) = false → rk (l.getD j 0) ≠ rk (l.getD k 0)
instance (l : List Nat) (k : Nat) : Decidable (newAt l k) := inferInstanceAs (Decidable (_ ∧ _))
def keptF (l : List Nat) (k : Nat) : List Nat := (List.range k).filter fun i => decide (newAt l i)
theorem keptF_succ (l : List Nat) (k : Nat) : keptF l (k + 1) = if newAt l k then keptF l k ++ [k] else keptF l k := by
  unfold keptF
  rw [List.range_succ, List.filter_append]
  by_cases h : newAt l k <;> simp [h]
theorem keptF_le (l : List Nat) (k : Nat) : (keptF l k).length ≤ k := by
  have := List.length_filter_le (fun i => decide (newAt l i)) (List.range k)
  simpa [keptF] using this
theorem mem_keptF {l : List Nat} {k i : Nat} : i ∈ keptF l k ↔ i < k ∧ newAt l i := by simp [keptF]
theorem keptF_sorted (l : List Nat) (k : Nat) : (keptF l k).Pairwise (· < ·) := List.Pairwise.filter _ List.pairwise_lt_range
end Go.Proofs.Ytllgkmacjncelaa
