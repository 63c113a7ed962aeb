/-
  What DensityKeeps goes over, in plain words. Conditions: as each theorem states.
-/
import Derived.Test.YtllgkmacjncelaaDensLaws
import Derived.Test.YtllgkmacjncelaaDensKept
set_option linter.all false
namespace Go.Proofs.Ytllgkmacjncelaa
theorem keptI_len (l : List Nat) : (keptI l l.length).length = (keptF l l.length).length := by simp [keptI]
theorem keptV_len (l : List Nat) : (keptV l).length = (keptF l l.length).length := by simp [keptV]
theorem keptV_get {l : List Nat} {i : Nat} (hi : i < (keptF l l.length).length) : (keptV l).getD i 0 = l.getD ((keptF l l.length)[i]) 0 := by
  simp [keptV, List.getD_eq_getElem?_getD, List.getElem?_eq_getElem hi]
/-- what is so of the kept one at i -/
theorem keeps_at {l : List Nat} {i : Nat} (hi : i < (keptI l l.length).length) : ∃ x : Nat, x < l.length ∧ (keptI l l.length).getD i 0 = x ∧ fNaN (l.getD x 0) = false ∧
    (0 < i → ∃ y : Nat, (keptI l l.length).getD (i - 1) 0 = y ∧ y < x) ∧ (∀ n, n < i → fEq ((keptV l).getD n 0) (l.getD x 0) = false) ∧ (keptV l).take (i + 1) = (keptV l).take i ++ [l.getD x 0] := by
  rw [keptI_len] at hi
  have hg : ∀ {j}, j < (keptF l l.length).length → (keptI l l.length).getD j 0 = ((keptF l l.length).getD j 0 : Nat) := by
    intro j hj
    simp [keptI, List.getD_eq_getElem?_getD, List.getElem?_eq_getElem hj]
  have he : ∀ {j} (hj : j < (keptF l l.length).length), (keptF l l.length).getD j 0 = (keptF l l.length)[j] := by
    intro j hj
    simp [List.getD_eq_getElem?_getD, List.getElem?_eq_getElem hj]
  have hx := keptF_get hi
  refine ⟨(keptF l l.length)[i], hx.1, by rw [hg hi, he hi], hx.2.1, fun h0 => ⟨(keptF l l.length)[i - 1], by rw [hg (by omega), he (by omega)], keptF_lt hi (by omega)⟩, fun n hn => ?_, ?_⟩
  · rw [keptV_get (by omega), fEq_eq, (keptF_get (by omega : n < _)).2.1, hx.2.1]
    have := kept_other hi hn
    simpa using this
  · have hv : i < (keptV l).length := by rw [keptV_len]; exact hi
    rw [List.take_succ_eq_append_getElem hv, ← keptV_get hi, List.getD_eq_getElem?_getD, List.getElem?_eq_getElem hv]; rfl
/-- is v among the first n? -/
def hadB (M : List Nat) (v n : Nat) : Bool := fNaN v || (M.take n).any fun u => fEq u v
theorem hadB_zero (M : List Nat) (v : Nat) : hadB M v 0 = fNaN v := by simp [hadB]
theorem hadB_succ (M : List Nat) (v n : Nat) (h : n < M.length) : hadB M v (n + 1) = (hadB M v n || fEq (M.getD n 0) v) := by
  unfold hadB
  rw [List.take_succ_eq_append_getElem h, List.any_append, List.getD_eq_getElem?_getD, List.getElem?_eq_getElem h]
  simp [Bool.or_assoc]
theorem hadB_all {l : List Nat} {i : Nat} (h : i < l.length) : hadB (keptV l) (l.getD i 0) (keptV l).length = true := by
  unfold hadB
  cases hn : fNaN (l.getD i 0)
  · obtain ⟨j, hj, e⟩ := kept_all h hn
    rw [List.take_length, Bool.false_or, List.any_eq_true]
    refine ⟨l.getD j 0, List.mem_map.2 ⟨j, hj, rfl⟩, ?_⟩
    rw [fEq_eq, (mem_keptF.1 hj).2.1, hn, e]
    simp
  · rfl
/-- is a among the first k places? -/
def isB (K : List Int) (a : Int) (k : Nat) : Bool := decide (a < 0) || (K.take k).any fun x => x == a
theorem isB_zero (K : List Int) (a : Int) : isB K a 0 = decide (a < 0) := by simp [isB]
theorem isB_succ (K : List Int) (a : Int) (k : Nat) (h : k < K.length) : isB K a (k + 1) = (isB K a k || K.getD k 0 == a) := by
  unfold isB
  rw [List.take_succ_eq_append_getElem h, List.any_append, List.getD_eq_getElem?_getD, List.getElem?_eq_getElem h]
  simp [Bool.or_assoc]
theorem isB_all (l : List Nat) (W : Int) : isB (keptI l l.length) (pickF l W) (keptI l l.length).length = true := by
  unfold isB
  rw [List.take_length]
  rcases pickF_is l W with ⟨e, _⟩ | ⟨j, hj, e, _⟩
  · rw [e]; rfl
  · rw [Bool.or_eq_true]
    right
    rw [List.any_eq_true]
    refine ⟨pickF l W, ?_, by simp⟩
    rw [e]
    exact List.mem_map.2 ⟨j, pick_kept e, rfl⟩
theorem keeps_to (l : List Nat) (W : Int) : (pickF l W = -1 ∧ pickF (keptV l) W = -1) ∨ ∃ t : Nat, ∃ p : Nat, t < (keptI l l.length).length ∧ pickF (keptV l) W = t ∧ pickF l W = p ∧ (keptI l l.length).getD t 0 = p ∧ p < l.length := by
  rcases pick_keptV l W with ⟨h1, h2⟩ | ⟨t, ht, h1, h2⟩
  · left
    rcases pickF_is l W with ⟨e, _⟩ | ⟨j, hj, e, _⟩
    · rcases pickF_is (keptV l) W with ⟨e', _⟩ | ⟨j, hj, e', _⟩
      · exact ⟨e, e'⟩
      · omega
    · omega
  · right
    refine ⟨t, (keptF l l.length)[t], by rw [keptI_len]; exact ht, h1, h2, ?_, (keptF_get ht).1⟩
    simp [keptI, List.getD_eq_getElem?_getD, List.getElem?_eq_getElem ht]
end Go.Proofs.Ytllgkmacjncelaa
