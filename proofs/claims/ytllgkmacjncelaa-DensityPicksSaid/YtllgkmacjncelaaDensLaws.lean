/-
  What follows of what Pick and Kept give: what is kept, and what is no number. Conditions: as each theorem states.
-/
import Derived.Test.YtllgkmacjncelaaDensPlain
set_option linter.all false
namespace Go.Proofs.Ytllgkmacjncelaa
/-- where what stood at i stands behind one more at the place p -/
def shiftN (p i : Nat) : Nat := if p ≤ i then i + 1 else i
def insN (l : List Nat) (p x : Nat) : List Nat := l.take p ++ x :: l.drop p
theorem insN_len (l : List Nat) (p x : Nat) (h : p ≤ l.length) : (insN l p x).length = l.length + 1 := by
  simp [insN]; omega
theorem insN_at (l : List Nat) (p x : Nat) (h : p ≤ l.length) : (insN l p x).getD p 0 = x := by
  have : (l.take p).length = p := by simp [h]
  simp [insN, List.getD_eq_getElem?_getD, List.getElem?_append, this]
theorem insN_shift (l : List Nat) (p x i : Nat) (h : p ≤ l.length) : (insN l p x).getD (shiftN p i) 0 = l.getD i 0 := by
  have hl : (l.take p).length = p := by simp [h]
  unfold insN shiftN
  by_cases hi : p ≤ i
  · rw [if_pos hi, List.getD_eq_getElem?_getD, List.getElem?_append_right (by omega), hl]
    have : i + 1 - p = (i - p) + 1 := by omega
    rw [this, List.getElem?_cons_succ, List.getElem?_drop, List.getD_eq_getElem?_getD]
    congr 2; omega
  · rw [if_neg hi, List.getD_eq_getElem?_getD, List.getElem?_append_left (by omega), List.getD_eq_getElem?_getD, List.getElem?_take, if_pos (by omega)]
theorem shift_or (p j : Nat) : j = p ∨ ∃ i, j = shiftN p i ∧ (j < p → i = j) ∧ (p < j → i + 1 = j) := by
  rcases Nat.lt_trichotomy j p with h | h | h
  · exact .inr ⟨j, by simp [shiftN]; omega, fun _ => rfl, fun h' => by omega⟩
  · exact .inl h
  · exact .inr ⟨j - 1, by simp only [shiftN]; split <;> omega, fun h' => by omega, fun _ => by omega⟩
theorem newAt_ins (l : List Nat) (p x i : Nat) (h : p ≤ l.length) (hx : fNaN x = true) : newAt (insN l p x) (shiftN p i) ↔ newAt l i := by
  unfold newAt
  rw [insN_shift l p x i h]
  refine and_congr Iff.rfl ⟨fun hh j hj hjn => ?_, fun hh j hj hjn => ?_⟩
  · have := hh (shiftN p j) (by unfold shiftN; split <;> split <;> omega)
    rw [insN_shift l p x j h] at this
    exact this hjn
  · rcases shift_or p j with e | ⟨j', e, e1, e2⟩
    · subst e; rw [insN_at l j x h, hx] at hjn; cases hjn
    · rw [e, insN_shift l p x j' h] at hjn ⊢
      refine hh j' ?_ hjn
      unfold shiftN at e hj
      split at e <;> split at hj <;> omega
theorem newAt_ins_at (l : List Nat) (p x : Nat) (h : p ≤ l.length) (hx : fNaN x = true) : ¬ newAt (insN l p x) p := by
  intro hn
  have := hn.1
  rw [insN_at l p x h, hx] at this
  cases this
theorem keptF_ins_le (l : List Nat) (p x k : Nat) (h : p ≤ l.length) (hx : fNaN x = true) (hk : k ≤ p) : keptF (insN l p x) k = (keptF l k).map (shiftN p) := by
  induction k with
  | zero => rfl
  | succ k ih =>
    have hs : shiftN p k = k := by unfold shiftN; rw [if_neg (by omega)]
    have := newAt_ins l p x k h hx
    rw [hs] at this
    rw [keptF_succ, keptF_succ, ih (by omega)]
    by_cases hn : newAt l k
    · rw [if_pos hn, if_pos (this.2 hn)]; simp [hs]
    · rw [if_neg hn, if_neg (fun h => hn (this.1 h))]
theorem keptF_ins_gt (l : List Nat) (p x d : Nat) (h : p ≤ l.length) (hx : fNaN x = true) : keptF (insN l p x) (p + d + 1) = (keptF l (p + d)).map (shiftN p) := by
  induction d with
  | zero =>
    rw [Nat.add_zero, keptF_succ, if_neg (newAt_ins_at l p x h hx)]
    exact keptF_ins_le l p x p h hx (Nat.le_refl _)
  | succ d ih =>
    have hs : shiftN p (p + d) = p + d + 1 := by unfold shiftN; rw [if_pos (by omega)]
    have := newAt_ins l p x (p + d) h hx
    rw [hs] at this
    rw [show p + (d + 1) + 1 = (p + d + 1) + 1 from rfl, keptF_succ, ih, show p + (d + 1) = (p + d) + 1 from rfl, keptF_succ]
    by_cases hn : newAt l (p + d)
    · rw [if_pos hn, if_pos (this.2 hn)]; simp [hs]
    · rw [if_neg hn, if_neg (fun h => hn (this.1 h))]
theorem keptF_ins (l : List Nat) (p x : Nat) (h : p ≤ l.length) (hx : fNaN x = true) : keptF (insN l p x) (l.length + 1) = (keptF l l.length).map (shiftN p) := by
  have := keptF_ins_gt l p x (l.length - p) h hx
  rwa [show p + (l.length - p) = l.length by omega] at this
def shiftI (p : Nat) (a : Int) : Int := if (p : Int) ≤ a then a + 1 else a
theorem pickF_ins (l : List Nat) (p x : Nat) (W : Int) (h : p ≤ l.length) (hx : fNaN x = true) : pickF (insN l p x) W = shiftI p (pickF l W) := by
  refine PickIs.eq ?_
  rcases pickF_is l W with ⟨e, h1⟩ | ⟨i, hi, e, hn, h1⟩
  · rw [e]
    refine .inl ⟨by unfold shiftI; rw [if_neg (by omega)], fun j hj => ?_⟩
    rw [insN_len l p x h] at hj
    rcases shift_or p j with e | ⟨j', e, e1, e2⟩
    · subst e; rw [insN_at l j x h, hx]
    · rw [e, insN_shift l p x j' h]
      refine h1 j' ?_
      unfold shiftN at e; split at e <;> omega
  · rw [e]
    refine .inr ⟨shiftN p i, by rw [insN_len l p x h]; unfold shiftN; split <;> omega, by unfold shiftI shiftN; split <;> split <;> omega, by rw [insN_shift l p x i h]; exact hn, fun j hj hjn => ?_⟩
    rw [insN_len l p x h] at hj
    rcases shift_or p j with e | ⟨j', e, e1, e2⟩
    · subst e; rw [insN_at l j x h, hx] at hjn; cases hjn
    · rw [e, insN_shift l p x j' h] at hjn
      have hj' : j' < l.length := by unfold shiftN at e; split at e <;> omega
      have := h1 j' hj' hjn
      unfold noWorse at this ⊢
      rw [e, insN_shift l p x i h, insN_shift l p x j' h]
      have hle : shiftN p i ≤ shiftN p j' ↔ i ≤ j' := by unfold shiftN; split <;> split <;> omega
      rw [hle]
      exact this

/-- the numbers that are kept -/
def keptV (l : List Nat) : List Nat := (keptF l l.length).map fun i => l.getD i 0
theorem keptF_get {l : List Nat} {i : Nat} (hi : i < (keptF l l.length).length) : (keptF l l.length)[i] < l.length ∧ newAt l (keptF l l.length)[i] := mem_keptF.1 (List.getElem_mem hi)
theorem keptF_lt {l : List Nat} {i j : Nat} (hj : j < (keptF l l.length).length) (h : i < j) : (keptF l l.length)[i] < (keptF l l.length)[j] :=
  List.pairwise_iff_getElem.1 (keptF_sorted l l.length) i j (by omega) hj h
theorem kept_other {l : List Nat} {i j : Nat} (hj : j < (keptF l l.length).length) (h : i < j) : rk (l.getD ((keptF l l.length)[i]) 0) ≠ rk (l.getD ((keptF l l.length)[j]) 0) :=
  (keptF_get hj).2.2 _ (keptF_lt hj h) (keptF_get (by omega)).2.1
theorem kept_all {l : List Nat} {i : Nat} (hi : i < l.length) (hn : fNaN (l.getD i 0) = false) : ∃ j ∈ keptF l l.length, rk (l.getD j 0) = rk (l.getD i 0) := by
  induction i using Nat.strongRecOn with
  | _ i ih =>
    by_cases h : newAt l i
    · exact ⟨i, mem_keptF.2 ⟨hi, h⟩, rfl⟩
    · have : ∃ j, j < i ∧ fNaN (l.getD j 0) = false ∧ rk (l.getD j 0) = rk (l.getD i 0) := by
        by_cases hc : ∃ j, j < i ∧ fNaN (l.getD j 0) = false ∧ rk (l.getD j 0) = rk (l.getD i 0)
        · exact hc
        · exact absurd ⟨hn, fun j hj hjn e => hc ⟨j, hj, hjn, e⟩⟩ h
      obtain ⟨j, hj, hjn, e⟩ := this
      obtain ⟨t, ht, e'⟩ := ih j hj (by omega) hjn
      exact ⟨t, ht, e'.trans e⟩
theorem pick_kept {l : List Nat} {W : Int} {i : Nat} (h : pickF l W = i) : i ∈ keptF l l.length := by
  rcases pickF_is l W with ⟨e, _⟩ | ⟨j, hj, e, hn, h1⟩
  · omega
  · obtain rfl : i = j := by omega
    refine mem_keptF.2 ⟨hj, hn, fun t ht htn e => ?_⟩
    have := h1 t (by omega) htn
    unfold noWorse at this
    omega
theorem pick_neg {l : List Nat} {W : Int} (h : pickF l W < 0) : keptF l l.length = [] := by
  rcases pickF_is l W with ⟨_, h1⟩ | ⟨j, hj, e, hn, _⟩
  · refine List.eq_nil_iff_forall_not_mem.2 fun i hi => ?_
    have := mem_keptF.1 hi
    have h2 := h1 i this.1
    rw [this.2.1] at h2; cases h2
  · omega
/-- what is picked of those kept stands where what is picked of all -/
theorem pick_keptV (l : List Nat) (W : Int) : (pickF l W < 0 ∧ pickF (keptV l) W < 0) ∨ ∃ t : Nat, ∃ h : t < (keptF l l.length).length, pickF (keptV l) W = t ∧ pickF l W = ((keptF l l.length)[t] : Nat) := by
  rcases pickF_is l W with ⟨e, h1⟩ | ⟨i, hi, e, hn, h1⟩
  · left
    have hk : keptV l = [] := by unfold keptV; rw [pick_neg (W := W) (by omega)]; rfl
    rw [hk]
    exact ⟨by omega, by simp [pickF, leastF, greatF]⟩
  · right
    obtain ⟨t, ht, et⟩ := List.getElem_of_mem (pick_kept e)
    refine ⟨t, ht, PickIs.eq (.inr ⟨t, by simpa [keptV] using ht, rfl, ?_, fun j hj hjn => ?_⟩), by rw [e, et]⟩
    · simp [keptV, List.getD_eq_getElem?_getD, List.getElem?_eq_getElem ht, et]
      simpa [List.getD_eq_getElem?_getD] using hn
    · have hj' : j < (keptF l l.length).length := by simpa [keptV] using hj
      have g : ∀ {j} (h : j < (keptF l l.length).length), (keptV l).getD j 0 = l.getD ((keptF l l.length)[j]) 0 := by
        intro j h
        simp [keptV, List.getD_eq_getElem?_getD, List.getElem?_eq_getElem h]
      have := h1 _ (keptF_get hj').1 (keptF_get hj').2.1
      unfold noWorse at this ⊢
      rw [g hj', g ht, et]
      have hle : t ≤ j ↔ i ≤ (keptF l l.length)[j] := by
        rcases Nat.lt_trichotomy t j with h | h | h
        · have := keptF_lt hj' h; omega
        · subst h; omega
        · have := keptF_lt ht h; omega
      rw [hle]
      exact this
end Go.Proofs.Ytllgkmacjncelaa
