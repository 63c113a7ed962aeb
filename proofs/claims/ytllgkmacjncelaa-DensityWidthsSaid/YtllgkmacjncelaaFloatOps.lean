/-
  Floats in a walk: comparisons as Bools on bits, slices of floats, math.IsNaN. Conditions: as each theorem states.
-/
import Derived.Test.YtllgkmacjncelaaBytes
import Derived.Test.YtllgkmacjncelaaDensPlain
import Derived.WalkLawsBesides
set_option linter.all false
namespace Go.Proofs.Ytllgkmacjncelaa
open Go.RowKit
def fLt (x y : Nat) : Bool := Ieee.double.order x y == some .lt
def fGt (x y : Nat) : Bool := Ieee.double.order x y == some .gt
def fEq (x y : Nat) : Bool := Ieee.double.order x y == some .eq
def fNe (x y : Nat) : Bool := Ieee.double.order x y != some .eq
def fGe (x y : Nat) : Bool := Ieee.double.order x y == some .gt || Ieee.double.order x y == some .eq
def fLe (x y : Nat) : Bool := Ieee.double.order x y == some .lt || Ieee.double.order x y == some .eq
theorem ord_lt (x y : Nat) : (FloatKind.f64.format.order x y == some Ordering.lt) = fLt x y := rfl
theorem ord_gt (x y : Nat) : (FloatKind.f64.format.order x y == some Ordering.gt) = fGt x y := rfl
theorem ord_eq (x y : Nat) : (FloatKind.f64.format.order x y == some Ordering.eq) = fEq x y := rfl
theorem ord_ne (x y : Nat) : (FloatKind.f64.format.order x y != some Ordering.eq) = fNe x y := rfl
theorem ord_ge (x y : Nat) : (fGt x y || fEq x y) = fGe x y := rfl
theorem ord_le (x y : Nat) : (fLt x y || fEq x y) = fLe x y := rfl
theorem cmp_eqv {a b : Int} (h : a = b) : compare a b = .eq := by simp only [compare, compareOfLessAndEq]; rw [if_neg (by omega), if_pos h]
theorem fLt_eq (x y : Nat) : fLt x y = (!fNaN x && !fNaN y && decide (rk x < rk y)) := by
  unfold fLt
  cases hx : fNaN x
  · cases hy : fNaN y
    · rw [order_rk x y hx hy]
      rcases Int.lt_trichotomy (rk x) (rk y) with h | h | h
      · rw [cmp_lt h]; simp [h]
      · rw [cmp_eqv h]; simp [h]
      · rw [cmp_gt h]; simp; omega
    · rw [order_nanR x y hy]; simp
  · rw [order_nanL x y hx]; simp
theorem fGt_eq (x y : Nat) : fGt x y = (!fNaN x && !fNaN y && decide (rk y < rk x)) := by
  unfold fGt
  cases hx : fNaN x
  · cases hy : fNaN y
    · rw [order_rk x y hx hy]
      rcases Int.lt_trichotomy (rk x) (rk y) with h | h | h
      · rw [cmp_lt h]; simp; omega
      · rw [cmp_eqv h]; simp [h]
      · rw [cmp_gt h]; simp [h]
    · rw [order_nanR x y hy]; simp
  · rw [order_nanL x y hx]; simp
theorem fEq_eq (x y : Nat) : fEq x y = (!fNaN x && !fNaN y && decide (rk x = rk y)) := by
  unfold fEq
  cases hx : fNaN x
  · cases hy : fNaN y
    · rw [order_rk x y hx hy]
      rcases Int.lt_trichotomy (rk x) (rk y) with h | h | h
      · rw [cmp_lt h]; simp; omega
      · rw [cmp_eqv h]; simp [h]
      · rw [cmp_gt h]; simp; omega
    · rw [order_nanR x y hy]; simp
  · rw [order_nanL x y hx]; simp
theorem fNe_eq (x y : Nat) : fNe x y = !fEq x y := rfl
theorem fGe_eq (x y : Nat) : fGe x y = (!fNaN x && !fNaN y && decide (rk y ≤ rk x)) := by
  have h1 := fGt_eq x y
  have h2 := fEq_eq x y
  unfold fGt at h1; unfold fEq at h2
  unfold fGe
  rw [h1, h2]
  cases fNaN x <;> cases fNaN y <;> simp
  rw [Bool.eq_iff_iff]; simp; omega
theorem fLe_eq (x y : Nat) : fLe x y = (!fNaN x && !fNaN y && decide (rk x ≤ rk y)) := by
  have h1 := fLt_eq x y
  have h2 := fEq_eq x y
  unfold fLt at h1; unfold fEq at h2
  unfold fLe
  rw [h1, h2]
  cases fNaN x <;> cases fNaN y <;> simp
  rw [Bool.eq_iff_iff]; simp; omega
theorem fNe_self (x : Nat) : fNe x x = fNaN x := by rw [fNe_eq, fEq_eq]; cases fNaN x <;> simp

/-- The slice value v reads as the floats l. -/
def ReadF (w : World) (v : Value) (l : List Nat) : Prop :=
  (v = .slice none 0 0 ∧ l = []) ∨
  ∃ g off c, v = .slice (some ⟨g, off, none⟩) l.length c ∧ l.length ≤ c ∧ ∀ j (h : j < l.length), w.cell? ⟨g, off + j, none⟩ = some (.float .f64 l[j])
theorem ReadF.len {w : World} {v : Value} {l : List Nat} (h : ReadF w v l) : ∃ a c, v = .slice a l.length c ∧ l.length ≤ c := by
  rcases h with ⟨rfl, rfl⟩ | ⟨g, off, c, rfl, hc, _⟩
  · exact ⟨none, 0, rfl, Nat.le_refl _⟩
  · exact ⟨_, c, rfl, hc⟩
theorem ReadF.below {w w' : World} {v : Value} {l : List Nat} (h : ReadF w v l) (hb : Below w.heap.size w w') : ReadF w' v l := by
  rcases h with h | ⟨g, off, c, hv, hc, hcell⟩
  · exact .inl h
  · refine .inr ⟨g, off, c, hv, hc, fun j hj => ?_⟩
    have h1 := hcell j hj
    have hg : g < w.heap.size := by
      rcases Nat.lt_or_ge g w.heap.size with hlt | hge
      · exact hlt
      · simp [World.cell?, Array.getElem?_eq_none hge] at h1
    exact (hb.cell (p := ⟨g, off + j, none⟩) hg).trans h1
theorem ReadF.cellAt {w : World} {A : Option Addr} {n c k : Nat} {l : List Nat} (h : ReadF w (.slice A n c) l) (hk : k < l.length) :
    ∃ g off, A = some ⟨g, off, none⟩ ∧ ∀ i, i < l.length → w.cell? ⟨g, off + i, none⟩ = some (.float .f64 (l.getD i 0)) := by
  rcases h with ⟨h, rfl⟩ | ⟨g, off, c', hv, hc, hcell⟩
  · simp at hk
  · injection hv with h1 h2 h3
    refine ⟨g, off, h1, fun i hi => ?_⟩
    rw [hcell i hi, List.getD_eq_getElem?_getD, List.getElem?_eq_getElem hi]; rfl

theorem isNaN_calls (x : Nat) (w : World) : Calls Try.prog 22 #[.float .f64 x] w fun e w' => e = .returned (.bool (fNaN x)) ∧ w = w' := by
  have h1 := ord_ne
  go_enter Try.func22, Try.ntmps22
  go_wp2_with fail
  go_ret
  exact ⟨by rw [fNe_self]; rfl, rfl⟩
end Go.Proofs.Ytllgkmacjncelaa
