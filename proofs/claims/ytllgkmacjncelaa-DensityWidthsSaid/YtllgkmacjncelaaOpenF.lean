/-
  An argument of type []float64, opened. Conditions: as each theorem states.
-/
import Derived.Test.YtllgkmacjncelaaFloatOps
import Derived.Deep.Slices
import Derived.Laws.Cover2
import Derived.SliceStrings
set_option linter.all false
namespace Go.Proofs.Ytllgkmacjncelaa
open Go.RowKit Go.ChangeShapes Go.WideShapes Go.Deep
theorem trod_flt {H : Type} {enc : TypeId × Value → H} {w : World} {base : Nat} {sp : Nat → Bool} {held : Bool} {n : Nat} {v : Value} {x : DataW H × List MemPlace}
    (h : DataW.trod enc Try.prog w base sp held n 30 [v] = some x) : ∃ b, v = .float .f64 b ∧ b < 2 ^ 64 := by
  cases n with
  | zero => simp [DataW.trod] at h
  | succ n =>
    simp only [DataW.trod, Try.underlying30] at h
    cases v <;> simp at h
    rename_i k b
    cases k <;> simp [Lit.wf] at h
    exact ⟨b, rfl, h.1⟩
theorem open_flts {H : Type} {enc : TypeId × Value → H} {W : World} {base : Nat} {held : Bool} {r : Reach} {b0 : Nat} {v : Value} {d : DataW H} {p : List MemPlace}
    (hval : Value.okWide Try.prog W r b0 29 v) (h : DataW.Trod enc Try.prog W base (fun _ => true) held 29 v d p) : ∃ l, ReadF W v l ∧ ∀ x ∈ l, x < 2 ^ 64 := by
  obtain ⟨a0, len, cap, rfl⟩ := okWide_slice Try.underlying29 hval
  obtain ⟨fuel, hf⟩ := h
  rcases open_slice1 Try.underlying29 (by kernel_rfl) hf with ⟨hcs, hx⟩ | ⟨a, len', cap', m, n, V, D, Pl, hcs, hb, hl, hm, hmm, hx, hcell⟩
  · simp [Value.cells] at hcs
    obtain ⟨rfl, rfl, rfl⟩ := hcs
    exact ⟨[], .inl ⟨rfl, rfl⟩, by simp⟩
  · simp [Value.cells] at hcs
    obtain ⟨rfl, rfl, rfl⟩ := hcs
    simp only [if_true] at hmm
    subst hmm
    obtain ⟨B, hB⟩ := choose_lt (α := Nat) (p := fun i b => V i = .float .f64 b ∧ b < 2 ^ 64) (fun i hi => trod_flt (hcell i hi).2)
    refine ⟨(List.range len).map B, ?_, ?_⟩
    · obtain ⟨g, off, spot⟩ := a
      have hsp : spot = none := by
        simp only [Value.okWide, Try.underlying29, Cell.okWide] at hval
        simp only [Cell.ok, Try.underlying29] at hval
        have h1 := hval.2.2
        exact h1.2.1
      subst hsp
      refine .inr ⟨g, off, m, by simp, by simpa using hl, fun j hj => ?_⟩
      have hj' : j < len := by simpa using hj
      have := (hcell j (by omega)).1
      rw [(hB j (by omega)).1] at this
      rw [Addr.add_lit] at this
      simpa using this
    · intro x hx
      obtain ⟨i, hi, rfl⟩ := List.mem_map.1 hx
      have hi' : i < len := by simpa using hi
      exact (hB i (by omega)).2
end Go.Proofs.Ytllgkmacjncelaa
