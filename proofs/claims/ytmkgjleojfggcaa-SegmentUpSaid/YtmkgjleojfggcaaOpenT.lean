/-
  An argument of type []string, opened. Conditions: as each theorem states.
-/
import Derived.Test.YtmkgjleojfggcaaTexts
import Derived.Deep.Slices
import Derived.SliceStrings
import Derived.WideShapes
set_option linter.all false
namespace Go.Proofs.Ytmkgjleojfggcaa
open Go.RowKit Go.ChangeShapes Go.WideShapes Go.Deep
/-- from the reading of a slice of texts to the texts -/
theorem texts_of {H : Type} {enc : TypeId × Value → H} {W : World} {base : Nat} {held : Bool} {a0 : Option Addr} {len cap fuel : Nat} {x : DataW H × List MemPlace}
    (hsp : ∀ a, a0 = some a → a.spot = none) (hf : DataW.trod enc Try.prog W base (fun _ => true) held fuel 31 [.slice a0 len cap] = some x) :
    ∃ l, ReadT W (.slice a0 len cap) l ∧ l.length ≤ maxLen ∧ ∀ s ∈ l, s.size ≤ maxLen := by
  rcases open_strings Try.underlying31 Try.underlying9 (by kernel_rfl) hf with ⟨hcs, hx⟩ | ⟨a, len', cap', ss, hcs, hb, hl, hm, hmm, hx, hcell, hsz⟩
  · simp at hcs
    obtain ⟨rfl, rfl, rfl⟩ := hcs
    exact ⟨[], .inl ⟨rfl, rfl⟩, by simp, by simp⟩
  · simp at hcs
    obtain ⟨rfl, rfl, rfl⟩ := hcs
    simp only [if_true] at hmm
    have htl : (ss.take len).length = len := by rw [List.length_take]; omega
    refine ⟨ss.take len, ?_, by omega, fun s hs => hsz s (List.mem_of_mem_take hs)⟩
    obtain ⟨g, off, spot⟩ := a
    have hsp' : spot = none := hsp _ rfl
    subst hsp'
    refine .inr ⟨g, off, cap, by rw [htl], by omega, fun j hj => ?_⟩
    have hj' : j < ss.length := by omega
    have := hcell j hj'
    rw [Addr.add_lit] at this
    rw [this]
    simp [List.getD_eq_getElem?_getD, List.getElem?_eq_getElem hj']
theorem open_texts {H : Type} {enc : TypeId × Value → H} {W : World} {base : Nat} {held : Bool} {r : Reach} {b0 : Nat} {v : Value} {d : DataW H} {p : List MemPlace}
    (hval : Value.okWide Try.prog W r b0 31 v) (h : DataW.Trod enc Try.prog W base (fun _ => true) held 31 v d p) : ∃ l, ReadT W v l ∧ l.length ≤ maxLen ∧ ∀ s ∈ l, s.size ≤ maxLen := by
  obtain ⟨a0, len, cap, rfl⟩ := okWide_slice Try.underlying31 hval
  obtain ⟨fuel, hf⟩ := h
  simp only [Value.cells] at hf
  refine texts_of (fun a ha => ?_) hf
  subst ha
  simp only [Value.okWide, Try.underlying31, Cell.okWide] at hval
  simp only [Cell.ok, Try.underlying31] at hval
  have h1 := hval.2.2
  exact h1.2.1
end Go.Proofs.Ytmkgjleojfggcaa
