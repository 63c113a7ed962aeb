/-
  The contract of ascii.Letter: is a byte one of A to Z or a to z. Conditions: none.
-/
import Derived.Test.YtmcjljjagfpkkaaChecked
import Derived.Test.YtmcjljjagfpkkaaBase
set_option linter.all false
namespace Go.Proofs.Ytmcjljjagfpkkaa
open Go.RowKit

/-- Is a byte a letter? -/
def isLetter (c : UInt8) : Bool := decide (65 ≤ (c.toNat : Int) ∧ (c.toNat : Int) ≤ 90 ∨ 97 ≤ (c.toNat : Int) ∧ (c.toNat : Int) ≤ 122)

theorem u8_of {n : Int} (h : (Lit.int .u8 n).wf = true) : ∃ c : UInt8, n = (c.toNat : Int) := by
  have hx : 0 ≤ n ∧ n ≤ 255 := by simpa [Lit.wf, IntKind.min, IntKind.max, IntKind.signed, IntKind.bits] using h
  exact ⟨UInt8.ofNat n.toNat, by rw [UInt8.toNat_ofNat_of_lt' (by show n.toNat < 256; omega)]; omega⟩

theorem letter_calls (c : UInt8) (w : World) :
    Calls Try.prog 22 #[.int .u8 (c.toNat : Int)] w fun e w' => e = .returned (.bool (isLetter c)) ∧ w = w' := by
  have hlt := c.toNat_lt
  have hl : Hid (isLetter c = decide (65 ≤ (c.toNat : Int) ∧ (c.toNat : Int) ≤ 90 ∨ 97 ≤ (c.toNat : Int) ∧ (c.toNat : Int) ≤ 122)) := hid rfl
  go_enter Try.func22, Try.ntmps22
  go_wp2
  all_goals go_ret
  all_goals refine ⟨?_, rfl⟩
  all_goals (rw [hl.out]; simp; first | omega | (rw [Bool.eq_iff_iff]; simp; omega))
end Go.Proofs.Ytmcjljjagfpkkaa
