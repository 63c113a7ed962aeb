/-
  The contracts of ascii.Digit and of the document's Digit and Letter. Conditions: the base is from 1 to 36.
-/
import Derived.Test.YtmcjljjagfpkkaaLetter
set_option linter.all false
namespace Go.Proofs.Ytmcjljjagfpkkaa
open Go.RowKit

theorem ret_int {k : IntKind} {a b : Int} (h : a = b) : Ending.returned (.int k a) = .returned (.int k b) := by rw [h]
theorem ret_bool {a b : Bool} (h : a = b) : Ending.returned (.bool a) = .returned (.bool b) := by rw [h]
theorem ret_str {a b : List UInt8} (h : a = b) : Ending.returned (.string ⟨a.toArray⟩) = .returned (.string ⟨b.toArray⟩) := by rw [h]

def worth (c : UInt8) : Int :=
  if 48 ≤ (c.toNat : Int) ∧ (c.toNat : Int) ≤ 57 then (c.toNat : Int) - 48
  else if 97 ≤ (c.toNat : Int) ∧ (c.toNat : Int) ≤ 122 then (c.toNat : Int) - 97 + 10
  else if 65 ≤ (c.toNat : Int) ∧ (c.toNat : Int) ≤ 90 then (c.toNat : Int) - 65 + 10
  else -1
/-- P1.2: what a sign is worth as a digit of the base, or -1. -/
def digit (c : UInt8) (base : Int) : Int := if base ≤ worth c then -1 else worth c

theorem worth_bd (c : UInt8) : -1 ≤ worth c ∧ worth c ≤ 35 := by
  have := c.toNat_lt
  unfold worth
  repeat' split
  all_goals omega
theorem digit_bd (c : UInt8) (base : Int) (h : 1 ≤ base) : -1 ≤ digit c base ∧ digit c base < base := by
  have := worth_bd c
  unfold digit
  split <;> omega

theorem digit_calls (c : UInt8) (base : Int) (h1 : 1 ≤ base) (h2 : base ≤ 36) (w : World) :
    Calls Try.prog 21 #[.int .u8 (c.toNat : Int), .int .i64 base] w fun e w' => e = .returned (.int .i64 (digit c base)) ∧ w = w' := by
  have hlt : c.toNat < 256 := c.toNat_lt

  go_enter Try.func21, Try.ntmps21
  go_wp2
  all_goals go_ret
  all_goals refine ⟨ret_int ?_, rfl⟩
  all_goals (unfold digit worth; (repeat' split) <;> first | omega | rfl)
theorem refDigit_calls (c : UInt8) (base : Int) (h1 : 1 ≤ base) (h2 : base ≤ 36) (w : World) :
    Calls Try.prog 59 #[.int .u8 (c.toNat : Int), .int .i64 base] w fun e w' => e = .returned (.int .i64 (digit c base)) ∧ w = w' := by
  have hlt : c.toNat < 256 := c.toNat_lt

  go_enter Try.func59, Try.ntmps59
  go_wp2
  all_goals go_ret
  all_goals refine ⟨ret_int ?_, rfl⟩
  all_goals (unfold digit worth; (repeat' split) <;> first | omega | rfl)
theorem refLetter_calls (c : UInt8) (w : World) :
    Calls Try.prog 60 #[.int .u8 (c.toNat : Int)] w fun e w' => e = .returned (.bool (isLetter c)) ∧ w = w' := by
  have hlt := c.toNat_lt
  have hl : Hid (isLetter c = decide (65 ≤ (c.toNat : Int) ∧ (c.toNat : Int) ≤ 90 ∨ 97 ≤ (c.toNat : Int) ∧ (c.toNat : Int) ≤ 122)) := hid rfl
  go_enter Try.func60, Try.ntmps60
  go_wp2
  all_goals go_ret
  all_goals refine ⟨?_, rfl⟩
  all_goals (rw [hl.out]; simp; first | omega | (rw [Bool.eq_iff_iff]; simp; omega))
end Go.Proofs.Ytmcjljjagfpkkaa
