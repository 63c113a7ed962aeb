/-
  The contracts of percent.In and of the document's In: which bytes are in which sets. Conditions: none.
-/
import Derived.Test.YtmkgjleojfggcaaShelf
import Derived.Test.YtmkgjleojfggcaaDigit
set_option linter.all false
namespace Go.Proofs.Ytmkgjleojfggcaa
open Go.RowKit

def mem (l : List UInt8) (c : UInt8) : Bool := l.contains c
def ctl (c : UInt8) : Bool := decide ((c.toNat : Int) < 32) || decide (126 < (c.toNat : Int))
def sA : List UInt8 := [36, 37, 38, 43, 44]
def sB : List UInt8 := [47, 58, 59, 61, 64, 91, 92, 93, 124]
def sC : List UInt8 := [63, 94, 96, 123, 125]
def sD : List UInt8 := [32, 34, 35, 60, 62]
def sF : List UInt8 := [32, 34, 60, 62, 96]

/-- P3.1: is a byte in a set? -/
def inSet (set : Int) (c : UInt8) : Bool :=
  if set = 6 then mem sA c || (mem sB c || (mem sC c || (mem sD c || ctl c)))
  else if set = 5 then mem sB c || (mem sC c || (mem sD c || ctl c))
  else if set = 4 then mem sC c || (mem sD c || ctl c)
  else if set = 2 then mem sD c || ctl c
  else if set = 0 then ctl c
  else if set = 3 then decide (c.toNat = 39) || (mem sD c || ctl c)
  else if set = 1 then mem sF c || ctl c
  else false

theorem indexByte_mem (c : UInt8) : ∀ l : List UInt8, decide (0 ≤ Lib.indexByte l c) = mem l c
  | [] => rfl
  | b :: l => by
    have ih := indexByte_mem c l
    have hge := Lib.indexByte_ge l c
    unfold Lib.indexByte mem
    by_cases hb : b = c
    · subst hb; simp
    · have hcb : c ≠ b := fun e => hb e.symm
      unfold mem at ih
      by_cases h1 : Lib.indexByte l c = -1
      · simp [hb, hcb, h1] at ih ⊢; exact ih
      · have h2 : 0 ≤ Lib.indexByte l c := by omega
        have h3 : 0 ≤ Lib.indexByte l c + 1 := by omega
        simp [hb, hcb, h1, h2, h3] at ih ⊢; exact ih
theorem toUInt8_cast (c : UInt8) : ((c.toNat : Int)).toNat.toUInt8 = c := by simp

theorem among_calls (l : List UInt8) (c : UInt8) (w : World) :
    Calls Try.prog 61 #[.string ⟨l.toArray⟩, .int .u8 (c.toNat : Int)] w fun e w' => e = .returned (.bool (mem l c)) ∧ w = w' := by
  have hm := hid (indexByte_mem c l)
  have h1 : (⟨l.toArray⟩ : ByteArray).data.toList = l := by simp
  have hc : Calls Try.prog 58 #[.string ⟨l.toArray⟩, .int .u8 (c.toNat : Int)] w fun e w' => e = .returned (.int .i64 (Lib.indexByte l c)) ∧ w = w' := by
    refine (Try.strings_IndexByte ⟨l.toArray⟩ (c.toNat : Int) w).mono ?_
    rintro e w' ⟨rfl, rfl⟩
    rw [toUInt8_cast]
    exact ⟨rfl, rfl⟩
  have HC := hid hc
  clear hc h1
  go_enter Try.func61, Try.ntmps61
  go_wp2_with fail
  refine HC.out.mono ?_
  rintro e w' ⟨rfl, rfl⟩
  generalize Lib.indexByte l c = ix at *
  go_wp2
  go_ret
  exact ⟨by rw [← hm.out]; rfl, rfl⟩

theorem in_calls_6 (c : UInt8) (w : World) :
    Calls Try.prog 43 #[.int .i64 6, .int .u8 (c.toNat : Int)] w fun e w' => e = .returned (.bool (inSet 6 c)) ∧ w = w' := by
  have hlt : c.toNat < 256 := c.toNat_lt
  go_enter Try.func43, Try.ntmps43
  go_wp2_with (first | (go_at_call 61; refine (among_calls _ c _).mono ?_; rintro e w' ⟨rfl, rfl⟩))
  all_goals go_ret
  all_goals refine ⟨ret_bool ?_, rfl⟩
  all_goals (simp [inSet, sA, sB, sC, sD, sF, ctl, *]; try omega)
theorem in_calls_5 (c : UInt8) (w : World) :
    Calls Try.prog 43 #[.int .i64 5, .int .u8 (c.toNat : Int)] w fun e w' => e = .returned (.bool (inSet 5 c)) ∧ w = w' := by
  have hlt : c.toNat < 256 := c.toNat_lt
  go_enter Try.func43, Try.ntmps43
  go_wp2_with (first | (go_at_call 61; refine (among_calls _ c _).mono ?_; rintro e w' ⟨rfl, rfl⟩))
  all_goals go_ret
  all_goals refine ⟨ret_bool ?_, rfl⟩
  all_goals (simp [inSet, sA, sB, sC, sD, sF, ctl, *]; try omega)
theorem in_calls_4 (c : UInt8) (w : World) :
    Calls Try.prog 43 #[.int .i64 4, .int .u8 (c.toNat : Int)] w fun e w' => e = .returned (.bool (inSet 4 c)) ∧ w = w' := by
  have hlt : c.toNat < 256 := c.toNat_lt
  go_enter Try.func43, Try.ntmps43
  go_wp2_with (first | (go_at_call 61; refine (among_calls _ c _).mono ?_; rintro e w' ⟨rfl, rfl⟩))
  all_goals go_ret
  all_goals refine ⟨ret_bool ?_, rfl⟩
  all_goals (simp [inSet, sA, sB, sC, sD, sF, ctl, *]; try omega)
theorem in_calls_2 (c : UInt8) (w : World) :
    Calls Try.prog 43 #[.int .i64 2, .int .u8 (c.toNat : Int)] w fun e w' => e = .returned (.bool (inSet 2 c)) ∧ w = w' := by
  have hlt : c.toNat < 256 := c.toNat_lt
  go_enter Try.func43, Try.ntmps43
  go_wp2_with (first | (go_at_call 61; refine (among_calls _ c _).mono ?_; rintro e w' ⟨rfl, rfl⟩))
  all_goals go_ret
  all_goals refine ⟨ret_bool ?_, rfl⟩
  all_goals (simp [inSet, sA, sB, sC, sD, sF, ctl, *]; try omega)
theorem in_calls_0 (c : UInt8) (w : World) :
    Calls Try.prog 43 #[.int .i64 0, .int .u8 (c.toNat : Int)] w fun e w' => e = .returned (.bool (inSet 0 c)) ∧ w = w' := by
  have hlt : c.toNat < 256 := c.toNat_lt
  go_enter Try.func43, Try.ntmps43
  go_wp2_with (first | (go_at_call 61; refine (among_calls _ c _).mono ?_; rintro e w' ⟨rfl, rfl⟩))
  all_goals go_ret
  all_goals refine ⟨ret_bool ?_, rfl⟩
  all_goals (simp [inSet, sA, sB, sC, sD, sF, ctl, *]; try omega)
theorem in_calls_3 (c : UInt8) (w : World) :
    Calls Try.prog 43 #[.int .i64 3, .int .u8 (c.toNat : Int)] w fun e w' => e = .returned (.bool (inSet 3 c)) ∧ w = w' := by
  have hlt : c.toNat < 256 := c.toNat_lt
  by_cases hc : c.toNat = 39
  · have hf : Hid (inSet 3 c = true) := hid (by simp [inSet, hc])
    have hb : ((c.toNat : Int) == 39) = true := by simp; omega
    clear hc
    go_enter Try.func43, Try.ntmps43
    go_wp2_with fail
    all_goals go_ret
    all_goals exact ⟨by rw [hf.out]; rfl, rfl⟩
  · have hf : Hid (inSet 3 c = (mem sD c || ctl c)) := hid (by simp [inSet, hc])
    have hf2 : Hid (inSet 2 c = (mem sD c || ctl c)) := hid (by simp [inSet])
    have hb : ((c.toNat : Int) == 39) = false := by simp; omega
    clear hc
    go_enter Try.func43, Try.ntmps43
    go_wp2_with fail
    refine (in_calls_2 c _).mono ?_
    rintro e w' ⟨rfl, rfl⟩
    rw [hf2.out]
    generalize (mem sD c || ctl c) = x at *
    go_wp2_with fail
    all_goals go_ret
    all_goals exact ⟨by rw [hf.out]; rfl, rfl⟩
theorem in_calls_1 (c : UInt8) (w : World) :
    Calls Try.prog 43 #[.int .i64 1, .int .u8 (c.toNat : Int)] w fun e w' => e = .returned (.bool (inSet 1 c)) ∧ w = w' := by
  have hlt : c.toNat < 256 := c.toNat_lt
  go_enter Try.func43, Try.ntmps43
  go_wp2_with (first | (go_at_call 61; refine (among_calls _ c _).mono ?_; rintro e w' ⟨rfl, rfl⟩) | (go_at_call 43; refine (in_calls_0 c _).mono ?_; rintro e w' ⟨rfl, rfl⟩))
  all_goals go_ret
  all_goals refine ⟨ret_bool ?_, rfl⟩
  all_goals (simp [inSet, sA, sB, sC, sD, sF, ctl, *]; try omega)
theorem in_calls (set : Int) (c : UInt8) (w : World) :
    Calls Try.prog 43 #[.int .i64 set, .int .u8 (c.toNat : Int)] w fun e w' => e = .returned (.bool (inSet set c)) ∧ w = w' := by
  by_cases h6 : set = 6
  · subst h6; exact in_calls_6 c w
  by_cases h5 : set = 5
  · subst h5; exact in_calls_5 c w
  by_cases h4 : set = 4
  · subst h4; exact in_calls_4 c w
  by_cases h2 : set = 2
  · subst h2; exact in_calls_2 c w
  by_cases h0 : set = 0
  · subst h0; exact in_calls_0 c w
  by_cases h3 : set = 3
  · subst h3; exact in_calls_3 c w
  by_cases h1 : set = 1
  · subst h1; exact in_calls_1 c w
  have hf : Hid (inSet set c = false) := hid (by simp [inSet, h6, h5, h4, h3, h2, h1, h0])
  go_enter Try.func43, Try.ntmps43
  go_wp2
  all_goals go_ret
  all_goals exact ⟨by rw [hf.out]; rfl, rfl⟩
end Go.Proofs.Ytmkgjleojfggcaa
