/-
  The contracts of Special and Port, the program's and the document's. Conditions: none.
-/
import Derived.Test.YtmkgjleojfggcaaDigit
set_option linter.all false
namespace Go.Proofs.Ytmkgjleojfggcaa
open Go.RowKit

def special (s : ByteArray) : Bool :=
  s.toList == [102, 116, 112] || (s.toList == [102, 105, 108, 101] || (s.toList == [104, 116, 116, 112] || (s.toList == [104, 116, 116, 112, 115] || (s.toList == [119, 115] || s.toList == [119, 115, 115]))))
theorem special_calls (s : ByteArray) (w : World) :
    Calls Try.prog 23 #[.string s] w fun e w' => e = .returned (.bool (special s)) ∧ w = w' := by
  go_enter Try.func23, Try.ntmps23
  go_wp2
  all_goals go_ret
  all_goals refine ⟨ret_bool ?_, rfl⟩
  all_goals (simp_all [special, Bool.or_assoc])
theorem refSpecial_calls (s : ByteArray) (w : World) :
    Calls Try.prog 24 #[.string s] w fun e w' => e = .returned (.bool (special s)) ∧ w = w' := by
  go_enter Try.func24, Try.ntmps24
  go_wp2
  all_goals go_ret
  all_goals refine ⟨ret_bool ?_, rfl⟩
  all_goals (simp_all [special, Bool.or_assoc])
def portOf (s : ByteArray) : Int × Bool :=
  if s.toList == [102, 116, 112] then (21, true) else if s.toList == [104, 116, 116, 112] then (80, true) else if s.toList == [119, 115] then (80, true)
  else if s.toList == [104, 116, 116, 112, 115] then (443, true) else if s.toList == [119, 115, 115] then (443, true) else (0, false)
theorem port_calls (s : ByteArray) (w : World) :
    Calls Try.prog 21 #[.string s] w fun e w' => e = .returned (.tuple #[.int .i64 (portOf s).1, .bool (portOf s).2]) ∧ w = w' := by
  go_enter Try.func21, Try.ntmps21
  go_wp2
  all_goals go_ret2
  all_goals refine ⟨?_, rfl⟩
  all_goals (simp_all [portOf])
theorem refPort_calls (s : ByteArray) (w : World) :
    Calls Try.prog 22 #[.string s] w fun e w' => e = .returned (.tuple #[.int .i64 (portOf s).1, .bool (portOf s).2]) ∧ w = w' := by
  go_enter Try.func22, Try.ntmps22
  go_wp2
  all_goals go_ret2
  all_goals refine ⟨?_, rfl⟩
  all_goals (simp_all [portOf])
end Go.Proofs.Ytmkgjleojfggcaa
