/-
  The contracts of Drive and Normal, the program's and the document's. Conditions: none.
-/
import Derived.Test.YtmkgjleojfggcaaDigit
set_option linter.all false
namespace Go.Proofs.Ytmkgjleojfggcaa
open Go.RowKit

/-- P12.2: a drive. -/
def driveL : List UInt8 → Bool
  | [a, b] => isLetter a && ((b.toNat : Int) == 58 || (b.toNat : Int) == 124)
  | _ => false
def normalL : List UInt8 → Bool
  | [a, b] => isLetter a && ((b.toNat : Int) == 58 || (b.toNat : Int) == 124) && (b.toNat : Int) == 58
  | _ => false

theorem two_of {s : ByteArray} (h : s.size = 2) : ∃ a b, s = ⟨#[a, b]⟩ := by
  obtain ⟨⟨l⟩⟩ := s
  have h : l.length = 2 := h
  match l, h with
  | [a, b], _ => exact ⟨a, b, rfl⟩
theorem driveL_two {s : ByteArray} (h : s.size = 2) : driveL s.data.toList = (isLetter s[0] && (((s[1].toNat : Int) == 58) || ((s[1].toNat : Int) == 124))) := by
  obtain ⟨a, b, rfl⟩ := two_of h
  rfl
theorem normalL_two {s : ByteArray} (h : s.size = 2) : normalL s.data.toList = (driveL s.data.toList && ((s[1].toNat : Int) == 58)) := by
  obtain ⟨a, b, rfl⟩ := two_of h
  rfl
theorem driveL_ne {s : ByteArray} (h : s.size ≠ 2) : driveL s.data.toList = false := by
  obtain ⟨⟨l⟩⟩ := s
  have h : l.length ≠ 2 := h
  match l, h with
  | [], _ => rfl
  | [_], _ => rfl
  | [_, _], h => simp at h
  | _ :: _ :: _ :: _, _ => rfl
theorem normalL_ne {s : ByteArray} (h : s.size ≠ 2) : normalL s.data.toList = false := by
  obtain ⟨⟨l⟩⟩ := s
  have h : l.length ≠ 2 := h
  match l, h with
  | [], _ => rfl
  | [_], _ => rfl
  | [_, _], h => simp at h
  | _ :: _ :: _ :: _, _ => rfl
theorem size_ne {s : ByteArray} (h : s.size ≠ 2) : ((s.size : Int) == 2) = false := by simp; omega
theorem size_two {s : ByteArray} (h : s.size = 2) : ((s.size : Int) == 2) = true := by simp; omega

theorem drive_calls (s : ByteArray) (w : World) :
    Calls Try.prog 25 #[.string s] w fun e w' => e = .returned (.bool (driveL s.data.toList)) ∧ w = w' := by
  by_cases h : s.size = 2
  · have hd := hid (driveL_two h)
    have h2 := size_two h
    have hlt : (s[1]).toNat < 256 := s[1].toNat_lt
    rw [hd.out]
    clear hd
    generalize hL : isLetter s[0] = L
    have HL := hid hL
    clear hL
    go_enter Try.func25, Try.ntmps25
    go_wp2_with (go_at_call 50; refine (letter_calls _ _).mono ?_; rintro e w2 ⟨rfl, rfl⟩; rw [HL.out])
    all_goals go_ret
    all_goals refine ⟨ret_bool ?_, rfl⟩
    all_goals (simp_all)
  · rw [driveL_ne h]
    have h2 := size_ne h
    clear h
    go_enter Try.func25, Try.ntmps25
    go_wp2_with fail
    all_goals go_ret
    all_goals exact ⟨ret_bool rfl, rfl⟩
theorem refDrive_calls (s : ByteArray) (w : World) :
    Calls Try.prog 26 #[.string s] w fun e w' => e = .returned (.bool (driveL s.data.toList)) ∧ w = w' := by
  by_cases h : s.size = 2
  · have hd := hid (driveL_two h)
    have h2 := size_two h
    have hlt : (s[1]).toNat < 256 := s[1].toNat_lt
    rw [hd.out]
    clear hd
    generalize hL : isLetter s[0] = L
    have HL := hid hL
    clear hL
    go_enter Try.func26, Try.ntmps26
    go_wp2_with (go_at_call 57; refine (refLetter_calls _ _).mono ?_; rintro e w2 ⟨rfl, rfl⟩; rw [HL.out])
    all_goals go_ret
    all_goals refine ⟨ret_bool ?_, rfl⟩
    all_goals (simp_all)
  · rw [driveL_ne h]
    have h2 := size_ne h
    clear h
    go_enter Try.func26, Try.ntmps26
    go_wp2_with fail
    all_goals go_ret
    all_goals exact ⟨ret_bool rfl, rfl⟩
theorem normal_calls (s : ByteArray) (w : World) :
    Calls Try.prog 27 #[.string s] w fun e w' => e = .returned (.bool (normalL s.data.toList)) ∧ w = w' := by
  by_cases h : s.size = 2
  · have hd := hid (normalL_two h)
    have hlt : (s[1]).toNat < 256 := s[1].toNat_lt
    rw [hd.out]
    clear hd
    generalize hL : driveL s.data.toList = L
    have HL := hid hL
    clear hL
    go_enter Try.func27, Try.ntmps27
    go_wp2_with (go_at_call 25; refine (drive_calls _ _).mono ?_; rintro e w2 ⟨rfl, rfl⟩; rw [HL.out])
    all_goals go_ret
    all_goals refine ⟨ret_bool ?_, rfl⟩
    all_goals (simp_all)
  · rw [normalL_ne h]
    have HL := hid (driveL_ne h)
    clear h
    go_enter Try.func27, Try.ntmps27
    go_wp2_with (go_at_call 25; refine (drive_calls _ _).mono ?_; rintro e w2 ⟨rfl, rfl⟩; rw [HL.out])
    all_goals go_ret
    all_goals exact ⟨ret_bool rfl, rfl⟩
theorem refNormal_calls (s : ByteArray) (w : World) :
    Calls Try.prog 28 #[.string s] w fun e w' => e = .returned (.bool (normalL s.data.toList)) ∧ w = w' := by
  by_cases h : s.size = 2
  · have hd := hid (normalL_two h)
    have hlt : (s[1]).toNat < 256 := s[1].toNat_lt
    rw [hd.out]
    clear hd
    generalize hL : driveL s.data.toList = L
    have HL := hid hL
    clear hL
    go_enter Try.func28, Try.ntmps28
    go_wp2_with (go_at_call 26; refine (refDrive_calls _ _).mono ?_; rintro e w2 ⟨rfl, rfl⟩; rw [HL.out])
    all_goals go_ret
    all_goals refine ⟨ret_bool ?_, rfl⟩
    all_goals (simp_all)
  · rw [normalL_ne h]
    have HL := hid (driveL_ne h)
    clear h
    go_enter Try.func28, Try.ntmps28
    go_wp2_with (go_at_call 26; refine (refDrive_calls _ _).mono ?_; rintro e w2 ⟨rfl, rfl⟩; rw [HL.out])
    all_goals go_ret
    all_goals exact ⟨ret_bool rfl, rfl⟩
end Go.Proofs.Ytmkgjleojfggcaa
