/-
  The contracts of Starts, the program's and the document's. Conditions: none.
-/
import Derived.Test.YtmkgjleojfggcaaRecDrive
import Derived.Test.YtmkgjleojfggcaaRecDot
import Derived.Test.YtmkgjleojfggcaaPctIn
set_option linter.all false
namespace Go.Proofs.Ytmkgjleojfggcaa
open Go.RowKit

def slashL (c : UInt8) : Bool := ((c.toNat : Int) == 47) || (((c.toNat : Int) == 92) || (((c.toNat : Int) == 63) || ((c.toNat : Int) == 35)))
/-- P12.2: does a drive stand at the beginning? -/
def startsL (l : List UInt8) : Bool := driveL (l.take 2) && (match l.drop 2 with | [] => true | c :: _ => slashL c)

theorem slash_fin : ∀ i : Fin 256, decide (0 ≤ Lib.indexByte [47, 92, 63, 35] (UInt8.ofNat i.val)) = slashL (UInt8.ofNat i.val) := by decide +kernel
theorem slash_ix (c : UInt8) : decide (0 ≤ Lib.indexByte [47, 92, 63, 35] c) = slashL c := by
  have h := slash_fin ⟨c.toNat, c.toNat_lt⟩
  rwa [show UInt8.ofNat (⟨c.toNat, c.toNat_lt⟩ : Fin 256).val = c by simp] at h

theorem startsL_lt {s : ByteArray} (h : s.size < 2) : startsL s.data.toList = false := by
  have hl : s.data.toList.length < 2 := by simpa using h
  unfold startsL
  match s.data.toList, hl with
  | [], _ => rfl
  | [_], _ => rfl
theorem startsL_two {s : ByteArray} (h : s.size = 2) : startsL s.data.toList = driveL (s.data.toList.take 2) := by
  have hl : s.data.toList.length = 2 := by simpa using h
  unfold startsL
  match s.data.toList, hl with
  | [_, _], _ => simp
theorem startsL_gt {s : ByteArray} (h : 2 < s.size) : startsL s.data.toList = (driveL (s.data.toList.take 2) && slashL s[2]) := by
  obtain ⟨⟨l⟩⟩ := s
  have hl : 2 < l.length := h
  match l, hl with
  | a :: b :: c :: r, _ => rfl

theorem index_slash (c : UInt8) (w : World) :
    Calls Try.prog 58 #[.string ⟨#[47, 92, 63, 35]⟩, .int .u8 (c.toNat : Int)] w fun e w' => ∃ i : Int, e = .returned (.int .i64 i) ∧ decide (0 ≤ i) = slashL c ∧ w = w' := by
  refine (Try.strings_IndexByte ⟨#[47, 92, 63, 35]⟩ (c.toNat : Int) w).mono ?_
  rintro e w' ⟨rfl, rfl⟩
  rw [toUInt8_cast]
  exact ⟨_, rfl, slash_ix c, rfl⟩

set_option maxHeartbeats 1000000 in
theorem starts_calls (s : ByteArray) (w : World) :
    Calls Try.prog 29 #[.string s] w fun e w' => e = .returned (.bool (startsL s.data.toList)) ∧ w = w' := by
  by_cases h1 : s.size < 2
  · rw [startsL_lt h1]
    go_enter Try.func29, Try.ntmps29
    go_wp2_with fail
    all_goals go_ret
    all_goals exact ⟨ret_bool rfl, rfl⟩
  have hx : Hid ((s.extract 0 2).data.toList = s.data.toList.take 2) := hid (by rw [ext_list]; simp)
  have hge : 2 ≤ s.size := by omega
  clear h1
  by_cases h2 : s.size = 2
  · have hs := hid (startsL_two h2)
    have hsz := size_two h2
    rw [hs.out]
    cases hd : driveL (s.data.toList.take 2) with
    | true =>
      have HD := hid hd
      clear hd
      go_enter Try.func29, Try.ntmps29
      go_wp2_with fail
      refine (drive_calls _ _).mono ?_
      rintro e w2 ⟨rfl, rfl⟩
      rw [hx.out, HD.out]
      go_wp2_with fail
      all_goals go_ret
      all_goals exact ⟨ret_bool (by first | rfl | simp), rfl⟩
    | false =>
      have HD := hid hd
      clear hd
      go_enter Try.func29, Try.ntmps29
      go_wp2_with fail
      refine (drive_calls _ _).mono ?_
      rintro e w2 ⟨rfl, rfl⟩
      rw [hx.out, HD.out]
      go_wp2_with fail
      all_goals go_ret
      all_goals exact ⟨ret_bool (by first | rfl | simp), rfl⟩
  · have h3 : 2 < s.size := by omega
    have hs := hid (startsL_gt h3)
    have hsz := size_ne h2
    rw [hs.out]
    clear h2 hge
    have hlt : (s[2]).toNat < 256 := s[2].toNat_lt
    cases hd : driveL (s.data.toList.take 2) with
    | true =>
      have HD := hid hd
      clear hd
      go_enter Try.func29, Try.ntmps29
      go_wp2_with fail
      refine (drive_calls _ _).mono ?_
      rintro e w2 ⟨rfl, rfl⟩
      rw [hx.out, HD.out]
      go_wp2_with fail
      refine (index_slash _ _).mono ?_
      rintro e w2 ⟨i, rfl, hi, rfl⟩
      have HI := hid hi
      clear hi
      go_wp2_with fail
      all_goals go_ret
      all_goals exact ⟨ret_bool (by rw [← HI.out]; simp), rfl⟩
    | false =>
      have HD := hid hd
      clear hd
      go_enter Try.func29, Try.ntmps29
      go_wp2_with fail
      refine (drive_calls _ _).mono ?_
      rintro e w2 ⟨rfl, rfl⟩
      rw [hx.out, HD.out]
      go_wp2_with fail
      all_goals go_ret
      all_goals exact ⟨ret_bool (by first | rfl | simp), rfl⟩

set_option maxHeartbeats 1000000 in
theorem refStarts_calls (s : ByteArray) (w : World) :
    Calls Try.prog 30 #[.string s] w fun e w' => e = .returned (.bool (startsL s.data.toList)) ∧ w = w' := by
  by_cases h1 : s.size < 2
  · rw [startsL_lt h1]
    go_enter Try.func30, Try.ntmps30
    go_wp2_with fail
    all_goals go_ret
    all_goals exact ⟨ret_bool rfl, rfl⟩
  have hx : Hid ((s.extract 0 2).data.toList = s.data.toList.take 2) := hid (by rw [ext_list]; simp)
  have hge : 2 ≤ s.size := by omega
  clear h1
  by_cases h2 : s.size = 2
  · have hs := hid (startsL_two h2)
    have hsz := size_two h2
    rw [hs.out]
    cases hd : driveL (s.data.toList.take 2) with
    | true =>
      have HD := hid hd
      clear hd
      go_enter Try.func30, Try.ntmps30
      go_wp2_with fail
      refine (refDrive_calls _ _).mono ?_
      rintro e w2 ⟨rfl, rfl⟩
      rw [hx.out, HD.out]
      go_wp2_with fail
      all_goals go_ret
      all_goals exact ⟨ret_bool (by first | rfl | simp), rfl⟩
    | false =>
      have HD := hid hd
      clear hd
      go_enter Try.func30, Try.ntmps30
      go_wp2_with fail
      refine (refDrive_calls _ _).mono ?_
      rintro e w2 ⟨rfl, rfl⟩
      rw [hx.out, HD.out]
      go_wp2_with fail
      all_goals go_ret
      all_goals exact ⟨ret_bool (by first | rfl | simp), rfl⟩
  · have h3 : 2 < s.size := by omega
    have hs := hid (startsL_gt h3)
    have hsz := size_ne h2
    rw [hs.out]
    clear h2 hge
    have hlt : (s[2]).toNat < 256 := s[2].toNat_lt
    have HS : Hid (slashL s[2] = (((s[2].toNat : Int) == 47) || (((s[2].toNat : Int) == 92) || (((s[2].toNat : Int) == 63) || ((s[2].toNat : Int) == 35))))) := hid rfl
    cases hd : driveL (s.data.toList.take 2) with
    | true =>
      have HD := hid hd
      clear hd
      go_enter Try.func30, Try.ntmps30
      go_wp2_with fail
      refine (refDrive_calls _ _).mono ?_
      rintro e w2 ⟨rfl, rfl⟩
      rw [hx.out, HD.out]
      go_wp2_with fail
      all_goals go_ret
      all_goals refine ⟨ret_bool ?_, rfl⟩
      all_goals rw [HS.out]
      all_goals simp_all [Bool.or_assoc]
    | false =>
      have HD := hid hd
      clear hd
      go_enter Try.func30, Try.ntmps30
      go_wp2_with fail
      refine (refDrive_calls _ _).mono ?_
      rintro e w2 ⟨rfl, rfl⟩
      rw [hx.out, HD.out]
      go_wp2_with fail
      all_goals go_ret
      all_goals exact ⟨ret_bool (by first | rfl | simp), rfl⟩
end Go.Proofs.Ytmkgjleojfggcaa
