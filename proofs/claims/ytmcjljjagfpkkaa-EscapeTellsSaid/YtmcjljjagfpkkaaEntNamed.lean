/-
  The contracts of CutSuffix (of a ;) and of Named. Conditions: the text has at most 100000 bytes.
-/
import Derived.Test.YtmcjljjagfpkkaaEntBound
import Derived.Test.YtmcjljjagfpkkaaShelf
set_option linter.all false
namespace Go.Proofs.Ytmcjljjagfpkkaa
open Go.RowKit
theorem semi_suffix (l : List UInt8) : Lib.hasSuffix l [59] = (cutSemi l).2 := by
  unfold Lib.hasSuffix
  rcases cutSemi_cases l with ⟨hc, hn⟩ | ⟨r, hl, hc⟩
  · rw [hc]
    rw [Bool.eq_false_iff]
    intro e
    rw [List.isSuffixOf_iff_suffix] at e
    obtain ⟨r, hr⟩ := e
    exact hn (by rw [← hr]; simp)
  · rw [hc, hl]
    rw [List.isSuffixOf_iff_suffix]
    exact ⟨r, rfl⟩
theorem ext_listE (s : ByteArray) (i j : Nat) : (s.extract i j) = strB ((s.data.toList.drop i).take (j - i)) := by
  apply ByteArray.ext
  apply Array.toList_inj.1
  simp [strB, ByteArray.data_extract, List.extract_eq_take_drop]
set_option maxHeartbeats 2000000 in
theorem cutSuffixL_calls (s : ByteArray) (w : World) (hs : s.size ≤ 100000) :
    Calls Try.prog 52 #[.string s, .string ⟨#[59]⟩] w fun e w' => e = .returned (.tuple #[.string (strB (cutSemi s.data.toList).1), .bool (cutSemi s.data.toList).2]) ∧ w = w' := by
  have hsf := semi_suffix s.data.toList
  have hlen : s.data.toList.length = s.size := by simp
  have hk : ∀ w, Calls Try.prog 61 #[.string s, .string ⟨#[59]⟩] w fun e w' => e = .returned (.bool (cutSemi s.data.toList).2) ∧ w = w' := fun w => by
    refine (Try.stringslite_HasSuffix s ⟨#[59]⟩ w (by omega)).mono ?_
    rintro e w' ⟨rfl, rfl⟩
    exact ⟨by rw [← hsf], rfl⟩
  have h59 : (⟨#[59]⟩ : ByteArray).size = 1 := rfl
  have HK := hid hk
  clear hk hsf
  rcases cutSemi_cases s.data.toList with ⟨hc, hn⟩ | ⟨r, hl, hc⟩
  · rw [hc] at HK ⊢
    rw [strB_of]
    clear hc hn hlen
    go_enter Try.func52, Try.ntmps52
    go_wp2_with fail
    refine (HK.out w).mono ?_
    rintro e w' ⟨rfl, rfl⟩
    go_wp2_with fail
    go_ret2
    exact ⟨rfl, rfl⟩
  · rw [hc] at HK ⊢
    have hr : s.size = r.length + 1 := by rw [← hlen, hl]; simp
    have he : s.extract 0 r.length = strB r := by rw [ext_listE, hl]; simp
    have HE := hid he
    have HR := hid hr
    have hle : r.length ≤ s.size := by omega
    have e1 : IntKind.i64.wrap ((s.size : Int) - 1) = (r.length : Int) := by rw [IntWalk.i64_in _ (by omega)]; omega
    clear hc hl hlen he hr
    go_enter Try.func52, Try.ntmps52
    go_wp2_with fail
    refine (HK.out w).mono ?_
    rintro e w' ⟨rfl, rfl⟩
    go_wp2_with fail
    go_ret2
    exact ⟨by rw [← HE.out]; rfl, rfl⟩
theorem cutSuffix_calls (s : ByteArray) (w : World) (hs : s.size ≤ 100000) :
    Calls Try.prog 32 #[.string s, .string ⟨#[59]⟩] w fun e w' => e = .returned (.tuple #[.string (strB (cutSemi s.data.toList).1), .bool (cutSemi s.data.toList).2]) ∧ w = w' := by
  have HK := hid (fun w => cutSuffixL_calls s w hs)
  generalize cutSemi s.data.toList = c at *
  obtain ⟨c1, c2⟩ := c
  simp only [] at *
  go_enter Try.func32, Try.ntmps32
  go_wp2_with fail
  refine (HK.out w).mono ?_
  rintro e w' ⟨rfl, rfl⟩
  go_wp2_with fail
  go_ret2
  exact ⟨rfl, rfl⟩
set_option maxHeartbeats 2000000 in
theorem named_calls (s : ByteArray) (w : World) (hs : s.size ≤ 100000) :
    Calls Try.prog 14 #[.string s] w fun e w' => e = .returned (tellV (namedL s.data.toList)) ∧ Below w.heap.size w w' := by
  have hn : namedL s.data.toList = match lookT freeT (cutSemi s.data.toList).1 with | some t => some t | none => if (cutSemi s.data.toList).2 = true then lookT strictT (cutSemi s.data.toList).1 else none := rfl
  have HK := hid (fun w => cutSuffix_calls s w hs)
  generalize cutSemi s.data.toList = c at *
  obtain ⟨c1, c2⟩ := c
  simp only [] at hn HK
  have HF := hid (fun w => free_calls (strB c1) w)
  have HBd := hid (fun w => bound_calls (strB c1) w)
  rw [strB_list] at HF HBd
  unfold tellV at HF HBd
  have HN := hid hn
  clear hn
  cases hf : lookT freeT c1 with
  | some t =>
    have e1 : namedL s.data.toList = some t := by have := HN.out; rwa [hf] at this
    rw [hf] at HF
    rw [e1]
    unfold tellV
    simp only [Option.getD_some, Option.isSome_some] at *
    clear hf e1 HN
    go_enter Try.func14, Try.ntmps14
    go_wp2_with fail
    refine (HK.out w).mono ?_
    rintro e w' ⟨rfl, rfl⟩
    go_wp2_with fail
    refine (HF.out w).mono ?_
    rintro e w' ⟨rfl, rfl⟩
    go_wp2_with fail
    go_ret2
    exact ⟨rfl, Below.refl _ _⟩
  | none =>
    rw [hf] at HF
    cases c2 with
    | false =>
      have e1 : namedL s.data.toList = none := by have := HN.out; rwa [hf] at this
      rw [e1]
      unfold tellV
      simp only [Option.getD_none, Option.isSome_none] at *
      clear hf e1 HN
      go_enter Try.func14, Try.ntmps14
      go_wp2_with fail
      refine (HK.out w).mono ?_
      rintro e w' ⟨rfl, rfl⟩
      go_wp2_with fail
      refine (HF.out w).mono ?_
      rintro e w' ⟨rfl, rfl⟩
      go_wp2_with fail
      go_ret2
      exact ⟨rfl, Below.refl _ _⟩
    | true =>
      have e1 : namedL s.data.toList = lookT strictT c1 := by have := HN.out; rwa [hf] at this
      rw [e1]
      unfold tellV
      simp only [Option.getD_none, Option.isSome_none] at HF
      clear hf e1 HN
      go_enter Try.func14, Try.ntmps14
      go_wp2_with fail
      refine (HK.out w).mono ?_
      rintro e w' ⟨rfl, rfl⟩
      go_wp2_with fail
      refine (HF.out w).mono ?_
      rintro e w' ⟨rfl, rfl⟩
      go_wp2_with fail
      refine (HBd.out w).mono ?_
      rintro e w' ⟨rfl, hb⟩
      have HB := hid hb
      clear hb
      go_wp2_with fail
      go_ret2
      exact ⟨rfl, HB.out⟩
end Go.Proofs.Ytmcjljjagfpkkaa
