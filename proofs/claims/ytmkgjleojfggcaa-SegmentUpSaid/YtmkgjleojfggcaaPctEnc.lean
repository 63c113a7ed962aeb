/-
  The contract of percent.Encode: a text with the bytes of the set encoded. Conditions: the text has at most 5000 bytes.
-/
import Derived.Test.YtmkgjleojfggcaaRefPctIn
import Derived.Test.YtmkgjleojfggcaaBuilder
set_option linter.all false
namespace Go.Proofs.Ytmkgjleojfggcaa
open Go.RowKit

def hexTab : List UInt8 := [48, 49, 50, 51, 52, 53, 54, 55, 56, 57, 65, 66, 67, 68, 69, 70]
def hexD (n : Nat) : UInt8 := hexTab.getD n 0
/-- P3.2, of a byte. -/
def enc1 (set : Int) (c : UInt8) : List UInt8 := if inSet set c then [37, hexD (c.toNat / 16), hexD (c.toNat % 16)] else [c]
def encL (set : Int) (l : List UInt8) : List UInt8 := l.flatMap (enc1 set)

theorem encL_nil (set : Int) : encL set [] = [] := rfl
theorem encL_snoc (set : Int) (l : List UInt8) (c : UInt8) : encL set (l ++ [c]) = encL set l ++ enc1 set c := by simp [encL]
theorem encL_append (set : Int) (a b : List UInt8) : encL set (a ++ b) = encL set a ++ encL set b := by simp [encL]
theorem enc1_yes {set : Int} {c : UInt8} (h : inSet set c = true) : enc1 set c = [37, hexD (c.toNat / 16), hexD (c.toNat % 16)] := by simp [enc1, h]
theorem enc1_no {set : Int} {c : UInt8} (h : inSet set c = false) : enc1 set c = [c] := by simp [enc1, h]
theorem enc1_len (set : Int) (c : UInt8) : (enc1 set c).length ≤ 3 := by unfold enc1; split <;> simp
theorem encL_len (set : Int) (l : List UInt8) : (encL set l).length ≤ 3 * l.length := by
  induction l with
  | nil => simp [encL]
  | cons c l ih =>
    have := enc1_len set c
    simp only [encL, List.flatMap_cons, List.length_append, List.length_cons] at ih ⊢
    omega

theorem take_snocB (s : ByteArray) (k : Nat) (h : k < s.size) : s.data.toList.take (k + 1) = s.data.toList.take k ++ [s[k]] := by
  rw [List.take_succ_eq_append_getElem (by simpa using h)]; rfl
theorem take_len (s : ByteArray) (k : Nat) (h : k ≤ s.size) : (s.data.toList.take k).length = k := by
  rw [List.length_take]; simp; omega
theorem take_all (s : ByteArray) : s.data.toList.take s.size = s.data.toList := List.take_of_length_le (by simp)

theorem hexget (i : Nat) (h : i < 16) : (((⟨#[48, 49, 50, 51, 52, 53, 54, 55, 56, 57, 65, 66, 67, 68, 69, 70]⟩ : ByteArray)[i]'h).toNat : Int) = ((hexD i).toNat : Int) := by
  have : (⟨#[48, 49, 50, 51, 52, 53, 54, 55, 56, 57, 65, 66, 67, 68, 69, 70]⟩ : ByteArray)[i]'h = hexD i := by
    show (hexTab.toArray)[i]'h = _
    unfold hexD
    simp [List.getD_eq_getElem?_getD, List.getElem?_eq_getElem (show i < hexTab.length from h)]
    rfl
  rw [this]

theorem string_calls (w : World) (B b : Nat) (l : List UInt8) (h : Bld w B b l) (hBw : B ≤ w.heap.size) :
    Calls Try.prog 64 #[.pointer (some ⟨b, 0, none⟩)] w fun e w' => e = .returned (.string ⟨l.toArray⟩) ∧ Below B w w' :=
  Try.Builder_String_any B b l w h hBw

set_option maxHeartbeats 1000000 in
theorem encode_calls (s : ByteArray) (set : Int) (w : World) (hs : s.size ≤ 5000) :
    Calls Try.prog 45 #[.string s, .int .i64 set] w fun e w' => e = .returned (.string ⟨(encL set s.data.toList).toArray⟩) ∧ Below w.heap.size w w' := by
  have hb0 := Bld.fresh w
  have hbel0 : Below w.heap.size w (w.alloc (.cells #[.pointer none, .slice none 0 0] 66)) := (Below.refl _ _).alloc (Nat.le_refl _) _
  have HB0 := hid hb0
  clear hb0
  go_enter Try.func45, Try.ntmps45
  go_wp2
  go_loopw [10] (fun i wr => ∃ k : Nat, k ≤ s.size ∧ i = .int .i64 k ∧ Bld wr w.heap.size w.heap.size (encL set (s.data.toList.take k)) ∧ Below w.heap.size w wr) (fun i _ => s.size - (intOf i).toNat)
  case atStart => exact ⟨0, Nat.zero_le _, rfl, HB0.out, hbel0⟩
  case round =>
    obtain ⟨k, hk, rfl, hbl, hbw⟩ := hrel
    have HBL := hid hbl
    clear hbl hbel0
    have hbs := hbw.size
    by_cases hlt : k < s.size
    · have hn : Hid (encL set (s.data.toList.take (k + 1)) = encL set (s.data.toList.take k) ++ enc1 set s[k]) := hid (by rw [take_snocB s k hlt, encL_snoc])
      have hll : (encL set (s.data.toList.take k)).length ≤ 100000 := by have := encL_len set (s.data.toList.take k); rw [take_len s k hk] at this; omega
      have hx1 : (s[k]).toNat < 256 := s[k].toNat_lt
      cases hi : inSet set s[k] with
      | false =>
        have HI := hid hi
        go_wp2_with fail
        refine (in_calls set s[k] _).mono ?_
        rintro e w1 ⟨rfl, rfl⟩
        rw [hi]
        clear hi
        go_wp2_with fail
        refine (write_calls wr w.heap.size w.heap.size _ s[k] rfl HBL.out (by omega) hbs).mono ?_
        rintro e w2 ⟨rfl, hb2, hbel2⟩
        have HB2 := hid hb2
        clear hb2
        go_wp2_with fail
        go_roundw
        case rel => exact ⟨k + 1, by omega, by go_num, by rw [hn.out, enc1_no HI.out]; exact HB2.out, hbw.trans hbel2⟩
        case measure => simp [intOf]; omega
      | true =>
        have HI := hid hi
        go_wp2_with fail
        refine (in_calls set s[k] _).mono ?_
        rintro e w1 ⟨rfl, rfl⟩
        rw [hi]
        clear hi
        go_wp2_with fail
        refine (write_calls wr w.heap.size w.heap.size _ 37 rfl HBL.out (by omega) hbs).mono ?_
        rintro e w2 ⟨rfl, hb2, hbel2⟩
        have HB2 := hid hb2
        clear hb2
        go_wp2_with fail
        refine (write_calls w2 w.heap.size w.heap.size _ (hexD (s[k].toNat / 16)) (hexget _ (by omega)) HB2.out (by simp; omega) (by have := hbel2.size; omega)).mono ?_
        rintro e w3 ⟨rfl, hb3, hbel3⟩
        have HB3 := hid hb3
        clear hb3
        have hbel3 := hbel2.trans hbel3
        clear hbel2
        go_wp2_with fail
        refine (write_calls w3 w.heap.size w.heap.size _ (hexD (s[k].toNat % 16)) (hexget _ (by omega)) HB3.out (by simp; omega) (by have := hbel3.size; omega)).mono ?_
        rintro e w4 ⟨rfl, hb4, hbel4⟩
        have HB4 := hid hb4
        clear hb4
        have hbel4 := hbel3.trans hbel4
        clear hbel3
        go_wp2_with fail
        go_roundw
        case rel => exact ⟨k + 1, by omega, by go_num, by rw [hn.out, enc1_yes HI.out]; simpa using HB4.out, hbw.trans hbel4⟩
        case measure => simp [intOf]; omega
    · obtain rfl : k = s.size := by omega
      have hbl := HBL.out
      rw [take_all] at hbl
      have HBL' := hid hbl
      clear hbl
      go_wp2_with fail
      refine (string_calls wr w.heap.size w.heap.size _ HBL'.out hbs).mono ?_
      rintro e w2 ⟨rfl, hbel2⟩
      go_wp2_with fail
      go_ret
      exact ⟨rfl, hbw.trans hbel2⟩
end Go.Proofs.Ytmkgjleojfggcaa
