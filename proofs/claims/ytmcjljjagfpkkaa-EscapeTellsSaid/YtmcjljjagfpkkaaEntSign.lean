/-
  The contracts of Sign, the program's and the document's. Conditions: the number is one of 64 bits.
-/
import Derived.Test.YtmcjljjagfpkkaaEntByte
import Derived.Test.YtmcjljjagfpkkaaAppend
import Derived.IntWalk
set_option linter.all false
namespace Go.Proofs.Ytmcjljjagfpkkaa
open Go.RowKit
set_option maxHeartbeats 2000000 in
theorem sign_calls (n : Int) (w : World) (h1 : -9223372036854775808 ≤ n) (h2 : n ≤ 9223372036854775807) :
    Calls Try.prog 38 #[.int .i64 n] w fun e w' => e = .returned (.string (Utf8.encode n)) ∧ w = w' := by
  by_cases hb : n < 0 ∨ (55296 ≤ n ∧ n ≤ 57343) ∨ 1114111 < n
  · rw [encode_bad (valid_no hb)]
    go_enter Try.func38, Try.ntmps38
    rcases hb with hb | hb | hb
    · have d1 : decide (n < 0) = true := decide_eq_true hb
      go_wp2
      go_ret
      exact ⟨rfl, rfl⟩
    · have d1 : decide (n < 0) = false := decide_eq_false (by omega)
      have d2 : decide (1114111 < n) = false := decide_eq_false (by omega)
      have d3 : decide (55296 ≤ n) = true := decide_eq_true hb.1
      have d4 : decide (n ≤ 57343) = true := decide_eq_true hb.2
      go_wp2
      go_ret
      exact ⟨rfl, rfl⟩
    · have d1 : decide (n < 0) = false := decide_eq_false (by omega)
      have d2 : decide (1114111 < n) = true := decide_eq_true hb
      go_wp2
      go_ret
      exact ⟨rfl, rfl⟩
  · have d1 : decide (n < 0) = false := decide_eq_false (by omega)
    have d2 : decide (1114111 < n) = false := decide_eq_false (by omega)
    have hw : IntKind.i32.wrap n = n := IntWalk.i32_in _ (by omega)
    by_cases d : 55296 ≤ n
    · have d3 : decide (55296 ≤ n) = true := decide_eq_true d
      have d4 : decide (n ≤ 57343) = false := decide_eq_false (by omega)
      clear hb d
      go_enter Try.func38, Try.ntmps38
      go_wp2
      go_ret
      exact ⟨rfl, rfl⟩
    · have d3 : decide (55296 ≤ n) = false := decide_eq_false d
      clear hb d
      go_enter Try.func38, Try.ntmps38
      go_wp2
      go_ret
      exact ⟨rfl, rfl⟩
theorem enc_valid {m : Nat} (hm : m < 55296 ∨ (57343 < m ∧ m ≤ 1114111)) : Utf8.valid (m : Int) = true := by
  unfold Utf8.valid
  have e : (0 ≤ (m : Int) ∧ (m : Int) < 55296) ∨ (57344 ≤ (m : Int) ∧ (m : Int) ≤ 1114111) := by omega
  simpa using e
theorem byte_to (k : Nat) (h : k < 256) : ((UInt8.ofNat k).toNat : Int) = (k : Int) := by
  simp [Nat.mod_eq_of_lt h]
theorem enc_one {m : Nat} (h : m < 128) : ∃ a : UInt8, Utf8.encode (m : Int) = ⟨#[a]⟩ ∧ (m : Int) = (a.toNat : Int) := by
  refine ⟨UInt8.ofNat m, ?_, (byte_to m (by omega)).symm⟩
  unfold Utf8.encode
  rw [enc_valid (by omega)]
  simp only [if_true, Int.toNat_natCast]
  rw [if_pos h]
theorem enc_two {m : Nat} (h0 : 128 ≤ m) (h : m < 2048) : ∃ a b : UInt8, Utf8.encode (m : Int) = ⟨#[a, b]⟩ ∧ 192 + (m : Int) / 64 = (a.toNat : Int) ∧ 128 + (m : Int) % 64 = (b.toNat : Int) := by
  refine ⟨UInt8.ofNat (0xC0 + m / 64), UInt8.ofNat (0x80 + m % 64), ?_, ?_, ?_⟩
  · unfold Utf8.encode
    rw [enc_valid (by omega)]
    simp only [if_true, Int.toNat_natCast]
    rw [if_neg (by omega), if_pos h]
  · rw [byte_to _ (by omega)]; omega
  · rw [byte_to _ (by omega)]; omega
theorem enc_three {m : Nat} (h0 : 2048 ≤ m) (h : m < 65536) (hm : m < 55296 ∨ (57343 < m ∧ m ≤ 1114111)) : ∃ a b c : UInt8, Utf8.encode (m : Int) = ⟨#[a, b, c]⟩ ∧ 224 + (m : Int) / 4096 = (a.toNat : Int) ∧ 128 + (m : Int) / 64 % 64 = (b.toNat : Int) ∧ 128 + (m : Int) % 64 = (c.toNat : Int) := by
  refine ⟨UInt8.ofNat (0xE0 + m / 4096), UInt8.ofNat (0x80 + m / 64 % 64), UInt8.ofNat (0x80 + m % 64), ?_, ?_, ?_, ?_⟩
  · unfold Utf8.encode
    rw [enc_valid hm]
    simp only [if_true, Int.toNat_natCast]
    rw [if_neg (by omega), if_neg (by omega), if_pos h]
  · rw [byte_to _ (by omega)]; omega
  · rw [byte_to _ (by omega)]; omega
  · rw [byte_to _ (by omega)]; omega
theorem enc_four {m : Nat} (h0 : 65536 ≤ m) (h : m ≤ 1114111) : ∃ a b c d : UInt8, Utf8.encode (m : Int) = ⟨#[a, b, c, d]⟩ ∧ 240 + (m : Int) / 262144 = (a.toNat : Int) ∧ 128 + (m : Int) / 4096 % 64 = (b.toNat : Int) ∧ 128 + (m : Int) / 64 % 64 = (c.toNat : Int) ∧ 128 + (m : Int) % 64 = (d.toNat : Int) := by
  refine ⟨UInt8.ofNat (0xF0 + m / 262144), UInt8.ofNat (0x80 + m / 4096 % 64), UInt8.ofNat (0x80 + m / 64 % 64), UInt8.ofNat (0x80 + m % 64), ?_, ?_, ?_, ?_, ?_⟩
  · unfold Utf8.encode
    rw [enc_valid (by omega)]
    simp only [if_true, Int.toNat_natCast]
    rw [if_neg (by omega), if_neg (by omega), if_neg (by omega)]
  · rw [byte_to _ (by omega)]; omega
  · rw [byte_to _ (by omega)]; omega
  · rw [byte_to _ (by omega)]; omega
  · rw [byte_to _ (by omega)]; omega
/-- 'string([]byte{..})' -/
theorem lit_conv (w : World) (l : List UInt8) : (convert 34 9 (.slice (some ⟨w.heap.size, 0, none⟩) l.length l.length)).run Try.prog (w.alloc (.cells (l.map byteV).toArray 5)) =
    .ok (.string ⟨l.toArray⟩) (w.alloc (.cells (l.map byteV).toArray 5)) :=
  run_convert_bytes_back (P := Try.prog) _ 34 9 5 ⟨w.heap.size, 0, none⟩ l.length l Try.underlying34 Try.underlying5 Try.underlying9 (fun j hj => by rw [add0]; exact cells_made w l _ j hj)
set_option maxHeartbeats 2000000 in
theorem refSign_ok (m : Nat) (w : World) (hm : m < 55296 ∨ (57343 < m ∧ m ≤ 1114111)) :
    Calls Try.prog 40 #[.int .i64 (m : Int)] w fun e w' => e = .returned (.string (Utf8.encode (m : Int))) ∧ Below w.heap.size w w' := by
  have d1 : decide ((m : Int) < 0) = false := decide_eq_false (by omega)
  have d2 : decide ((1114111 : Int) < (m : Int)) = false := decide_eq_false (by omega)
  have d5 : ∀ (_ : decide ((55296 : Int) ≤ (m : Int)) = true), decide ((m : Int) ≤ 57343) = false := fun h => decide_eq_false (by have := of_decide_eq_true h; omega)
  by_cases h1 : m < 128
  · have d3 : decide ((55296 : Int) ≤ (m : Int)) = false := decide_eq_false (by omega)
    clear d5
    obtain ⟨a, he, qa⟩ := enc_one (m := m) (by omega)
    have hd : (convert 34 9 (.slice (some ⟨w.heap.size, 0, none⟩) 1 1)).run Try.prog (w.alloc (.cells #[.int .u8 (a.toNat : Int)] 5)) = .ok (.string ⟨#[a]⟩) (w.alloc (.cells #[.int .u8 (a.toNat : Int)] 5)) := lit_conv w [a]
    rw [he]
    have hb0 : 0 ≤ (m : Int) := by omega
    have hb1 : (m : Int) ≤ 1114111 := by omega
    have hb2 : (m : Int) < 128 := by omega
    have e0 : decide ((m : Int) < 128) = true := decide_eq_true (by omega)
    have e1 : decide ((m : Int) < 2048) = true := decide_eq_true (by omega)
    have e2 : decide ((m : Int) < 65536) = true := decide_eq_true (by omega)
    clear h1
    clear he hm
    generalize (m : Int) = n at *
    subst qa
    go_enter Try.func40, Try.ntmps40
    go_wp2
    go_ret
    exact ⟨rfl, (Below.refl _ _).alloc (Nat.le_refl _) _⟩
  by_cases h2 : m < 2048
  · have d3 : decide ((55296 : Int) ≤ (m : Int)) = false := decide_eq_false (by omega)
    clear d5
    obtain ⟨a, b, he, qa, qb⟩ := enc_two (m := m) (by omega) (by omega)
    have hd : (convert 34 9 (.slice (some ⟨w.heap.size, 0, none⟩) 2 2)).run Try.prog (w.alloc (.cells #[.int .u8 (a.toNat : Int), .int .u8 (b.toNat : Int)] 5)) = .ok (.string ⟨#[a, b]⟩) (w.alloc (.cells #[.int .u8 (a.toNat : Int), .int .u8 (b.toNat : Int)] 5)) := lit_conv w [a, b]
    rw [he]
    have hb0 : 0 ≤ (m : Int) := by omega
    have hb1 : (m : Int) ≤ 1114111 := by omega
    have hb2 : (m : Int) < 2048 := by omega
    have e0 : decide ((m : Int) < 128) = false := decide_eq_false (by omega)
    have e1 : decide ((m : Int) < 2048) = true := decide_eq_true (by omega)
    have e2 : decide ((m : Int) < 65536) = true := decide_eq_true (by omega)
    clear h1 h2
    clear he hm
    generalize (m : Int) = n at *
    go_enter Try.func40, Try.ntmps40
    go_wp2
    go_ret
    exact ⟨rfl, (Below.refl _ _).alloc (Nat.le_refl _) _⟩
  by_cases h3 : m < 65536
  · by_cases h4 : m < 55296
    · have d3 : decide ((55296 : Int) ≤ (m : Int)) = false := decide_eq_false (by omega)
      clear d5
      obtain ⟨a, b, c, he, qa, qb, qc⟩ := enc_three (m := m) (by omega) (by omega) hm
      have hd : (convert 34 9 (.slice (some ⟨w.heap.size, 0, none⟩) 3 3)).run Try.prog (w.alloc (.cells #[.int .u8 (a.toNat : Int), .int .u8 (b.toNat : Int), .int .u8 (c.toNat : Int)] 5)) = .ok (.string ⟨#[a, b, c]⟩) (w.alloc (.cells #[.int .u8 (a.toNat : Int), .int .u8 (b.toNat : Int), .int .u8 (c.toNat : Int)] 5)) := lit_conv w [a, b, c]
      rw [he]
      have hb0 : 0 ≤ (m : Int) := by omega
      have hb1 : (m : Int) ≤ 1114111 := by omega
      have hb2 : (m : Int) < 65536 := by omega
      have e0 : decide ((m : Int) < 128) = false := decide_eq_false (by omega)
      have e1 : decide ((m : Int) < 2048) = false := decide_eq_false (by omega)
      have e2 : decide ((m : Int) < 65536) = true := decide_eq_true (by omega)
      clear h1 h2 h3 h4
      clear he hm
      generalize (m : Int) = n at *
      go_enter Try.func40, Try.ntmps40
      go_wp2
      go_ret
      exact ⟨rfl, (Below.refl _ _).alloc (Nat.le_refl _) _⟩
    · have d3 : decide ((55296 : Int) ≤ (m : Int)) = true := decide_eq_true (by omega)
      have d4 := d5 d3
      clear d5
      obtain ⟨a, b, c, he, qa, qb, qc⟩ := enc_three (m := m) (by omega) (by omega) hm
      have hd : (convert 34 9 (.slice (some ⟨w.heap.size, 0, none⟩) 3 3)).run Try.prog (w.alloc (.cells #[.int .u8 (a.toNat : Int), .int .u8 (b.toNat : Int), .int .u8 (c.toNat : Int)] 5)) = .ok (.string ⟨#[a, b, c]⟩) (w.alloc (.cells #[.int .u8 (a.toNat : Int), .int .u8 (b.toNat : Int), .int .u8 (c.toNat : Int)] 5)) := lit_conv w [a, b, c]
      rw [he]
      have hb0 : 0 ≤ (m : Int) := by omega
      have hb1 : (m : Int) ≤ 1114111 := by omega
      have hb2 : (m : Int) < 65536 := by omega
      have e0 : decide ((m : Int) < 128) = false := decide_eq_false (by omega)
      have e1 : decide ((m : Int) < 2048) = false := decide_eq_false (by omega)
      have e2 : decide ((m : Int) < 65536) = true := decide_eq_true (by omega)
      clear h1 h2 h3 h4
      clear he hm
      generalize (m : Int) = n at *
      go_enter Try.func40, Try.ntmps40
      go_wp2
      go_ret
      exact ⟨rfl, (Below.refl _ _).alloc (Nat.le_refl _) _⟩
  · have d3 : decide ((55296 : Int) ≤ (m : Int)) = true := decide_eq_true (by omega)
    have d4 := d5 d3
    clear d5
    obtain ⟨a, b, c, d, he, qa, qb, qc, qd⟩ := enc_four (m := m) (by omega) (by omega)
    have hd : (convert 34 9 (.slice (some ⟨w.heap.size, 0, none⟩) 4 4)).run Try.prog (w.alloc (.cells #[.int .u8 (a.toNat : Int), .int .u8 (b.toNat : Int), .int .u8 (c.toNat : Int), .int .u8 (d.toNat : Int)] 5)) = .ok (.string ⟨#[a, b, c, d]⟩) (w.alloc (.cells #[.int .u8 (a.toNat : Int), .int .u8 (b.toNat : Int), .int .u8 (c.toNat : Int), .int .u8 (d.toNat : Int)] 5)) := lit_conv w [a, b, c, d]
    rw [he]
    have hb0 : 0 ≤ (m : Int) := by omega
    have hb1 : (m : Int) ≤ 1114111 := by omega
    have e0 : decide ((m : Int) < 128) = false := decide_eq_false (by omega)
    have e1 : decide ((m : Int) < 2048) = false := decide_eq_false (by omega)
    have e2 : decide ((m : Int) < 65536) = false := decide_eq_false (by omega)
    clear h1 h2 h3
    clear he hm
    generalize (m : Int) = n at *
    go_enter Try.func40, Try.ntmps40
    go_wp2
    go_ret
    exact ⟨rfl, (Below.refl _ _).alloc (Nat.le_refl _) _⟩
end Go.Proofs.Ytmcjljjagfpkkaa
