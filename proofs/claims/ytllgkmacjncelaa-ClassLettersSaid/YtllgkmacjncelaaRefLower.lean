/-
  The contract of the document's Lower: the text in small letters. Conditions: the text has at most 100000 bytes.
-/
import Derived.Test.YtllgkmacjncelaaBytes
set_option linter.all false
namespace Go.Proofs.Ytllgkmacjncelaa
open Go.RowKit

theorem take_snocB (s : ByteArray) (k : Nat) (h : k < s.size) : s.data.toList.take (k + 1) = s.data.toList.take k ++ [s[k]] := by
  rw [List.take_succ_eq_append_getElem (by simpa using h)]; rfl
theorem lowL_snoc (l : List UInt8) (c : UInt8) : lowL (l ++ [c]) = lowL l ++ [lowB c] := by simp [lowL]
theorem lowL_length (l : List UInt8) : (lowL l).length = l.length := by simp [lowL]
theorem take_len (s : ByteArray) (k : Nat) (h : k ≤ s.size) : (s.data.toList.take k).length = k := by
  rw [List.length_take]; simp; omega
theorem take_all (s : ByteArray) : s.data.toList.take s.size = s.data.toList := List.take_of_length_le (by simp)

set_option maxHeartbeats 400000 in
theorem refLower_calls (s : ByteArray) (w : World) (hs : s.size ≤ 100000) :
    Calls Try.prog 19 #[.string s] w fun e w' => e = .returned (.string ⟨(lowL s.data.toList).toArray⟩) ∧ Below w.heap.size w w' := by
  go_enter Try.func19, Try.ntmps19
  go_wp2
  go_loopw [3, 4] (fun v i wr => ∃ k : Nat, k ≤ s.size ∧ i = .int .i64 k ∧ OwnB wr w.heap.size v (lowL (s.data.toList.take k)) ∧ Below w.heap.size w wr) (fun _ i _ => s.size - (intOf i).toNat)
  case atStart => exact ⟨0, Nat.zero_le _, rfl, OwnB.nil _ _, Below.refl _ _⟩
  case round =>
    obtain ⟨k, hk, rfl, hown, hbw⟩ := hrel
    have hbs := hbw.size
    by_cases hlt : k < s.size
    · have hn : Hid (lowL (s.data.toList.take (k + 1)) = lowL (s.data.toList.take k) ++ [lowB s[k]]) := hid (by rw [take_snocB s k hlt, lowL_snoc])
      have hll : (lowL (s.data.toList.take k)).length ≤ 1000000 := by rw [lowL_length, take_len s k hk]; omega
      have hx1 : (s[k]).toNat < 256 := s[k].toNat_lt
      by_cases hup : 65 ≤ (s[k]).toNat ∧ (s[k]).toNat ≤ 90
      · have hl := hid (lowB_up hup).symm
        obtain ⟨h65, h90⟩ := hup
        go_wp2_with (at_builtin; refine wpList_append_byte wr w.heap.size _ _ (lowB s[k]) hl.out rfl _ _ rfl rfl hown rfl hll hbs ?_; intro v1 w1 hown1 hb1)
        go_roundw
        case rel => exact ⟨k + 1, by omega, by go_num, by rw [hn.out]; exact hown1, hbw.trans hb1⟩
        case measure => simp [intOf]; omega
      · have hl : Hid (((s[k]).toNat : Int) = ((lowB s[k]).toNat : Int)) := hid (by rw [lowB_not hup])
        by_cases h65 : 65 ≤ (s[k]).toNat
        · have h90 : 90 < (s[k]).toNat := by omega
          clear hup
          go_wp2_with (at_builtin; refine wpList_append_byte wr w.heap.size _ _ (lowB s[k]) hl.out rfl _ _ rfl rfl hown rfl hll hbs ?_; intro v1 w1 hown1 hb1)
          go_roundw
          case rel => exact ⟨k + 1, by omega, by go_num, by rw [hn.out]; exact hown1, hbw.trans hb1⟩
          case measure => simp [intOf]; omega
        · clear hup
          go_wp2_with (at_builtin; refine wpList_append_byte wr w.heap.size _ _ (lowB s[k]) hl.out rfl _ _ rfl rfl hown rfl hll hbs ?_; intro v1 w1 hown1 hb1)
          go_roundw
          case rel => exact ⟨k + 1, by omega, by go_num, by rw [hn.out]; exact hown1, hbw.trans hb1⟩
          case measure => simp [intOf]; omega
    · obtain rfl : k = s.size := by omega
      rw [take_all] at hown
      have hcv := run_string_own hown
      go_wp2
      go_ret
      exact ⟨rfl, hbw⟩
end Go.Proofs.Ytllgkmacjncelaa
