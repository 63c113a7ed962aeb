/-
  The walk of PercentBack: it returns true. Conditions: none but that the text is one.
-/
import Derived.Test.YtmkgjleojfggcaaPctPlain
import Derived.Test.YtmkgjleojfggcaaPctTells
set_option linter.all false
namespace Go.Proofs.Ytmkgjleojfggcaa
open Go.RowKit

/-- Decode of what was encoded, where that comes to l. -/
theorem decode_of (u : List UInt8) (l : List UInt8) (h : decL u = l) (hu : u.length ≤ 90000) (w : World) :
    Calls Try.prog 47 #[.string ⟨u.toArray⟩] w fun e w' => ∃ v, e = .returned v ∧ OwnB w' w.heap.size v l ∧ Below w.heap.size w w' := by
  refine (decode_calls ⟨u.toArray⟩ w (by show u.toArray.size ≤ _; simp; omega)).mono ?_
  rintro e w' ⟨v, rfl, ho, hb⟩
  refine ⟨v, rfl, ?_, hb⟩
  have e1 : (⟨u.toArray⟩ : ByteArray).data.toList = u := by simp
  rw [e1, h] at ho
  exact ho
theorem bytes_eta (s : ByteArray) : (⟨s.data.toList.toArray⟩ : ByteArray) = s := by simp

set_option maxHeartbeats 4000000 in
theorem percentBack_core (s : ByteArray) (set : Int) (w : World) (hs : s.size ≤ 1000) :
    Calls Try.prog 9 #[.string s, .int .i64 set] w fun e w' => e = .returned (.bool true) ∧ Below w.heap.size w w' := by
  have hs5 : s.size ≤ 5000 := by omega
  have hlen : s.data.toList.length ≤ 1000 := by simpa using hs
  go_enter Try.func9, Try.ntmps9
  go_wp2_with fail
  refine (pctSmall_calls _).mono ?_
  rintro e w1 ⟨rfl, hb1⟩
  go_wp2_with fail
  go_loop [6, 7] (fun b i => ∃ k : Nat, k ≤ s.size ∧ i = .int .i64 k ∧ b = .bool (noP (s.data.toList.take k))) (fun _ i => s.size - (intOf i).toNat)
  case atStart => exact ⟨0, Nat.zero_le _, rfl, rfl⟩
  case round =>
    obtain ⟨k, hk, rfl, rfl⟩ := hrel
    by_cases hlt : k < s.size
    · have hn : Hid (noP (s.data.toList.take (k + 1)) = (noP (s.data.toList.take k) && (s[k] != 37))) := hid (by rw [take_snocB s k hlt, noP_snoc])
      have hx1 : (s[k]).toNat < 256 := s[k].toNat_lt
      cases hb : noP (s.data.toList.take k) with
      | false =>
        have HB := hid hb
        clear hb
        go_wp2_with fail
        go_round
        case rel => exact ⟨k + 1, by omega, by go_num, by rw [hn.out, HB.out]; rfl⟩
        case measure => simp [intOf]; omega
      | true =>
        have HB := hid hb
        clear hb
        by_cases hc : s[k] = 37
        · have h1 : (((s[k]).toNat : Int) != 37) = false := by rw [hc]; rfl
          have HC := hid hc
          clear hc
          go_wp2_with fail
          go_round
          case rel => exact ⟨k + 1, by omega, by go_num, by rw [hn.out, HB.out, HC.out]; rfl⟩
          case measure => simp [intOf]; omega
        · have h1 : (((s[k]).toNat : Int) != 37) = true := by
            simp only [bne_iff_ne, ne_eq]
            intro h
            exact hc (UInt8.toNat_inj.1 (by show s[k].toNat = 37; omega))
          have HC : Hid ((s[k] != 37) = true) := hid (by simpa using hc)
          clear hc
          go_wp2_with fail
          go_round
          case rel => exact ⟨k + 1, by omega, by go_num, by rw [hn.out, HB.out, HC.out]; rfl⟩
          case measure => simp [intOf]; omega
    · obtain rfl : k = s.size := by omega
      rw [take_all]
      have l1 := encL_len 6 s.data.toList
      have l2 := encL_len set s.data.toList
      cases hb : noP s.data.toList with
      | false =>
        clear hb
        go_wp2_with fail
        refine (encode_calls s 6 _ hs5).mono ?_
        rintro e w2 ⟨rfl, hb2⟩
        have hb2 := below_then hb1 hb2
        go_wp2_with fail
        refine (decode_of _ _ (back_all _) (by omega) _).mono ?_
        rintro e w3 ⟨v3, rfl, ho3, hb3⟩
        have hb3 := below_then hb2 hb3
        have hd3 := run_string_own ho3
        rw [bytes_eta s] at hd3
        go_wp2_with fail
        go_ret
        exact ⟨rfl, hb3⟩
      | true =>
        have HB := hid hb
        clear hb
        go_wp2_with fail
        refine (encode_calls s 6 _ hs5).mono ?_
        rintro e w2 ⟨rfl, hb2⟩
        have hb2 := below_then hb1 hb2
        go_wp2_with fail
        refine (decode_of _ _ (back_all _) (by omega) _).mono ?_
        rintro e w3 ⟨v3, rfl, ho3, hb3⟩
        have hb3 := below_then hb2 hb3
        have hd3 := run_string_own ho3
        rw [bytes_eta s] at hd3
        go_wp2_with fail
        refine (encode_calls s set _ hs5).mono ?_
        rintro e w4 ⟨rfl, hb4⟩
        have hb4 := below_then hb3 hb4
        go_wp2_with fail
        refine (decode_of _ _ (back_none set HB.out) (by omega) _).mono ?_
        rintro e w5 ⟨v5, rfl, ho5, hb5⟩
        have hb5 := below_then hb4 hb5
        have hd5 := run_string_own ho5
        rw [bytes_eta s] at hd5
        go_wp2_with fail
        refine (decode_calls s _ (by omega)).mono ?_
        rintro e w6 ⟨v6, rfl, ho6, hb6⟩
        have hb6 := below_then hb5 hb6
        rw [same_none HB.out] at ho6
        have hd6 := run_string_own ho6
        rw [bytes_eta s] at hd6
        go_wp2_with fail
        go_ret
        exact ⟨rfl, hb6⟩

theorem percentBack_walk (s : ByteArray) (set : Int) (w : World) (hs : s.size ≤ maxLen) (_hset : (Lit.int .i64 set).wf = true) :
    Calls Try.prog 9 #[.string s, .int .i64 set] w fun e w' => e = .returned (.bool true) ∧ Below w.heap.size w w' := by
  unfold maxLen at hs
  by_cases h1 : 1000 < s.size
  · go_enter Try.func9, Try.ntmps9
    go_wp2_with fail
    refine (pctSmall_calls _).mono ?_
    rintro e w1 ⟨rfl, hb1⟩
    go_wp2_with fail
    go_ret
    exact ⟨rfl, hb1⟩
  · exact percentBack_core s set w (by omega)
end Go.Proofs.Ytmkgjleojfggcaa
