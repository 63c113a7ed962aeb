/-
  The contract of the document's Encode (layer 3). Conditions: the text has at most 5000 bytes.
-/
import Derived.Test.YtmkgjleojfggcaaPctEnc
import Derived.Test.YtmkgjleojfggcaaAppend
set_option linter.all false
namespace Go.Proofs.Ytmkgjleojfggcaa
open Go.RowKit

set_option maxHeartbeats 1000000 in
theorem refEncode_calls (s : ByteArray) (set : Int) (w : World) (hs : s.size ≤ 5000) :
    Calls Try.prog 46 #[.string s, .int .i64 set] w fun e w' => e = .returned (.string ⟨(encL set s.data.toList).toArray⟩) ∧ Below w.heap.size w w' := by
  go_enter Try.func46, Try.ntmps46
  go_wp2
  go_loopw [6, 7] (fun v i wr => ∃ k : Nat, k ≤ s.size ∧ i = .int .i64 k ∧ OwnB wr w.heap.size v (encL set (s.data.toList.take k)) ∧ Below w.heap.size w wr) (fun _ i _ => s.size - (intOf i).toNat)
  case atStart => exact ⟨0, Nat.zero_le _, rfl, OwnB.nil _ _, Below.refl _ _⟩
  case round =>
    obtain ⟨k, hk, rfl, hown, hbw⟩ := hrel
    have hbs := hbw.size
    by_cases hlt : k < s.size
    · have hn : Hid (encL set (s.data.toList.take (k + 1)) = encL set (s.data.toList.take k) ++ enc1 set s[k]) := hid (by rw [take_snocB s k hlt, encL_snoc])
      have hll : (encL set (s.data.toList.take k)).length ≤ 100000 := by have := encL_len set (s.data.toList.take k); rw [take_len s k hk] at this; omega
      have hx1 : (s[k]).toNat < 256 := s[k].toNat_lt
      cases hi : inSet set s[k] with
      | false =>
        have HI := hid hi
        go_wp2_with fail
        refine (refIn_calls set s[k] _).mono ?_
        rintro e w1 ⟨rfl, rfl⟩
        rw [hi]
        clear hi
        go_wp2_with (at_builtin; refine wpList_append_byte wr w.heap.size _ _ s[k] rfl rfl _ _ rfl rfl hown rfl (by omega) hbs ?_; intro v1 w1 hown1 hb1)
        go_roundw
        case rel => exact ⟨k + 1, by omega, by go_num, by rw [hn.out, enc1_no HI.out]; exact hown1, hbw.trans hb1⟩
        case measure => simp [intOf]; omega
      | true =>
        have HI := hid hi
        obtain ⟨ao, cap, rfl⟩ := hown.len
        have h1 := hid (hexget (s[k].toNat / 16) (by omega))
        have h2 := hid (hexget (s[k].toNat % 16) (by omega))
        go_wp2_with fail
        refine (refIn_calls set s[k] _).mono ?_
        rintro e w1 ⟨rfl, rfl⟩
        rw [hi]
        clear hi
        go_wp2_with fail
        have e1 : IntKind.u8.wrap (((s[k]).toNat : Int) / 16) = ((s[k]).toNat : Int) / 16 := IntWalk.u8_in _ (by omega)
        have e2 : IntKind.u8.wrap (((s[k]).toNat : Int) % 16) = ((s[k]).toNat : Int) % 16 := IntWalk.u8_in _ (by omega)
        have e3 : ((s[k]).toNat : Int).tmod 16 = ((s[k]).toNat : Int) % 16 := Int.tmod_eq_emod_of_nonneg (by omega)
        have hk1 : k + 1 ≤ s.size := by omega
        have q1 : 0 ≤ ((s[k]).toNat : Int) / 16 := by omega
        have q2 : ((s[k]).toNat : Int) / 16 < 16 := by omega
        have q3 : 0 ≤ ((s[k]).toNat : Int) % 16 := by omega
        have q4 : ((s[k]).toNat : Int) % 16 < 16 := by omega
        have t1 : (((s[k]).toNat : Int) / 16).toNat = (s[k]).toNat / 16 := by omega
        have t2 : (((s[k]).toNat : Int) % 16).toNat = (s[k]).toNat % 16 := by omega
        go_region_law (refine step_append_bytes _ w.heap.size _ _ [37, hexD (s[k].toNat / 16), hexD (s[k].toNat % 16)] rfl _ _ rfl rfl (hown.made _) wr.heap.size _ rfl (cells3 wr 5 rfl h1.out h2.out) (by simp; omega) (by simp; omega) (fun v1 w1 hown1 hb1 => ?_))
        all_goals
          have hb2 : Below w.heap.size w w1 := hbw.trans ((Below.drew (Below.alloc (Below.refl w.heap.size wr) hbs _)).trans hb1)
          have HO := hid hown1
          clear hown1 hown hb1
          go_wp2_with fail
          go_roundw
          case rel => exact ⟨k + 1, hk1, by go_num, by rw [hn.out, enc1_yes HI.out]; exact HO.out, hb2⟩
          case measure => clear e1 e2 e3 q1 q2 q3 q4 t1 t2; simp [intOf]; omega
    · obtain rfl : k = s.size := by omega
      rw [take_all] at hown
      have hcv := run_string_own hown
      go_wp2
      go_ret
      exact ⟨rfl, hbw⟩
end Go.Proofs.Ytmkgjleojfggcaa
