/-
  The contract of the document's Decode (layer 3). Conditions: the text has at most 100000 bytes.
-/
import Derived.Test.YtmkgjleojfggcaaPctDec
set_option linter.all false
namespace Go.Proofs.Ytmkgjleojfggcaa
open Go.RowKit

theorem cells1 (w : World) (t : TypeId) {a : Int} {x : UInt8} (ha : a = (x.toNat : Int)) :
    ∀ j (hj : j < [x].length), ((w.alloc (.cells #[.int .u8 a] t)).drew).cell? ⟨w.heap.size, j, none⟩ = some (byteV [x][j]) := by
  subst ha
  exact cells_made w [x] t

set_option maxHeartbeats 4000000 in
theorem refDecode_calls (s : ByteArray) (w : World) (hs : s.size ≤ 100000) :
    Calls Try.prog 48 #[.string s] w fun e w' => ∃ v, e = .returned v ∧ OwnB w' w.heap.size v (decL s.data.toList) ∧ Below w.heap.size w w' := by
  have hlen : Hid (s.data.toList.length = s.size) := hid (by simp)
  go_enter Try.func48, Try.ntmps48
  go_wp2
  go_loopw [3, 4] (fun v i wr => ∃ (k : Nat) (x : List UInt8), k ≤ s.size ∧ i = .int .i64 k ∧ OwnB wr w.heap.size v x ∧ DecRel s.data.toList k x ∧ Below w.heap.size w wr) (fun _ i _ => s.size - (intOf i).toNat)
  case atStart => exact ⟨0, [], Nat.zero_le _, rfl, OwnB.nil _ _, DecRel.zero _, Below.refl _ _⟩
  case round =>
    obtain ⟨k, x, hk, rfl, hown, hrel, hbw⟩ := hrel
    have HR := hid hrel
    have hxl := hrel.2
    clear hrel
    have hbs := hbw.size
    by_cases hlt : k < s.size
    · have hx1 : (s[k]).toNat < 256 := s[k].toNat_lt
      by_cases hc : s[k] = 37
      · have HC := hid hc
        have hce : (((s[k]).toNat : Int) == 37) = true := by rw [hc]; rfl
        clear hc
        by_cases h2 : k + 2 < s.size
        · have y1 : (s[k + 1]).toNat < 256 := s[k + 1].toNat_lt
          have y2 : (s[k + 2]).toNat < 256 := s[k + 2].toNat_lt
          have hk1 : k + 1 ≤ s.size := by omega
          have hk3 : k + 3 ≤ s.size := by omega
          have hxl6 : x.length ≤ 900000 := by omega
          have hl2 : k + 2 < s.data.toList.length := by rw [hlen.out]; exact h2
          have q1 : 0 ≤ (k : Int) + 1 := by omega
          have q2 : (k : Int) + 1 < (s.size : Int) := by omega
          have q3 : 0 ≤ (k : Int) + 2 := by omega
          have q4 : (k : Int) + 2 < (s.size : Int) := by omega
          cases hx : isHex s[k + 1] s[k + 2] with
          | true =>
            have HV := hid (hexB_val' hx)
            have HN := hid (HR.out.hit hl2 HC.out hx)
            have b1 := digit_bd s[k + 1] 16 (by decide)
            have b2 := digit_bd s[k + 2] 16 (by decide)
            have hx' := hx
            unfold isHex at hx'
            simp only [Bool.and_eq_true, decide_eq_true_eq] at hx'
            obtain ⟨g1, g2⟩ := hx'
            obtain ⟨-, b1⟩ := b1
            obtain ⟨-, b2⟩ := b2
            clear hx
            have e1 : IntKind.i64.wrap ((k : Int) + 1) = (k : Int) + 1 := IntWalk.i64_in _ (by omega)
            have e2 : IntKind.i64.wrap ((k : Int) + 2) = (k : Int) + 2 := IntWalk.i64_in _ (by omega)
            have e3 : IntKind.i64.wrap (16 * digit s[k + 1] 16) = 16 * digit s[k + 1] 16 := IntWalk.i64_in _ (by omega)
            have e4 : IntKind.i64.wrap (16 * digit s[k + 1] 16 + digit s[k + 2] 16) = 16 * digit s[k + 1] 16 + digit s[k + 2] 16 := IntWalk.i64_in _ (by omega)
            have e5 : IntKind.u8.wrap (16 * digit s[k + 1] 16 + digit s[k + 2] 16) = 16 * digit s[k + 1] 16 + digit s[k + 2] 16 := IntWalk.u8_in _ (by omega)
            have HW : Hid (16 * digit s[k + 1] 16 + digit s[k + 2] 16 = ((hexB s[k + 1] s[k + 2]).toNat : Int)) := hid (by rw [← HV.out]; omega)
            have hlen9 : x.length + [hexB s[k + 1] s[k + 2]].length ≤ 1000000 := by simp; omega
            have t1 : ((k : Int) + 1).toNat = k + 1 := by omega
            have t2 : ((k : Int) + 2).toNat = k + 2 := by omega
            go_wp2_with (go_at_call 65; refine (refDigit_calls _ 16 (by decide) (by decide) _).mono ?_; rintro e w4 ⟨rfl, rfl⟩)
            go_region_law (first | (refine step_append_bytes _ w.heap.size _ _ [hexB s[k + 1] s[k + 2]] rfl _ _ rfl rfl (hown.made _) wr.heap.size _ rfl (cells1 wr 5 HW.out) hlen9 (by simp; omega) (fun v1 w1 hown1 hb1 => ?_)) | (go_simp; go_at_call 65; refine (refDigit_calls _ 16 (by decide) (by decide) _).mono ?_; rintro e w4 ⟨rfl, rfl⟩))
            all_goals
              have hb2 : Below w.heap.size w w1 := hbw.trans ((Below.drew (Below.alloc (Below.refl w.heap.size wr) hbs _)).trans hb1)
              go_wp2_with fail
              go_roundw
              case rel => exact ⟨k + 3, _, hk3, by go_num, hown1, HN.out, hb2⟩
              case measure => simp [intOf]; omega
          | false =>
            have HN := hid (HR.out.miss (k := k) (by omega) (fun _ h => by rw [show s.data.toList[k + 1] = s[k + 1] from rfl, show s.data.toList[k + 2] = s[k + 2] from rfl, hx] at h; exact Bool.noConfusion h.2))
            have hx' := hx
            unfold isHex at hx'
            clear hx
            have hxl6 : x.length ≤ 1000000 := by omega
            by_cases g1 : 0 ≤ digit s[k + 1] 16
            · have g2 : digit s[k + 2] 16 < 0 := by
                rcases Int.lt_or_le (digit s[k + 2] 16) 0 with h | h
                · exact h
                · simp [g1, h] at hx'
              clear hx'
              go_wp2_with (first | (go_at_call 65; refine (refDigit_calls _ 16 (by decide) (by decide) _).mono ?_; rintro e w4 ⟨rfl, rfl⟩) | (at_builtin; refine wpList_append_byte wr w.heap.size _ _ s[k] rfl rfl _ _ rfl rfl hown rfl hxl6 hbs ?_; intro v1 w1 hown1 hb1))
              go_roundw
              case rel => exact ⟨k + 1, _, hk1, by go_num, hown1, HN.out, hbw.trans hb1⟩
              case measure => simp [intOf]; omega
            · have g1 : digit s[k + 1] 16 < 0 := by
                rcases Int.lt_or_le (digit s[k + 1] 16) 0 with h | h
                · exact h
                · exact absurd h g1
              clear hx'
              go_wp2_with (first | (go_at_call 65; refine (refDigit_calls _ 16 (by decide) (by decide) _).mono ?_; rintro e w4 ⟨rfl, rfl⟩) | (at_builtin; refine wpList_append_byte wr w.heap.size _ _ s[k] rfl rfl _ _ rfl rfl hown rfl hxl6 hbs ?_; intro v1 w1 hown1 hb1))
              go_roundw
              case rel => exact ⟨k + 1, _, hk1, by go_num, hown1, HN.out, hbw.trans hb1⟩
              case measure => simp [intOf]; omega
        · have HN := hid (HR.out.miss (k := k) (by rw [hlen.out]; exact hlt) (fun h => by rw [hlen.out] at h; exact absurd h h2))
          have hk1 : k + 1 ≤ s.size := by omega
          have hxl6 : x.length ≤ 1000000 := by omega
          go_wp2_with (first | (go_at_call 65; refine (refDigit_calls _ 16 (by decide) (by decide) _).mono ?_; rintro e w4 ⟨rfl, rfl⟩) | (at_builtin; refine wpList_append_byte wr w.heap.size _ _ s[k] rfl rfl _ _ rfl rfl hown rfl hxl6 hbs ?_; intro v1 w1 hown1 hb1))
          go_roundw
          case rel => exact ⟨k + 1, _, hk1, by go_num, hown1, HN.out, hbw.trans hb1⟩
          case measure => simp [intOf]; omega
      · have HN := hid (HR.out.miss (k := k) (by rw [hlen.out]; exact hlt) (fun _ h => hc h.1))
        have hce : (((s[k]).toNat : Int) == 37) = false := by
          simp only [beq_eq_false_iff_ne, ne_eq]
          intro h
          exact hc (UInt8.toNat_inj.1 (by show s[k].toNat = 37; omega))
        clear hc
        have hk1 : k + 1 ≤ s.size := by omega
        have hxl6 : x.length ≤ 1000000 := by omega
        go_wp2_with (first | (go_at_call 65; refine (refDigit_calls _ 16 (by decide) (by decide) _).mono ?_; rintro e w4 ⟨rfl, rfl⟩) | (at_builtin; refine wpList_append_byte wr w.heap.size _ _ s[k] rfl rfl _ _ rfl rfl hown rfl hxl6 hbs ?_; intro v1 w1 hown1 hb1))
        go_roundw
        case rel => exact ⟨k + 1, _, hk1, by go_num, hown1, HN.out, hbw.trans hb1⟩
        case measure => simp [intOf]; omega
    · obtain rfl : k = s.size := by omega
      have hfin := HR.out.all (by rw [hlen.out]; exact Nat.le_refl _)
      subst hfin
      go_wp2
      go_ret
      exact ⟨_, rfl, hown, hbw⟩
end Go.Proofs.Ytmkgjleojfggcaa
