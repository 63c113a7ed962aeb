/-
  The walk of EscapePlain. Conditions: the argument is as it can be handed over.
-/
import Derived.Test.YtmcjljjagfpkkaaEscBackW
set_option linter.all false
namespace Go.Proofs.Ytmcjljjagfpkkaa
open Go.RowKit
set_option maxHeartbeats 8000000 in
set_option maxRecDepth 100000 in
theorem escapePlain_walk (s : ByteArray) (w : World) (hs : s.size ≤ maxLen) :
    Calls Try.prog 10 #[.string s] w fun e w' => e = .returned (.bool true) ∧ Below w.heap.size w w' := by
  unfold maxLen at hs
  go_enter Try.func10, Try.ntmps10
  go_wp2_with fail
  refine (escSmall_calls _).mono ?_
  rintro e w1 ⟨rfl, hb1⟩
  have HB := hid hb1
  clear hb1
  by_cases ha3 : s.size ≤ 300
  rotate_left
  · go_wp2_with fail
    go_ret
    exact ⟨rfl, HB.out⟩
  have hla := escAll_len s.data.toList
  have hld := decE_len s.data.toList
  have haz : s.data.toList.length = s.size := by simp
  have HFA := hid (plain_all s.data.toList)
  have E1 := hid (fun w => escape_of s _ rfl (by omega) w)
  have P1 := hid (fun b h w => plain_of (strB (escAll s.data.toList)) b (by rw [strB_list]; exact h) (by rw [strB_size]; omega) w)
  have A1 := hid (fun w => ahead_of (strB (escAll s.data.toList)) (strB (escAll s.data.toList)) 34 34 rfl (by rw [strB_list, ahead_none (esc_none (by decide) (by decide) _)]) w)
  have A2 := hid (fun w => ahead_of (strB (escAll s.data.toList)) (strB (escAll s.data.toList)) 39 39 rfl (by rw [strB_list, ahead_none (esc_none (by decide) (by decide) _)]) w)
  have A3 := hid (fun w => ahead_of (strB (escAll s.data.toList)) (strB (escAll s.data.toList)) 96 96 rfl (by rw [strB_list, ahead_none (esc_none (by decide) (by decide) _)]) w)
  have SF := hid (fun b h w => settled_calls s b h w (by omega))
  have D1 := hid (fun w => decode_of s _ rfl (by omega) w)
  have E2 := hid (fun (h : (escAll (decE s.data.toList) == s.data.toList) = true) w => escape_of (strB (decE s.data.toList)) s (by rw [strB_list, eq_of_beq h, strB_of]) (by rw [strB_size]; omega) w)
  have PF := hid (fun b h w => plain_of s b h (by omega) w)
  have A4 := hid (fun (h : plainL s.data.toList = true) w => ahead_of s s 60 60 rfl (by rw [ahead_none (plain_none (by decide) (by decide) _ h), strB_of]) w)
  have A5 := hid (fun (h : plainL s.data.toList = true) w => ahead_of s s 34 34 rfl (by rw [ahead_none (plain_none (by decide) (by decide) _ h), strB_of]) w)
  generalize strB (escAll s.data.toList) = x at *
  clear hla hld haz
  go_wp2_with fail
  go_loopw [4, 5] (fun f i wr => ∃ k : Nat, k ≤ s.size ∧ i = .int .i64 k ∧ f = .bool ((s.data.toList.take k).all fairB) ∧ Below w1.heap.size w1 wr) (fun _ i _ => s.size - (intOf i).toNat)
  case atStart => exact ⟨0, Nat.zero_le _, rfl, rfl, Below.refl _ _⟩
  case round =>
    obtain ⟨k, hk, rfl, rfl, hbw⟩ := hrel
    have HBW := hid hbw
    clear hbw
    by_cases hlt : k < s.size
    · have hall : (s.data.toList.take (k + 1)).all fairB = ((s.data.toList.take k).all fairB && fairB s[k]) := by rw [take_snocE s k hlt, List.all_append]; simp
      have hx1 : (s[k]).toNat < 256 := s[k].toNat_lt
      have HALL := hid hall
      clear hall
      cases hf : (s.data.toList.take k).all fairB
      · have HNX : Hid ((s.data.toList.take (k + 1)).all fairB = false) := hid (by rw [HALL.out, hf]; rfl)
        clear hf
        go_wp2_with fail
        go_roundw
        case rel => exact ⟨k + 1, by omega, by go_num, by rw [HNX.out], HBW.out⟩
        case measure => simp [intOf]; omega
      · by_cases h32 : 32 ≤ (s[k]).toNat
        · by_cases h126 : (s[k]).toNat ≤ 126
          · have d1 : decide (32 ≤ ((s[k]).toNat : Int)) = true := decide_eq_true (by omega)
            have d2 : decide (((s[k]).toNat : Int) ≤ 126) = true := decide_eq_true (by omega)
            have HNX : Hid ((s.data.toList.take (k + 1)).all fairB = true) := hid (by rw [HALL.out, hf]; unfold fairB; rw [decide_eq_true h32, decide_eq_true h126]; rfl)
            clear hf
            go_wp2_with fail
            go_roundw
            case rel => exact ⟨k + 1, by omega, by go_num, by rw [HNX.out], HBW.out⟩
            case measure => simp [intOf]; omega
          · have d1 : decide (32 ≤ ((s[k]).toNat : Int)) = true := decide_eq_true (by omega)
            have d2 : decide (((s[k]).toNat : Int) ≤ 126) = false := decide_eq_false (by omega)
            have HNX : Hid ((s.data.toList.take (k + 1)).all fairB = false) := hid (by rw [HALL.out, hf]; unfold fairB; rw [decide_eq_true h32, decide_eq_false h126]; rfl)
            clear hf
            go_wp2_with fail
            go_roundw
            case rel => exact ⟨k + 1, by omega, by go_num, by rw [HNX.out], HBW.out⟩
            case measure => simp [intOf]; omega
        · have d1 : decide (32 ≤ ((s[k]).toNat : Int)) = false := decide_eq_false (by omega)
          have HNX : Hid ((s.data.toList.take (k + 1)).all fairB = false) := hid (by rw [HALL.out, hf]; unfold fairB; rw [decide_eq_false h32]; rfl)
          clear hf
          go_wp2_with fail
          go_roundw
          case rel => exact ⟨k + 1, by omega, by go_num, by rw [HNX.out], HBW.out⟩
          case measure => simp [intOf]; omega
    · obtain rfl : k = s.size := by omega
      rw [take_allE]
      have HB := hid (HB.out.trans (HBW.out.mono HB.out.size))
      rw [← HFA.out]
      cases hpx : plainL (escAll s.data.toList)
      all_goals cases hse : (escAll (decE s.data.toList) == s.data.toList)
      all_goals cases hps : plainL s.data.toList
      · have P1 := hid (P1.out false hpx)
        have SF := hid (SF.out false hse)
        have PF := hid (PF.out false hps)
        clear hpx hse hps
        go_wp2_with fail
        refine (E1.out _).mono ?_
        rintro e w24 ⟨rfl, hb24⟩
        have HB := hid (HB.out.trans (hb24.mono HB.out.size))
        clear hb24
        go_wp2_with fail
        refine (P1.out _).mono ?_
        rintro e w25 ⟨rfl, hb25⟩
        have HB := hid (HB.out.trans (hb25.mono HB.out.size))
        clear hb25
        go_wp2_with fail
        refine (A1.out _).mono ?_
        rintro e w' ⟨rfl, rfl⟩
        go_wp2_with fail
        refine (A2.out _).mono ?_
        rintro e w' ⟨rfl, rfl⟩
        go_wp2_with fail
        refine (A3.out _).mono ?_
        rintro e w' ⟨rfl, rfl⟩
        go_wp2_with fail
        refine (SF.out _).mono ?_
        rintro e w26 ⟨rfl, hb26⟩
        have HB := hid (HB.out.trans (hb26.mono HB.out.size))
        clear hb26
        go_wp2_with fail
        refine (PF.out _).mono ?_
        rintro e w27 ⟨rfl, hb27⟩
        have HB := hid (HB.out.trans (hb27.mono HB.out.size))
        clear hb27
        go_wp2_with fail
        go_ret
        exact ⟨rfl, HB.out⟩
      · have P1 := hid (P1.out false hpx)
        have SF := hid (SF.out false hse)
        have PF := hid (PF.out true hps)
        have A4 := hid (A4.out hps)
        have A5 := hid (A5.out hps)
        clear hpx hse hps
        go_wp2_with fail
        refine (E1.out _).mono ?_
        rintro e w28 ⟨rfl, hb28⟩
        have HB := hid (HB.out.trans (hb28.mono HB.out.size))
        clear hb28
        go_wp2_with fail
        refine (P1.out _).mono ?_
        rintro e w29 ⟨rfl, hb29⟩
        have HB := hid (HB.out.trans (hb29.mono HB.out.size))
        clear hb29
        go_wp2_with fail
        refine (A1.out _).mono ?_
        rintro e w' ⟨rfl, rfl⟩
        go_wp2_with fail
        refine (A2.out _).mono ?_
        rintro e w' ⟨rfl, rfl⟩
        go_wp2_with fail
        refine (A3.out _).mono ?_
        rintro e w' ⟨rfl, rfl⟩
        go_wp2_with fail
        refine (SF.out _).mono ?_
        rintro e w30 ⟨rfl, hb30⟩
        have HB := hid (HB.out.trans (hb30.mono HB.out.size))
        clear hb30
        go_wp2_with fail
        refine (PF.out _).mono ?_
        rintro e w31 ⟨rfl, hb31⟩
        have HB := hid (HB.out.trans (hb31.mono HB.out.size))
        clear hb31
        go_wp2_with fail
        refine (A4.out _).mono ?_
        rintro e w' ⟨rfl, rfl⟩
        go_wp2_with fail
        refine (A5.out _).mono ?_
        rintro e w' ⟨rfl, rfl⟩
        go_wp2_with fail
        go_ret
        exact ⟨rfl, HB.out⟩
      · have P1 := hid (P1.out false hpx)
        have SF := hid (SF.out true hse)
        have PF := hid (PF.out false hps)
        have E2 := hid (E2.out hse)
        clear hpx hse hps
        go_wp2_with fail
        refine (E1.out _).mono ?_
        rintro e w32 ⟨rfl, hb32⟩
        have HB := hid (HB.out.trans (hb32.mono HB.out.size))
        clear hb32
        go_wp2_with fail
        refine (P1.out _).mono ?_
        rintro e w33 ⟨rfl, hb33⟩
        have HB := hid (HB.out.trans (hb33.mono HB.out.size))
        clear hb33
        go_wp2_with fail
        refine (A1.out _).mono ?_
        rintro e w' ⟨rfl, rfl⟩
        go_wp2_with fail
        refine (A2.out _).mono ?_
        rintro e w' ⟨rfl, rfl⟩
        go_wp2_with fail
        refine (A3.out _).mono ?_
        rintro e w' ⟨rfl, rfl⟩
        go_wp2_with fail
        refine (SF.out _).mono ?_
        rintro e w34 ⟨rfl, hb34⟩
        have HB := hid (HB.out.trans (hb34.mono HB.out.size))
        clear hb34
        go_wp2_with fail
        refine (D1.out _).mono ?_
        rintro e w35 ⟨rfl, hb35⟩
        have HB := hid (HB.out.trans (hb35.mono HB.out.size))
        clear hb35
        go_wp2_with fail
        refine (E2.out _).mono ?_
        rintro e w36 ⟨rfl, hb36⟩
        have HB := hid (HB.out.trans (hb36.mono HB.out.size))
        clear hb36
        go_wp2_with fail
        refine (PF.out _).mono ?_
        rintro e w37 ⟨rfl, hb37⟩
        have HB := hid (HB.out.trans (hb37.mono HB.out.size))
        clear hb37
        go_wp2_with fail
        go_ret
        exact ⟨rfl, HB.out⟩
      · have P1 := hid (P1.out false hpx)
        have SF := hid (SF.out true hse)
        have PF := hid (PF.out true hps)
        have E2 := hid (E2.out hse)
        have A4 := hid (A4.out hps)
        have A5 := hid (A5.out hps)
        clear hpx hse hps
        go_wp2_with fail
        refine (E1.out _).mono ?_
        rintro e w38 ⟨rfl, hb38⟩
        have HB := hid (HB.out.trans (hb38.mono HB.out.size))
        clear hb38
        go_wp2_with fail
        refine (P1.out _).mono ?_
        rintro e w39 ⟨rfl, hb39⟩
        have HB := hid (HB.out.trans (hb39.mono HB.out.size))
        clear hb39
        go_wp2_with fail
        refine (A1.out _).mono ?_
        rintro e w' ⟨rfl, rfl⟩
        go_wp2_with fail
        refine (A2.out _).mono ?_
        rintro e w' ⟨rfl, rfl⟩
        go_wp2_with fail
        refine (A3.out _).mono ?_
        rintro e w' ⟨rfl, rfl⟩
        go_wp2_with fail
        refine (SF.out _).mono ?_
        rintro e w40 ⟨rfl, hb40⟩
        have HB := hid (HB.out.trans (hb40.mono HB.out.size))
        clear hb40
        go_wp2_with fail
        refine (D1.out _).mono ?_
        rintro e w41 ⟨rfl, hb41⟩
        have HB := hid (HB.out.trans (hb41.mono HB.out.size))
        clear hb41
        go_wp2_with fail
        refine (E2.out _).mono ?_
        rintro e w42 ⟨rfl, hb42⟩
        have HB := hid (HB.out.trans (hb42.mono HB.out.size))
        clear hb42
        go_wp2_with fail
        refine (PF.out _).mono ?_
        rintro e w43 ⟨rfl, hb43⟩
        have HB := hid (HB.out.trans (hb43.mono HB.out.size))
        clear hb43
        go_wp2_with fail
        refine (A4.out _).mono ?_
        rintro e w' ⟨rfl, rfl⟩
        go_wp2_with fail
        refine (A5.out _).mono ?_
        rintro e w' ⟨rfl, rfl⟩
        go_wp2_with fail
        go_ret
        exact ⟨rfl, HB.out⟩
      · have P1 := hid (P1.out true hpx)
        have SF := hid (SF.out false hse)
        have PF := hid (PF.out false hps)
        clear hpx hse hps
        go_wp2_with fail
        refine (E1.out _).mono ?_
        rintro e w44 ⟨rfl, hb44⟩
        have HB := hid (HB.out.trans (hb44.mono HB.out.size))
        clear hb44
        go_wp2_with fail
        refine (P1.out _).mono ?_
        rintro e w45 ⟨rfl, hb45⟩
        have HB := hid (HB.out.trans (hb45.mono HB.out.size))
        clear hb45
        go_wp2_with fail
        refine (A1.out _).mono ?_
        rintro e w' ⟨rfl, rfl⟩
        go_wp2_with fail
        refine (A2.out _).mono ?_
        rintro e w' ⟨rfl, rfl⟩
        go_wp2_with fail
        refine (A3.out _).mono ?_
        rintro e w' ⟨rfl, rfl⟩
        go_wp2_with fail
        refine (SF.out _).mono ?_
        rintro e w46 ⟨rfl, hb46⟩
        have HB := hid (HB.out.trans (hb46.mono HB.out.size))
        clear hb46
        go_wp2_with fail
        refine (PF.out _).mono ?_
        rintro e w47 ⟨rfl, hb47⟩
        have HB := hid (HB.out.trans (hb47.mono HB.out.size))
        clear hb47
        go_wp2_with fail
        go_ret
        exact ⟨rfl, HB.out⟩
      · have P1 := hid (P1.out true hpx)
        have SF := hid (SF.out false hse)
        have PF := hid (PF.out true hps)
        have A4 := hid (A4.out hps)
        have A5 := hid (A5.out hps)
        clear hpx hse hps
        go_wp2_with fail
        refine (E1.out _).mono ?_
        rintro e w48 ⟨rfl, hb48⟩
        have HB := hid (HB.out.trans (hb48.mono HB.out.size))
        clear hb48
        go_wp2_with fail
        refine (P1.out _).mono ?_
        rintro e w49 ⟨rfl, hb49⟩
        have HB := hid (HB.out.trans (hb49.mono HB.out.size))
        clear hb49
        go_wp2_with fail
        refine (A1.out _).mono ?_
        rintro e w' ⟨rfl, rfl⟩
        go_wp2_with fail
        refine (A2.out _).mono ?_
        rintro e w' ⟨rfl, rfl⟩
        go_wp2_with fail
        refine (A3.out _).mono ?_
        rintro e w' ⟨rfl, rfl⟩
        go_wp2_with fail
        refine (SF.out _).mono ?_
        rintro e w50 ⟨rfl, hb50⟩
        have HB := hid (HB.out.trans (hb50.mono HB.out.size))
        clear hb50
        go_wp2_with fail
        refine (PF.out _).mono ?_
        rintro e w51 ⟨rfl, hb51⟩
        have HB := hid (HB.out.trans (hb51.mono HB.out.size))
        clear hb51
        go_wp2_with fail
        refine (A4.out _).mono ?_
        rintro e w' ⟨rfl, rfl⟩
        go_wp2_with fail
        refine (A5.out _).mono ?_
        rintro e w' ⟨rfl, rfl⟩
        go_wp2_with fail
        go_ret
        exact ⟨rfl, HB.out⟩
      · have P1 := hid (P1.out true hpx)
        have SF := hid (SF.out true hse)
        have PF := hid (PF.out false hps)
        have E2 := hid (E2.out hse)
        clear hpx hse hps
        go_wp2_with fail
        refine (E1.out _).mono ?_
        rintro e w52 ⟨rfl, hb52⟩
        have HB := hid (HB.out.trans (hb52.mono HB.out.size))
        clear hb52
        go_wp2_with fail
        refine (P1.out _).mono ?_
        rintro e w53 ⟨rfl, hb53⟩
        have HB := hid (HB.out.trans (hb53.mono HB.out.size))
        clear hb53
        go_wp2_with fail
        refine (A1.out _).mono ?_
        rintro e w' ⟨rfl, rfl⟩
        go_wp2_with fail
        refine (A2.out _).mono ?_
        rintro e w' ⟨rfl, rfl⟩
        go_wp2_with fail
        refine (A3.out _).mono ?_
        rintro e w' ⟨rfl, rfl⟩
        go_wp2_with fail
        refine (SF.out _).mono ?_
        rintro e w54 ⟨rfl, hb54⟩
        have HB := hid (HB.out.trans (hb54.mono HB.out.size))
        clear hb54
        go_wp2_with fail
        refine (D1.out _).mono ?_
        rintro e w55 ⟨rfl, hb55⟩
        have HB := hid (HB.out.trans (hb55.mono HB.out.size))
        clear hb55
        go_wp2_with fail
        refine (E2.out _).mono ?_
        rintro e w56 ⟨rfl, hb56⟩
        have HB := hid (HB.out.trans (hb56.mono HB.out.size))
        clear hb56
        go_wp2_with fail
        refine (PF.out _).mono ?_
        rintro e w57 ⟨rfl, hb57⟩
        have HB := hid (HB.out.trans (hb57.mono HB.out.size))
        clear hb57
        go_wp2_with fail
        go_ret
        exact ⟨rfl, HB.out⟩
      · have P1 := hid (P1.out true hpx)
        have SF := hid (SF.out true hse)
        have PF := hid (PF.out true hps)
        have E2 := hid (E2.out hse)
        have A4 := hid (A4.out hps)
        have A5 := hid (A5.out hps)
        clear hpx hse hps
        go_wp2_with fail
        refine (E1.out _).mono ?_
        rintro e w58 ⟨rfl, hb58⟩
        have HB := hid (HB.out.trans (hb58.mono HB.out.size))
        clear hb58
        go_wp2_with fail
        refine (P1.out _).mono ?_
        rintro e w59 ⟨rfl, hb59⟩
        have HB := hid (HB.out.trans (hb59.mono HB.out.size))
        clear hb59
        go_wp2_with fail
        refine (A1.out _).mono ?_
        rintro e w' ⟨rfl, rfl⟩
        go_wp2_with fail
        refine (A2.out _).mono ?_
        rintro e w' ⟨rfl, rfl⟩
        go_wp2_with fail
        refine (A3.out _).mono ?_
        rintro e w' ⟨rfl, rfl⟩
        go_wp2_with fail
        refine (SF.out _).mono ?_
        rintro e w60 ⟨rfl, hb60⟩
        have HB := hid (HB.out.trans (hb60.mono HB.out.size))
        clear hb60
        go_wp2_with fail
        refine (D1.out _).mono ?_
        rintro e w61 ⟨rfl, hb61⟩
        have HB := hid (HB.out.trans (hb61.mono HB.out.size))
        clear hb61
        go_wp2_with fail
        refine (E2.out _).mono ?_
        rintro e w62 ⟨rfl, hb62⟩
        have HB := hid (HB.out.trans (hb62.mono HB.out.size))
        clear hb62
        go_wp2_with fail
        refine (PF.out _).mono ?_
        rintro e w63 ⟨rfl, hb63⟩
        have HB := hid (HB.out.trans (hb63.mono HB.out.size))
        clear hb63
        go_wp2_with fail
        refine (A4.out _).mono ?_
        rintro e w' ⟨rfl, rfl⟩
        go_wp2_with fail
        refine (A5.out _).mono ?_
        rintro e w' ⟨rfl, rfl⟩
        go_wp2_with fail
        go_ret
        exact ⟨rfl, HB.out⟩
end Go.Proofs.Ytmcjljjagfpkkaa
