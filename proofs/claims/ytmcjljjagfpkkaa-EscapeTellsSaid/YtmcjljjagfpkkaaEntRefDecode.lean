/-
  The contract of the document's Decode. Conditions: the text has at most 20000 bytes.
-/
import Derived.Test.YtmcjljjagfpkkaaEntRefName
import Derived.Test.YtmcjljjagfpkkaaEntPlainW
set_option linter.all false
namespace Go.Proofs.Ytmcjljjagfpkkaa
open Go.RowKit
theorem refNum_some (s : ByteArray) (r t : List UInt8) (n : Nat) (h : numTop r = some (t, n)) (hs : s.data.toList = r) (hz : s.size ≤ 100000) (w : World) :
    Calls Try.prog 45 #[.string s] w fun e w' => e = .returned (.tuple #[.string (strB t), .int .i64 (n : Int)]) ∧ Below w.heap.size w w' := by
  have := refNum_calls s r w hs hz
  rw [h] at this
  exact this
theorem refNum_no (s : ByteArray) (r : List UInt8) (h : numTop r = none) (hs : s.data.toList = r) (hz : s.size ≤ 100000) (w : World) :
    Calls Try.prog 45 #[.string s] w fun e w' => e = .returned (.tuple #[.string ⟨#[]⟩, .int .i64 0]) ∧ Below w.heap.size w w' := by
  have := refNum_calls s r w hs hz
  rw [h] at this
  exact this
theorem refName_some (s : ByteArray) (r t : List UInt8) (n : Nat) (h : nameE r = some (t, n)) (hs : s.data.toList = r) (hz : s.size ≤ 100000) (w : World) :
    Calls Try.prog 46 #[.string s] w fun e w' => e = .returned (.tuple #[.string (strB t), .int .i64 (n : Int)]) ∧ Below w.heap.size w w' := by
  have := refName_calls s r w hs hz
  rw [h] at this
  exact this
theorem refName_no (s : ByteArray) (r : List UInt8) (h : nameE r = none) (hs : s.data.toList = r) (hz : s.size ≤ 100000) (w : World) :
    Calls Try.prog 46 #[.string s] w fun e w' => e = .returned (.tuple #[.string ⟨#[]⟩, .int .i64 0]) ∧ Below w.heap.size w w' := by
  have := refName_calls s r w hs hz
  rw [h] at this
  exact this
set_option maxHeartbeats 8000000 in
set_option maxRecDepth 100000 in
theorem refDecode_calls (s : ByteArray) (w : World) (hs : s.size ≤ 20000) :
    Calls Try.prog 19 #[.string s] w fun e w' => e = .returned (.string (strB (decE s.data.toList))) ∧ Below w.heap.size w w' := by
  have hlen : s.data.toList.length = s.size := by simp
  have HLEN := hid hlen
  clear hlen
  go_enter Try.func19, Try.ntmps19
  go_wp2_with fail
  go_loopw [3, 4] (fun o i wr => ∃ (p : Nat) (l : List UInt8), p ≤ s.size ∧ i = .int .i64 p ∧ o = .string (strB l) ∧ Hid (decE s.data.toList = l ++ decE (s.data.toList.drop p)) ∧ l.length ≤ p ∧ Below w.heap.size w wr) (fun _ i _ => s.size - (intOf i).toNat)
  case atStart => exact ⟨0, [], Nat.zero_le _, rfl, rfl, hid (by simp), Nat.le_refl _, Below.refl _ _⟩
  case round =>
    obtain ⟨p, l, hp, rfl, rfl, hdec, hlp, hbw⟩ := hrel
    have HBW := hid hbw
    clear hbw
    have hlz : (strB l).size ≤ 20000 := by rw [strB_size]; omega
    by_cases hlt : p < s.size
    · have hdr : s.data.toList.drop p = s[p] :: s.data.toList.drop (p + 1) := by rw [List.drop_eq_getElem_cons (by rw [HLEN.out]; exact hlt)]; rfl
      obtain ⟨q, hq⟩ : ∃ q, q = p + 1 := ⟨_, rfl⟩
      have hWq : IntKind.i64.wrap ((p : Int) + 1) = (q : Int) := by rw [IntWalk.i64_in _ (by omega)]; omega
      have hpq : p ≤ q := by omega
      have hqs : q ≤ s.size := by omega
      have hcut1 : s.extract p q = strB [s[p]] := by
        rw [ext_listE, hdr, hq, Nat.add_sub_cancel_left]
        rfl
      have hcutr : s.extract q s.size = strB (s.data.toList.drop q) := by rw [ext_listE, List.take_of_length_le (by simp)]
      have hrl : (s.data.toList.drop q).length ≤ s.size - q := by rw [List.length_drop, HLEN.out]; exact Nat.le_refl _
      rw [← hq] at hdr
      have h38 := byte_eq s[p] 38 (by decide)
      have hone : strB l ++ strB [s[p]] = strB (l ++ [s[p]]) := (strB_app _ _).symm
      have h1z : (strB [s[p]]).size = 1 := strB_size _
      have HQ := hid hq
      have HONE := hid hone
      have HDR := hid hdr
      clear hone hdr
      cases hc : (((s[p]).toNat : Int) == 38)
      · have hne : s[p] ≠ 38 := by
          have h' : (((s[p]).toNat : Int) == 38) = (s[p] == 38) := h38
          rw [hc] at h'
          intro e
          rw [e] at h'
          revert h'
          decide
        have HNX : Hid (decE s.data.toList = (l ++ [s[p]]) ++ decE (s.data.toList.drop q)) := hid (by rw [hdec.out, HDR.out, decE_other _ hne]; simp)
        clear h38 hne hcutr hq
        go_wp2_with fail
        go_roundw
        case rel => exact ⟨q, l ++ [s[p]], by omega, rfl, by rw [HONE.out], HNX, by simp; have := HQ.out; omega, HBW.out⟩
        case measure => have := HQ.out; simp [intOf]; omega
      · have heq : s[p] = 38 := by
          have h' : (((s[p]).toNat : Int) == 38) = (s[p] == 38) := h38
          rw [hc] at h'
          simpa using h'.symm
        have hrz : (strB (s.data.toList.drop q)).size ≤ 100000 := by rw [strB_size]; omega
        have htwo := refE_two (s.data.toList.drop q)
        have HEQ := hid heq
        have HCUT1 := hid hcut1
        have HWQ := hid hWq
        clear h38 hq heq
        cases hnt : numTop (s.data.toList.drop q) with
        | some x =>
          obtain ⟨t, n⟩ := x
          rw [hnt] at htwo
          have hre : refE (s.data.toList.drop q) = some (t, n) := htwo
          obtain ⟨ht1, ht2, ht3⟩ := refE_len hre
          have HN := hid (fun w => refNum_some (strB (s.data.toList.drop q)) _ t n hnt (strB_list _) hrz w)
          have hqp := HQ.out
          obtain ⟨z, hz⟩ : ∃ z, z = p + n := ⟨_, rfl⟩
          obtain ⟨y, hy⟩ : ∃ y, y = z + 1 := ⟨_, rfl⟩
          have hWz : IntKind.i64.wrap ((p : Int) + (n : Int)) = (z : Int) := by rw [IntWalk.i64_in _ (by omega)]; omega
          have hWy : IntKind.i64.wrap ((z : Int) + 1) = (y : Int) := by rw [IntWalk.i64_in _ (by omega)]; omega
          have HNX : Hid (decE s.data.toList = (l ++ t) ++ decE (s.data.toList.drop y)) := hid (by
            have h1 := HDR.out
            rw [HEQ.out] at h1
            rw [hdec.out, h1, decE_some hre, List.drop_drop, hy, hz, HQ.out]
            rw [show p + 1 + n = p + n + 1 by omega]
            simp)
          have htz : (strB t).size ≤ 20000 := by rw [strB_size]; omega
          have hsum : strB l ++ strB t = strB (l ++ t) := (strB_app _ _).symm
          have HSUM := hid hsum
          have hn0 : ((n : Int) == 0) = false := by rw [beq_eq_false_iff_ne]; omega
          have hnp : 0 < n := ht2
          have hys : y ≤ s.size := by omega
          have HY := hid hy
          have HZ := hid hz
          have hlt2 : (l ++ t).length ≤ y := by simp; have := HQ.out; omega
          clear hnt htwo hre hsum hy hz ht2 hqp
          go_wp2_with fail
          refine (HN.out _).mono ?_
          rintro e w4 ⟨rfl, hb4⟩
          have HB4 := hid (HBW.out.trans (hb4.mono HBW.out.size))
          clear hb4 hcutr hcut1 hWq
          go_wp2_with fail
          go_roundw
          case rel => exact ⟨y, l ++ t, hys, rfl, by rw [HSUM.out], HNX, hlt2, HB4.out⟩
          case measure => have := HY.out; have := HZ.out; simp [intOf]; omega
        | none =>
          rw [hnt] at htwo
          have hre : refE (s.data.toList.drop q) = nameE (s.data.toList.drop q) := htwo
          have HN := hid (fun w => refNum_no (strB (s.data.toList.drop q)) _ hnt (strB_list _) hrz w)
          clear hnt htwo
          cases hne : nameE (s.data.toList.drop q) with
          | some x =>
            obtain ⟨t, n⟩ := x
            rw [hne] at hre
            obtain ⟨ht1, ht2, ht3⟩ := refE_len hre
            have HM := hid (fun w => refName_some (strB (s.data.toList.drop q)) _ t n hne (strB_list _) hrz w)
            have hqp := HQ.out
            obtain ⟨z, hz⟩ : ∃ z, z = p + n := ⟨_, rfl⟩
            obtain ⟨y, hy⟩ : ∃ y, y = z + 1 := ⟨_, rfl⟩
            have hWz : IntKind.i64.wrap ((p : Int) + (n : Int)) = (z : Int) := by rw [IntWalk.i64_in _ (by omega)]; omega
            have hWy : IntKind.i64.wrap ((z : Int) + 1) = (y : Int) := by rw [IntWalk.i64_in _ (by omega)]; omega
            have HNX : Hid (decE s.data.toList = (l ++ t) ++ decE (s.data.toList.drop y)) := hid (by
              have h1 := HDR.out
              rw [HEQ.out] at h1
              rw [hdec.out, h1, decE_some hre, List.drop_drop, hy, hz, HQ.out]
              rw [show p + 1 + n = p + n + 1 by omega]
              simp)
            have htz : (strB t).size ≤ 20000 := by rw [strB_size]; omega
            have hsum : strB l ++ strB t = strB (l ++ t) := (strB_app _ _).symm
            have HSUM := hid hsum
            have hn0 : ((n : Int) == 0) = false := by rw [beq_eq_false_iff_ne]; omega
            have hnp : 0 < n := ht2
            have hys : y ≤ s.size := by omega
            have HY := hid hy
            have HZ := hid hz
            have hlt2 : (l ++ t).length ≤ y := by simp; have := HQ.out; omega
            clear hne hre hsum hy hz ht2 hqp
            go_wp2_with fail
            refine (HN.out _).mono ?_
            rintro e w4 ⟨rfl, hb4⟩
            have HB4 := hid (HBW.out.trans (hb4.mono HBW.out.size))
            clear hb4
            go_wp2_with fail
            refine (HM.out _).mono ?_
            rintro e w5 ⟨rfl, hb5⟩
            have HB5 := hid (HB4.out.trans (hb5.mono HB4.out.size))
            clear hb5 hcutr hcut1 hWq
            go_wp2_with fail
            go_roundw
            case rel => exact ⟨y, l ++ t, hys, rfl, by rw [HSUM.out], HNX, hlt2, HB5.out⟩
            case measure => have := HY.out; have := HZ.out; simp [intOf]; omega
          | none =>
            rw [hne] at hre
            have HM := hid (fun w => refName_no (strB (s.data.toList.drop q)) _ hne (strB_list _) hrz w)
            have HNX : Hid (decE s.data.toList = (l ++ [s[p]]) ++ decE (s.data.toList.drop q)) := hid (by
              have h1 := HDR.out
              rw [HEQ.out] at h1
              rw [hdec.out, h1, decE_none hre, HEQ.out]
              simp)
            clear hne hre
            go_wp2_with fail
            refine (HN.out _).mono ?_
            rintro e w4 ⟨rfl, hb4⟩
            have HB4 := hid (HBW.out.trans (hb4.mono HBW.out.size))
            clear hb4
            go_wp2_with fail
            refine (HM.out _).mono ?_
            rintro e w5 ⟨rfl, hb5⟩
            have HB5 := hid (HB4.out.trans (hb5.mono HB4.out.size))
            clear hb5 hcutr
            go_wp2_with fail
            go_roundw
            case rel => exact ⟨q, l ++ [s[p]], by omega, rfl, by rw [HONE.out], HNX, by simp; have := HQ.out; omega, HB5.out⟩
            case measure => have := HQ.out; simp [intOf]; omega
    · obtain rfl : p = s.size := by omega
      have HF : Hid (decE s.data.toList = l) := hid (by rw [hdec.out, List.drop_eq_nil_of_le (by simp), decE_nil, List.append_nil])
      go_wp2_with fail
      go_ret
      exact ⟨by rw [HF.out]; rfl, HBW.out⟩
end Go.Proofs.Ytmcjljjagfpkkaa
