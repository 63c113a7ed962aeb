/-
  The walk of PercentOnce: it returns true. Conditions: none but that the text is one.
-/
import Derived.Test.YtmkgjleojfggcaaPctBack
set_option linter.all false
namespace Go.Proofs.Ytmkgjleojfggcaa
open Go.RowKit

set_option maxHeartbeats 4000000 in
theorem percentOnce_core (s : ByteArray) (set : Int) (w : World) (hs : s.size ≤ 1000) :
    Calls Try.prog 10 #[.string s, .int .i64 set] w fun e w' => e = .returned (.bool true) ∧ Below w.heap.size w w' := by
  have hs5 : s.size ≤ 5000 := by omega
  have hlen : s.data.toList.length = s.size := by simp
  have HLEN := hid hlen
  clear hlen
  go_enter Try.func10, Try.ntmps10
  go_wp2_with fail
  refine (pctSmall_calls _).mono ?_
  rintro e w1 ⟨rfl, hb1⟩
  go_wp2_with fail
  refine (encode_calls s set _ hs5).mono ?_
  rintro e w2 ⟨rfl, hb2⟩
  have hb2 := below_then hb1 hb2
  clear hb1
  obtain ⟨xs, hxs⟩ : ∃ xs : ByteArray, (⟨(encL set s.data.toList).toArray⟩ : ByteArray) = xs := ⟨_, rfl⟩
  have hX : xs.data.toList = encL set s.data.toList := by rw [← hxs]
  have hxl : xs.size = s.size + 2 * encN set s.data.toList := by
    have h1 : xs.data.toList.length = xs.size := by simp
    rw [← h1, hX, encL_length, HLEN.out]
  have hen := encN_le set s.data.toList
  rw [HLEN.out] at hen
  have hout : ∀ j (h : j < xs.size), xs[j] = 37 ∨ inSet set xs[j] = false := fun j h => by
    have hm : xs[j] ∈ encL set s.data.toList := by rw [← hX]; exact List.getElem_mem (by simpa using h)
    exact encL_out set _ _ hm
  have honce : set ≠ 6 → (⟨(encL set xs.data.toList).toArray⟩ : ByteArray) = xs := fun h => by
    rw [hX, encL_once h]; exact hxs
  rw [hxs]
  have HX := hid hX
  have HXL := hid hxl
  have HOUT := hid hout
  have HONCE := hid honce
  clear hX hout honce hxs
  have hx3 : xs.size ≤ 3000 := by omega
  clear hxl
  go_wp2_with fail
  go_loop [7, 8] (fun n i => ∃ k : Nat, k ≤ s.size ∧ i = .int .i64 k ∧ n = .int .i64 ((s.size + 2 * encN set (s.data.toList.take k) : Nat) : Int)) (fun _ i => s.size - (intOf i).toNat)
  case atStart => exact ⟨0, Nat.zero_le _, rfl, rfl⟩
  case round =>
    obtain ⟨k, hk, rfl, rfl⟩ := hrel
    have hek := encN_le set (s.data.toList.take k)
    have hkl : (s.data.toList.take k).length ≤ k := List.length_take_le _ _
    by_cases hlt : k < s.size
    · have hn : Hid (encN set (s.data.toList.take (k + 1)) = encN set (s.data.toList.take k) + if inSet set s[k] = true then 1 else 0) := hid (by rw [take_snocB s k hlt, encN_snoc])
      have hx1 : (s[k]).toNat < 256 := s[k].toNat_lt
      cases hi : inSet set s[k] with
      | false =>
        have HI := hid hi
        go_wp2_with fail
        refine (in_calls set s[k] _).mono ?_
        rintro e w3 ⟨rfl, rfl⟩
        rw [hi]
        clear hi
        go_wp2_with fail
        go_round
        case rel => exact ⟨k + 1, by omega, by go_num, by rw [hn.out, HI.out]; rfl⟩
        case measure => simp [intOf]; omega
      | true =>
        have HI := hid hi
        generalize encN set (s.data.toList.take k) = en at *
        go_wp2_with fail
        refine (in_calls set s[k] _).mono ?_
        rintro e w3 ⟨rfl, rfl⟩
        rw [hi]
        clear hi
        go_wp2_with fail
        go_round
        case rel => exact ⟨k + 1, by omega, by go_num, by rw [hn.out, HI.out]; simp; omega⟩
        case measure => simp [intOf]; omega
    · obtain rfl : k = s.size := by omega
      rw [take_all]
      clear hek hkl
      obtain ⟨n, hn⟩ : ∃ n, n = s.size + 2 * encN set s.data.toList := ⟨_, rfl⟩
      rw [← hn]
      have hnx : xs.size = n := by rw [HXL.out, hn]
      clear hn
      subst hnx
      clear hen
      go_wp2_with fail
      go_loop [9] (fun i => ∃ k : Nat, k ≤ xs.size ∧ i = .int .i64 k) (fun i => xs.size - (intOf i).toNat)
      case atStart => exact ⟨0, Nat.zero_le _, rfl⟩
      case round =>
        obtain ⟨k, hk, rfl⟩ := hrel
        by_cases hlt : k < xs.size
        · have hx1 : (xs[k]).toNat < 256 := xs[k].toNat_lt
          have ho := HOUT.out k hlt
          by_cases hc : xs[k] = 37
          · have h1 : (((xs[k]).toNat : Int) != 37) = false := by rw [hc]; rfl
            clear ho hc
            go_wp2_with fail
            go_round
            case rel => exact ⟨k + 1, by omega, by go_num⟩
            case measure => simp [intOf]; omega
          · have h1 : (((xs[k]).toNat : Int) != 37) = true := by
              simp only [bne_iff_ne, ne_eq]
              intro h
              exact hc (UInt8.toNat_inj.1 (by show xs[k].toNat = 37; omega))
            have hi : inSet set xs[k] = false := by
              rcases ho with h | h
              · exact absurd h hc
              · exact h
            clear ho hc
            go_wp2_with fail
            refine (in_calls set xs[k] _).mono ?_
            rintro e w3 ⟨rfl, rfl⟩
            rw [hi]
            clear hi
            go_wp2_with fail
            go_round
            case rel => exact ⟨k + 1, by omega, by go_num⟩
            case measure => simp [intOf]; omega
        · obtain rfl : k = xs.size := by omega
          by_cases h6 : set = 6
          · subst h6
            go_wp2_with fail
            go_ret
            exact ⟨rfl, hb2⟩
          · have h6b : (set == 6) = false := by simpa using h6
            have he := HONCE.out h6
            have HE := hid he
            clear he h6
            go_wp2_with fail
            refine (encode_calls xs set _ (by omega)).mono ?_
            rintro e w4 ⟨rfl, hb4⟩
            have hb4 := below_then hb2 hb4
            rw [HE.out]
            go_wp2_with fail
            go_ret
            exact ⟨rfl, hb4⟩

theorem percentOnce_walk (s : ByteArray) (set : Int) (w : World) (hs : s.size ≤ maxLen) (_hset : (Lit.int .i64 set).wf = true) :
    Calls Try.prog 10 #[.string s, .int .i64 set] w fun e w' => e = .returned (.bool true) ∧ Below w.heap.size w w' := by
  unfold maxLen at hs
  by_cases h1 : 1000 < s.size
  · go_enter Try.func10, Try.ntmps10
    go_wp2_with fail
    refine (pctSmall_calls _).mono ?_
    rintro e w1 ⟨rfl, hb1⟩
    go_wp2_with fail
    go_ret
    exact ⟨rfl, hb1⟩
  · exact percentOnce_core s set w (by omega)
end Go.Proofs.Ytmkgjleojfggcaa
