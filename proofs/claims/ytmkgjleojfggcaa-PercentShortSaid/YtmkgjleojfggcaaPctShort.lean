/-
  The walk of PercentShort: it returns true. Conditions: none but that the text is one.
-/
import Derived.Test.YtmkgjleojfggcaaPctBack
set_option linter.all false
namespace Go.Proofs.Ytmkgjleojfggcaa
open Go.RowKit

/-- How often a sign of percent stands ahead of two digits, as it is decoded. -/
def hitN : List UInt8 → Nat
  | c :: h :: l :: r => if c = 37 ∧ isHex h l = true then hitN r + 1 else hitN (h :: l :: r)
  | _ :: r => hitN r
  | [] => 0
theorem hitN_len : ∀ l : List UInt8, (decL l).length + 2 * hitN l = l.length
  | [] => rfl
  | [a] => rfl
  | [a, b] => rfl
  | c :: h :: l :: r => by
    rw [decL, hitN]
    split
    · have := hitN_len r; simp; omega
    · have := hitN_len (h :: l :: r); simp at this ⊢; omega
theorem hitN_hit {l : List UInt8} {k : Nat} (h : k + 2 < l.length) (hc : l[k] = 37) (hx : isHex l[k + 1] l[k + 2] = true) : hitN (l.drop k) = hitN (l.drop (k + 3)) + 1 := by
  rw [List.drop_eq_getElem_cons (by omega), List.drop_eq_getElem_cons (by omega), List.drop_eq_getElem_cons (by omega), hitN, if_pos ⟨hc, hx⟩]
theorem hitN_miss {l : List UInt8} {k : Nat} (h2 : k + 2 < l.length) (hn : ¬ (l[k] = 37 ∧ isHex l[k + 1] l[k + 2] = true)) : hitN (l.drop k) = hitN (l.drop (k + 1)) := by
  rw [List.drop_eq_getElem_cons (show k < l.length by omega), List.drop_eq_getElem_cons (show k + 1 < l.length by omega), List.drop_eq_getElem_cons (show k + 1 + 1 < l.length by omega), hitN, if_neg hn]
theorem hitN_short : ∀ l : List UInt8, l.length ≤ 2 → hitN l = 0
  | [], _ => rfl
  | [a], _ => rfl
  | [a, b], _ => rfl
  | a :: b :: c :: r, h => by simp at h
theorem hitN_le (l : List UInt8) : 2 * hitN l ≤ l.length := by have := hitN_len l; omega
theorem decL_two (a b : UInt8) : decL [a, b] = [a, b] := rfl

theorem one_str (w : World) (c : UInt8) : (convert 45 9 (.slice (some ⟨w.heap.size, 0, none⟩) 1 1)).run Try.prog (w.alloc (.cells #[.int .u8 (c.toNat : Int)] 5)) = .ok (.string ⟨#[c]⟩) (w.alloc (.cells #[.int .u8 (c.toNat : Int)] 5)) :=
  run_convert_bytes_back (P := Try.prog) (w.alloc (.cells #[.int .u8 (c.toNat : Int)] 5)) 45 9 5 ⟨w.heap.size, 0, none⟩ 1 [c] Try.underlying45 Try.underlying5 Try.underlying9 (fun j hj => by
    have : j = 0 := by simpa using hj
    subst this
    rw [add0]
    exact World.cell?_alloc_mark w #[.int .u8 (c.toNat : Int)] 5 (0, 0) 0)
theorem two_str (a b : UInt8) : (⟨[a, b].toArray⟩ : ByteArray) = (⟨#[a]⟩ : ByteArray) ++ ⟨#[b]⟩ := by
  apply ByteArray.ext
  simp
theorem decode_two (a b : UInt8) (w : World) :
    Calls Try.prog 47 #[.string ((⟨#[a]⟩ : ByteArray) ++ ⟨#[b]⟩)] w fun e w' => ∃ v, e = .returned v ∧ OwnB w' w.heap.size v [a, b] ∧ Below w.heap.size w w' := by
  rw [← two_str]
  exact decode_of [a, b] [a, b] (decL_two a b) (by simp) w

set_option maxHeartbeats 4000000 in
theorem percentShort_core (s : ByteArray) (c : UInt8) (w : World) (hs : s.size ≤ 500) :
    Calls Try.prog 12 #[.string s, .int .u8 (c.toNat : Int)] w fun e w' => e = .returned (.bool true) ∧ Below w.heap.size w w' := by
  have hs6 : s.size ≤ 100000 := by omega
  have hlen : s.data.toList.length = s.size := by simp
  have HLEN := hid hlen
  clear hlen
  go_enter Try.func12, Try.ntmps12
  go_wp2_with fail
  refine (pctSmall_calls _).mono ?_
  rintro e w1 ⟨rfl, hb1⟩
  go_wp2_with fail
  go_loop [6, 7] (fun n i => ∃ k m : Nat, k ≤ s.size ∧ i = .int .i64 k ∧ n = .int .i64 m ∧ m + hitN (s.data.toList.drop k) = hitN s.data.toList ∧ m ≤ k) (fun _ i => s.size - (intOf i).toNat)
  case atStart => exact ⟨0, 0, Nat.zero_le _, rfl, rfl, by simp, Nat.le_refl _⟩
  case round =>
    obtain ⟨k, m, hk, rfl, rfl, hm, hmk⟩ := hrel
    have HM := hid hm
    clear hm
    by_cases h2 : k + 2 < s.size
    · have hx1 : (s[k]).toNat < 256 := s[k].toNat_lt
      have y1 : (s[k + 1]).toNat < 256 := s[k + 1].toNat_lt
      have y2 : (s[k + 2]).toNat < 256 := s[k + 2].toNat_lt
      have hl2 : k + 2 < s.data.toList.length := by rw [HLEN.out]; exact h2
      by_cases hc : s[k] = 37
      · have hce : (((s[k]).toNat : Int) == 37) = true := by rw [hc]; rfl
        cases hx : isHex s[k + 1] s[k + 2] with
        | true =>
          have HN := hid (hitN_hit hl2 hc hx)
          have hx' := hx
          unfold isHex at hx'
          simp only [Bool.and_eq_true, decide_eq_true_eq] at hx'
          obtain ⟨g1, g2⟩ := hx'
          clear hx hc
          go_wp2_with (go_at_call 49; refine (digit_calls _ 16 (by decide) (by decide) _).mono ?_; rintro e w4 ⟨rfl, rfl⟩)
          go_round
          case rel => exact ⟨k + 3, m + 1, by omega, by go_num, by go_num, by rw [← HM.out, HN.out]; omega, by omega⟩
          case measure => simp [intOf]; omega
        | false =>
          have HN := hid (hitN_miss hl2 (fun h => by rw [show s.data.toList[k + 1] = s[k + 1] from rfl, show s.data.toList[k + 2] = s[k + 2] from rfl, hx] at h; exact Bool.noConfusion h.2))
          have hx' := hx
          unfold isHex at hx'
          clear hx hc
          by_cases g1 : 0 ≤ digit s[k + 1] 16
          · have g2 : digit s[k + 2] 16 < 0 := by
              rcases Int.lt_or_le (digit s[k + 2] 16) 0 with h | h
              · exact h
              · simp [g1, h] at hx'
            clear hx'
            go_wp2_with (go_at_call 49; refine (digit_calls _ 16 (by decide) (by decide) _).mono ?_; rintro e w4 ⟨rfl, rfl⟩)
            go_round
            case rel => exact ⟨k + 1, m, by omega, by go_num, by go_num, by rw [← HM.out, HN.out], by omega⟩
            case measure => simp [intOf]; omega
          · have g1 : digit s[k + 1] 16 < 0 := by
              rcases Int.lt_or_le (digit s[k + 1] 16) 0 with h | h
              · exact h
              · exact absurd h g1
            clear hx'
            go_wp2_with (go_at_call 49; refine (digit_calls _ 16 (by decide) (by decide) _).mono ?_; rintro e w4 ⟨rfl, rfl⟩)
            go_round
            case rel => exact ⟨k + 1, m, by omega, by go_num, by go_num, by rw [← HM.out, HN.out], by omega⟩
            case measure => simp [intOf]; omega
      · have HN := hid (hitN_miss hl2 (fun h => hc h.1))
        have hce : (((s[k]).toNat : Int) == 37) = false := by
          simp only [beq_eq_false_iff_ne, ne_eq]
          intro h
          exact hc (UInt8.toNat_inj.1 (by show s[k].toNat = 37; omega))
        clear hc
        go_wp2_with fail
        go_round
        case rel => exact ⟨k + 1, m, by omega, by go_num, by go_num, by rw [← HM.out, HN.out], by omega⟩
        case measure => simp [intOf]; omega
    · have hz := hitN_short (s.data.toList.drop k) (by rw [List.length_drop, HLEN.out]; omega)
      have hmm : m = hitN s.data.toList := by have := HM.out; omega
      have hdl := hitN_len s.data.toList
      have hhl := hitN_le s.data.toList
      rw [HLEN.out] at hdl hhl
      have hmm2 : Hid (m = hitN s.data.toList) := hid hmm
      clear hz hmm
      go_wp2_with fail
      refine (decode_calls s _ hs6).mono ?_
      rintro e w2 ⟨v2, rfl, ho2, hb2⟩
      have hb2 := below_then hb1 hb2
      obtain ⟨a2, c2, rfl⟩ := ho2.len
      clear ho2
      obtain ⟨d, hd⟩ : ∃ d, d = (decL s.data.toList).length := ⟨_, rfl⟩
      rw [← hd] at hdl ⊢
      have hd2 : (d : Int) = (s.size : Int) - 2 * (m : Int) := by rw [hmm2.out]; omega
      have hm9 : m ≤ 500 := by omega
      have hd9 : d ≤ 500 := by omega
      have HD2 : Hid (((d : Int) == (s.size : Int) - 2 * (m : Int)) = true) := hid (by rw [hd2]; simp)
      clear hd hd2 hdl hhl
      have hone := one_str w2 c
      have hb2' : Below w.heap.size w (w2.alloc (.cells #[.int .u8 (c.toNat : Int)] 5)) := hb2.alloc hb2.size _
      go_wp2_with fail
      refine (decode_two 37 c _).mono ?_
      rintro e w3 ⟨v3, rfl, ho3, hb3⟩
      have hb3 := below_then hb2' hb3
      have hd3 := run_string_own ho3
      rw [two_str] at hd3
      have hone3 := one_str w3 c
      have hdd := HD2.out
      clear hone
      go_wp2_with fail
      go_ret
      exact ⟨rfl, hb3.alloc hb3.size _⟩

theorem percentShort_walk (s : ByteArray) (n : Int) (w : World) (hs : s.size ≤ maxLen) (hn : (Lit.int .u8 n).wf = true) :
    Calls Try.prog 12 #[.string s, .int .u8 n] w fun e w' => e = .returned (.bool true) ∧ Below w.heap.size w w' := by
  obtain ⟨c, rfl⟩ := u8_of hn
  unfold maxLen at hs
  by_cases h1 : 500 < s.size
  · go_enter Try.func12, Try.ntmps12
    go_wp2_with fail
    refine (pctSmall_calls _).mono ?_
    rintro e w1 ⟨rfl, hb1⟩
    go_wp2_with fail
    go_ret
    exact ⟨rfl, hb1⟩
  · exact percentShort_core s c w (by omega)
end Go.Proofs.Ytmkgjleojfggcaa
