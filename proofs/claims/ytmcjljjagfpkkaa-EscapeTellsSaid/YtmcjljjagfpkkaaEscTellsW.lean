/-
  The document's Escape, Plain, Settled and Ahead, and the walk of EscapeTells. Conditions: the arguments are as they can be handed over.
-/
import Derived.Test.YtmcjljjagfpkkaaEscBackW
import Derived.Test.YtmcjljjagfpkkaaEntTellsW
set_option linter.all false
namespace Go.Proofs.Ytmcjljjagfpkkaa
open Go.RowKit
set_option maxHeartbeats 2000000 in
theorem refOne_calls (c : UInt8) (w : World) : Calls Try.prog 49 #[.int .u8 (c.toNat : Int)] w fun e w' => e = .returned (.string (strB (escB c))) ∧ Below w.heap.size w w' := by
  cases h : six c with
  | false =>
    have he := (esc_no h).2
    have hn : ¬ (c = 38 ∨ c = 34 ∨ c = 39 ∨ c = 60 ∨ c = 62 ∨ c = 96) := by simpa [six] using h
    have k38 : ((c.toNat : Int) == 38) = false := byte_isnt (n := 38) (by decide) (fun e => hn (by rw [e]; decide))
    have k34 : ((c.toNat : Int) == 34) = false := byte_isnt (n := 34) (by decide) (fun e => hn (by rw [e]; decide))
    have k39 : ((c.toNat : Int) == 39) = false := byte_isnt (n := 39) (by decide) (fun e => hn (by rw [e]; decide))
    have k60 : ((c.toNat : Int) == 60) = false := byte_isnt (n := 60) (by decide) (fun e => hn (by rw [e]; decide))
    have k62 : ((c.toNat : Int) == 62) = false := byte_isnt (n := 62) (by decide) (fun e => hn (by rw [e]; decide))
    have k96 : ((c.toNat : Int) == 96) = false := byte_isnt (n := 96) (by decide) (fun e => hn (by rw [e]; decide))
    have HE := hid he
    have hd : (convert 34 9 (.slice (some ⟨w.heap.size, 0, none⟩) 1 1)).run Try.prog (w.alloc (.cells #[.int .u8 (c.toNat : Int)] 5)) = .ok (.string ⟨#[c]⟩) (w.alloc (.cells #[.int .u8 (c.toNat : Int)] 5)) := lit_conv w [c]
    clear hn h he
    go_enter Try.func49, Try.ntmps49
    go_wp2
    go_ret
    exact ⟨by rw [HE.out]; rfl, (Below.refl _ _).alloc (Nat.le_refl _) _⟩
  | true =>
    rcases six_cases h with rfl | rfl | rfl | rfl | rfl | rfl
    all_goals
      clear h
      go_enter Try.func49, Try.ntmps49
      go_wp2
      go_ret
      exact ⟨rfl, Below.refl _ _⟩
set_option maxHeartbeats 2000000 in
theorem refEscape_calls (s : ByteArray) (w : World) (hs : s.size ≤ 20000) :
    Calls Try.prog 25 #[.string s] w fun e w' => e = .returned (.string (strB (escAll s.data.toList))) ∧ Below w.heap.size w w' := by
  go_enter Try.func25, Try.ntmps25
  go_wp2_with fail
  go_loopw [3, 4] (fun o i wr => ∃ k : Nat, k ≤ s.size ∧ i = .int .i64 k ∧ o = .string (strB (escAll (s.data.toList.take k))) ∧ Below w.heap.size w wr) (fun _ i _ => s.size - (intOf i).toNat)
  case atStart => exact ⟨0, Nat.zero_le _, rfl, rfl, Below.refl _ _⟩
  case round =>
    obtain ⟨k, hk, rfl, rfl, hbw⟩ := hrel
    have HBW := hid hbw
    clear hbw
    by_cases hlt : k < s.size
    · have hn : Hid (strB (escAll (s.data.toList.take (k + 1))) = strB (escAll (s.data.toList.take k)) ++ strB (escB s[k])) := hid (by rw [take_snocE s k hlt, escAll_app, strB_app]; simp [escAll])
      have hll : (strB (escAll (s.data.toList.take k))).size ≤ 100000 := by rw [strB_size]; have := (escAll_len (s.data.toList.take k)).2; rw [take_lenE s k hk] at this; omega
      have hz : (strB (escB s[k])).size ≤ 5 := by rw [strB_size]; exact (escB_len s[k]).2
      have HO := hid (fun w => refOne_calls s[k] w)
      generalize strB (escAll (s.data.toList.take k)) = x at *
      generalize strB (escB s[k]) = y at *
      go_wp2_with fail
      refine (HO.out _).mono ?_
      rintro e w4 ⟨rfl, hb4⟩
      have HB4 := hid (HBW.out.trans (hb4.mono HBW.out.size))
      clear hb4
      go_wp2_with fail
      go_roundw
      case rel => exact ⟨k + 1, by omega, by go_num, by rw [hn.out], HB4.out⟩
      case measure => simp [intOf]; omega
    · obtain rfl : k = s.size := by omega
      have HF : Hid (escAll (s.data.toList.take s.size) = escAll s.data.toList) := hid (by rw [take_allE])
      go_wp2_with fail
      go_ret
      exact ⟨by rw [← HF.out]; rfl, HBW.out⟩
theorem written_take (l : List UInt8) : writtenL l = writtenT.contains (l.take 5) := by
  rw [Bool.eq_iff_iff]
  unfold writtenL Lib.hasPrefix
  rw [List.any_eq_true, List.contains_iff_mem]
  have hlen : ∀ p ∈ writtenT, p.length = 5 := by decide
  constructor
  · rintro ⟨p, hp, h⟩
    rw [List.isPrefixOf_iff_prefix] at h
    obtain ⟨r, rfl⟩ := h
    rw [show (5 : Nat) = p.length from (hlen p hp).symm, List.take_left]
    exact hp
  · intro h
    refine ⟨l.take 5, h, ?_⟩
    rw [List.isPrefixOf_iff_prefix]
    exact List.take_prefix 5 l
theorem strB_beq (l n : List UInt8) : ((strB l).toList == n) = (l == n) := by rw [ByteArray.toList_eq, strB_list]
set_option maxHeartbeats 4000000 in
theorem stands_calls (s : ByteArray) (w : World) : Calls Try.prog 51 #[.string s] w fun e w' => e = .returned (.bool (writtenL s.data.toList)) ∧ w = w' := by
  have hw := written_take s.data.toList
  by_cases h5 : s.size < 5
  · have hf : writtenL s.data.toList = false := by
      rw [hw, Bool.eq_false_iff]
      intro e
      rw [List.contains_iff_mem] at e
      have hlen : ∀ p ∈ writtenT, p.length = 5 := by decide
      have := hlen _ e
      rw [List.length_take] at this
      simp at this
      omega
    have HF := hid hf
    have hd : decide ((s.size : Int) < 5) = true := decide_eq_true (by omega)
    clear hw hf
    go_enter Try.func51, Try.ntmps51
    go_wp2
    go_ret
    exact ⟨by rw [HF.out]; rfl, rfl⟩
  · have hd : decide ((s.size : Int) < 5) = false := decide_eq_false (by omega)
    have hcut : s.extract 0 5 = strB (s.data.toList.take 5) := by rw [ext_listE]; simp
    have h55 : 5 ≤ s.size := by omega
    have h56 : (5 : Int) ≤ (s.size : Int) := by omega
    have hb : ∀ n, ((strB (s.data.toList.take 5)).toList == n) = (s.data.toList.take 5 == n) := strB_beq _
    generalize s.data.toList.take 5 = t at *
    clear h5
    by_cases q0 : t = [38, 97, 109, 112, 59]
    · have k0 : ((strB t).toList == [38, 97, 109, 112, 59]) = true := by rw [hb, q0]; decide
      have k1 : ((strB t).toList == [38, 35, 51, 52, 59]) = false := by rw [hb, q0]; decide
      have k2 : ((strB t).toList == [38, 35, 51, 57, 59]) = false := by rw [hb, q0]; decide
      have k3 : ((strB t).toList == [38, 35, 54, 48, 59]) = false := by rw [hb, q0]; decide
      have k4 : ((strB t).toList == [38, 35, 54, 50, 59]) = false := by rw [hb, q0]; decide
      have k5 : ((strB t).toList == [38, 35, 57, 54, 59]) = false := by rw [hb, q0]; decide
      have HF : Hid (writtenL s.data.toList = true) := hid (by rw [hw, q0]; decide)
      clear hb hw q0
      go_enter Try.func51, Try.ntmps51
      go_wp2
      go_ret
      exact ⟨by rw [HF.out]; rfl, rfl⟩
    by_cases q1 : t = [38, 35, 51, 52, 59]
    · have k0 : ((strB t).toList == [38, 97, 109, 112, 59]) = false := by rw [hb, q1]; decide
      have k1 : ((strB t).toList == [38, 35, 51, 52, 59]) = true := by rw [hb, q1]; decide
      have k2 : ((strB t).toList == [38, 35, 51, 57, 59]) = false := by rw [hb, q1]; decide
      have k3 : ((strB t).toList == [38, 35, 54, 48, 59]) = false := by rw [hb, q1]; decide
      have k4 : ((strB t).toList == [38, 35, 54, 50, 59]) = false := by rw [hb, q1]; decide
      have k5 : ((strB t).toList == [38, 35, 57, 54, 59]) = false := by rw [hb, q1]; decide
      have HF : Hid (writtenL s.data.toList = true) := hid (by rw [hw, q1]; decide)
      clear hb hw q0 q1
      go_enter Try.func51, Try.ntmps51
      go_wp2
      go_ret
      exact ⟨by rw [HF.out]; rfl, rfl⟩
    by_cases q2 : t = [38, 35, 51, 57, 59]
    · have k0 : ((strB t).toList == [38, 97, 109, 112, 59]) = false := by rw [hb, q2]; decide
      have k1 : ((strB t).toList == [38, 35, 51, 52, 59]) = false := by rw [hb, q2]; decide
      have k2 : ((strB t).toList == [38, 35, 51, 57, 59]) = true := by rw [hb, q2]; decide
      have k3 : ((strB t).toList == [38, 35, 54, 48, 59]) = false := by rw [hb, q2]; decide
      have k4 : ((strB t).toList == [38, 35, 54, 50, 59]) = false := by rw [hb, q2]; decide
      have k5 : ((strB t).toList == [38, 35, 57, 54, 59]) = false := by rw [hb, q2]; decide
      have HF : Hid (writtenL s.data.toList = true) := hid (by rw [hw, q2]; decide)
      clear hb hw q0 q1 q2
      go_enter Try.func51, Try.ntmps51
      go_wp2
      go_ret
      exact ⟨by rw [HF.out]; rfl, rfl⟩
    by_cases q3 : t = [38, 35, 54, 48, 59]
    · have k0 : ((strB t).toList == [38, 97, 109, 112, 59]) = false := by rw [hb, q3]; decide
      have k1 : ((strB t).toList == [38, 35, 51, 52, 59]) = false := by rw [hb, q3]; decide
      have k2 : ((strB t).toList == [38, 35, 51, 57, 59]) = false := by rw [hb, q3]; decide
      have k3 : ((strB t).toList == [38, 35, 54, 48, 59]) = true := by rw [hb, q3]; decide
      have k4 : ((strB t).toList == [38, 35, 54, 50, 59]) = false := by rw [hb, q3]; decide
      have k5 : ((strB t).toList == [38, 35, 57, 54, 59]) = false := by rw [hb, q3]; decide
      have HF : Hid (writtenL s.data.toList = true) := hid (by rw [hw, q3]; decide)
      clear hb hw q0 q1 q2 q3
      go_enter Try.func51, Try.ntmps51
      go_wp2
      go_ret
      exact ⟨by rw [HF.out]; rfl, rfl⟩
    by_cases q4 : t = [38, 35, 54, 50, 59]
    · have k0 : ((strB t).toList == [38, 97, 109, 112, 59]) = false := by rw [hb, q4]; decide
      have k1 : ((strB t).toList == [38, 35, 51, 52, 59]) = false := by rw [hb, q4]; decide
      have k2 : ((strB t).toList == [38, 35, 51, 57, 59]) = false := by rw [hb, q4]; decide
      have k3 : ((strB t).toList == [38, 35, 54, 48, 59]) = false := by rw [hb, q4]; decide
      have k4 : ((strB t).toList == [38, 35, 54, 50, 59]) = true := by rw [hb, q4]; decide
      have k5 : ((strB t).toList == [38, 35, 57, 54, 59]) = false := by rw [hb, q4]; decide
      have HF : Hid (writtenL s.data.toList = true) := hid (by rw [hw, q4]; decide)
      clear hb hw q0 q1 q2 q3 q4
      go_enter Try.func51, Try.ntmps51
      go_wp2
      go_ret
      exact ⟨by rw [HF.out]; rfl, rfl⟩
    by_cases q5 : t = [38, 35, 57, 54, 59]
    · have k0 : ((strB t).toList == [38, 97, 109, 112, 59]) = false := by rw [hb, q5]; decide
      have k1 : ((strB t).toList == [38, 35, 51, 52, 59]) = false := by rw [hb, q5]; decide
      have k2 : ((strB t).toList == [38, 35, 51, 57, 59]) = false := by rw [hb, q5]; decide
      have k3 : ((strB t).toList == [38, 35, 54, 48, 59]) = false := by rw [hb, q5]; decide
      have k4 : ((strB t).toList == [38, 35, 54, 50, 59]) = false := by rw [hb, q5]; decide
      have k5 : ((strB t).toList == [38, 35, 57, 54, 59]) = true := by rw [hb, q5]; decide
      have HF : Hid (writtenL s.data.toList = true) := hid (by rw [hw, q5]; decide)
      clear hb hw q0 q1 q2 q3 q4 q5
      go_enter Try.func51, Try.ntmps51
      go_wp2
      go_ret
      exact ⟨by rw [HF.out]; rfl, rfl⟩
    have k0 : ((strB t).toList == [38, 97, 109, 112, 59]) = false := by rw [hb, beq_eq_false_iff_ne]; exact q0
    have k1 : ((strB t).toList == [38, 35, 51, 52, 59]) = false := by rw [hb, beq_eq_false_iff_ne]; exact q1
    have k2 : ((strB t).toList == [38, 35, 51, 57, 59]) = false := by rw [hb, beq_eq_false_iff_ne]; exact q2
    have k3 : ((strB t).toList == [38, 35, 54, 48, 59]) = false := by rw [hb, beq_eq_false_iff_ne]; exact q3
    have k4 : ((strB t).toList == [38, 35, 54, 50, 59]) = false := by rw [hb, beq_eq_false_iff_ne]; exact q4
    have k5 : ((strB t).toList == [38, 35, 57, 54, 59]) = false := by rw [hb, beq_eq_false_iff_ne]; exact q5
    have HF : Hid (writtenL s.data.toList = false) := hid (by
      rw [hw, Bool.eq_false_iff]
      intro e
      rw [List.contains_iff_mem] at e
      simp only [writtenT, List.mem_cons, List.not_mem_nil, or_false] at e
      rcases e with e | e | e | e | e | e
      · exact q0 e
      · exact q1 e
      · exact q2 e
      · exact q3 e
      · exact q4 e
      · exact q5 e)
    clear hb hw q0 q1 q2 q3 q4 q5
    go_enter Try.func51, Try.ntmps51
    go_wp2
    go_ret
    exact ⟨by rw [HF.out]; rfl, rfl⟩
set_option maxHeartbeats 8000000 in
set_option maxRecDepth 100000 in
theorem refPlain_calls (s : ByteArray) (w : World) (hs : s.size ≤ 100000) : Calls Try.prog 27 #[.string s] w fun e w' => e = .returned (.bool (plainL s.data.toList)) ∧ Below w.heap.size w w' := by
  go_enter Try.func27, Try.ntmps27
  go_wp2_with fail
  go_loopw [3] (fun i wr => ∃ k : Nat, k ≤ s.size ∧ i = .int .i64 k ∧ Hid (plainL s.data.toList = plainL (s.data.toList.drop k)) ∧ Below w.heap.size w wr) (fun i _ => s.size - (intOf i).toNat)
  case atStart => exact ⟨0, Nat.zero_le _, rfl, hid rfl, Below.refl _ _⟩
  case round =>
    obtain ⟨k, hk, rfl, hpl, hbw⟩ := hrel
    have HBW := hid hbw
    clear hbw
    by_cases hlt : k < s.size
    · have hdr : s.data.toList.drop k = s[k] :: s.data.toList.drop (k + 1) := by rw [List.drop_eq_getElem_cons (by simpa using hlt)]; rfl
      have hp2 : plainL s.data.toList = (plainB (s.data.toList.drop k) && plainL (s.data.toList.drop (k + 1))) := by rw [hpl.out, hdr]; rfl
      have hpb : plainB (s.data.toList.drop k) = (fairB s[k] && (if s[k] = 38 then writtenL (s.data.toList.drop k) else decide (esc1 s[k] = []))) := by rw [hdr]; rfl
      have hex : s.extract k s.size = strB (s.data.toList.drop k) := by rw [ext_listE, List.take_of_length_le (by simp)]
      have hx1 : (s[k]).toNat < 256 := s[k].toNat_lt
      have HWR := hid (fun w => stands_calls (strB (s.data.toList.drop k)) w)
      rw [strB_list] at HWR
      have HEX := hid hex
      clear hdr hex
      by_cases hf : 32 ≤ (s[k]).toNat ∧ (s[k]).toNat ≤ 126
      · have d1 : decide (((s[k]).toNat : Int) < 32) = false := decide_eq_false (by omega)
        have d2 : decide (126 < ((s[k]).toNat : Int)) = false := decide_eq_false (by omega)
        have hfb : fairB s[k] = true := by unfold fairB; rw [decide_eq_true hf.1, decide_eq_true hf.2]; rfl
        rw [hfb, Bool.true_and] at hpb
        clear hf hfb
        cases h6 : six s[k] with
        | false =>
          have hn : ¬ (s[k] = 38 ∨ s[k] = 34 ∨ s[k] = 39 ∨ s[k] = 60 ∨ s[k] = 62 ∨ s[k] = 96) := by simpa [six] using h6
          have k38 : (((s[k]).toNat : Int) == 38) = false := byte_isnt (n := 38) (by decide) (fun e => hn (by rw [e]; decide))
          have k34 : (((s[k]).toNat : Int) == 34) = false := byte_isnt (n := 34) (by decide) (fun e => hn (by rw [e]; decide))
          have k39 : (((s[k]).toNat : Int) == 39) = false := byte_isnt (n := 39) (by decide) (fun e => hn (by rw [e]; decide))
          have k60 : (((s[k]).toNat : Int) == 60) = false := byte_isnt (n := 60) (by decide) (fun e => hn (by rw [e]; decide))
          have k62 : (((s[k]).toNat : Int) == 62) = false := byte_isnt (n := 62) (by decide) (fun e => hn (by rw [e]; decide))
          have k96 : (((s[k]).toNat : Int) == 96) = false := byte_isnt (n := 96) (by decide) (fun e => hn (by rw [e]; decide))
          have hne : ¬ s[k] = 38 := fun e => hn (.inl e)
          rw [if_neg hne] at hpb
          have HNX : Hid (plainL s.data.toList = plainL (s.data.toList.drop (k + 1))) := hid (by rw [hp2, hpb, decide_eq_true (esc_no h6).1, Bool.true_and])
          clear hp2 hpb hn hne h6 hpl
          go_wp2_with fail
          go_roundw
          case rel => exact ⟨k + 1, by omega, by go_num, HNX, HBW.out⟩
          case measure => simp [intOf]; omega
        | true =>
          have hne6 := (esc_six h6).2.1
          rcases six_cases h6 with h | h | h | h | h | h
          · have k38 : (((s[k]).toNat : Int) == 38) = true := by rw [h]; decide
            have k34 : (((s[k]).toNat : Int) == 34) = false := by rw [h]; decide
            have k39 : (((s[k]).toNat : Int) == 39) = false := by rw [h]; decide
            have k60 : (((s[k]).toNat : Int) == 60) = false := by rw [h]; decide
            have k62 : (((s[k]).toNat : Int) == 62) = false := by rw [h]; decide
            have k96 : (((s[k]).toNat : Int) == 96) = false := by rw [h]; decide
            rw [if_pos h] at hpb
            have hex := HEX.out
            cases hw : writtenL (s.data.toList.drop k)
            · have HF : Hid (plainL s.data.toList = false) := hid (by rw [hp2, hpb, hw, Bool.false_and])
              have HWF : Hid (∀ w, Calls Try.prog 51 #[.string (strB (s.data.toList.drop k))] w fun e w' => e = .returned (.bool false) ∧ w = w') := hid (fun w => by have := HWR.out w; rwa [hw] at this)
              clear hp2 hpb hpl hw h h6 hne6
              go_wp2_with fail
              refine (HWF.out _).mono ?_
              rintro e w' ⟨rfl, rfl⟩
              go_wp2_with fail
              go_ret
              exact ⟨by rw [HF.out]; rfl, HBW.out⟩
            · have HNX : Hid (plainL s.data.toList = plainL (s.data.toList.drop (k + 1))) := hid (by rw [hp2, hpb, hw, Bool.true_and])
              have HWT : Hid (∀ w, Calls Try.prog 51 #[.string (strB (s.data.toList.drop k))] w fun e w' => e = .returned (.bool true) ∧ w = w') := hid (fun w => by have := HWR.out w; rwa [hw] at this)
              clear hp2 hpb hpl hw h h6 hne6
              go_wp2_with fail
              refine (HWT.out _).mono ?_
              rintro e w' ⟨rfl, rfl⟩
              clear hex
              go_wp2_with fail
              go_roundw
              case rel => exact ⟨k + 1, by omega, by go_num, HNX, HBW.out⟩
              case measure => simp [intOf]; omega
          · have k34 : (((s[k]).toNat : Int) == 34) = true := by rw [h]; decide
            have hne : ¬ s[k] = 38 := by rw [h]; decide
            rw [if_neg hne] at hpb
            have HF : Hid (plainL s.data.toList = false) := hid (by rw [hp2, hpb, decide_eq_false hne6, Bool.false_and])
            clear hp2 hpb hpl hne h h6 hne6
            go_wp2_with fail
            go_ret
            exact ⟨by rw [HF.out]; rfl, HBW.out⟩
          · have k34 : (((s[k]).toNat : Int) == 34) = false := by rw [h]; decide
            have k39 : (((s[k]).toNat : Int) == 39) = true := by rw [h]; decide
            have hne : ¬ s[k] = 38 := by rw [h]; decide
            rw [if_neg hne] at hpb
            have HF : Hid (plainL s.data.toList = false) := hid (by rw [hp2, hpb, decide_eq_false hne6, Bool.false_and])
            clear hp2 hpb hpl hne h h6 hne6
            go_wp2_with fail
            go_ret
            exact ⟨by rw [HF.out]; rfl, HBW.out⟩
          · have k34 : (((s[k]).toNat : Int) == 34) = false := by rw [h]; decide
            have k39 : (((s[k]).toNat : Int) == 39) = false := by rw [h]; decide
            have k60 : (((s[k]).toNat : Int) == 60) = true := by rw [h]; decide
            have hne : ¬ s[k] = 38 := by rw [h]; decide
            rw [if_neg hne] at hpb
            have HF : Hid (plainL s.data.toList = false) := hid (by rw [hp2, hpb, decide_eq_false hne6, Bool.false_and])
            clear hp2 hpb hpl hne h h6 hne6
            go_wp2_with fail
            go_ret
            exact ⟨by rw [HF.out]; rfl, HBW.out⟩
          · have k34 : (((s[k]).toNat : Int) == 34) = false := by rw [h]; decide
            have k39 : (((s[k]).toNat : Int) == 39) = false := by rw [h]; decide
            have k60 : (((s[k]).toNat : Int) == 60) = false := by rw [h]; decide
            have k62 : (((s[k]).toNat : Int) == 62) = true := by rw [h]; decide
            have hne : ¬ s[k] = 38 := by rw [h]; decide
            rw [if_neg hne] at hpb
            have HF : Hid (plainL s.data.toList = false) := hid (by rw [hp2, hpb, decide_eq_false hne6, Bool.false_and])
            clear hp2 hpb hpl hne h h6 hne6
            go_wp2_with fail
            go_ret
            exact ⟨by rw [HF.out]; rfl, HBW.out⟩
          · have k34 : (((s[k]).toNat : Int) == 34) = false := by rw [h]; decide
            have k39 : (((s[k]).toNat : Int) == 39) = false := by rw [h]; decide
            have k60 : (((s[k]).toNat : Int) == 60) = false := by rw [h]; decide
            have k62 : (((s[k]).toNat : Int) == 62) = false := by rw [h]; decide
            have k96 : (((s[k]).toNat : Int) == 96) = true := by rw [h]; decide
            have hne : ¬ s[k] = 38 := by rw [h]; decide
            rw [if_neg hne] at hpb
            have HF : Hid (plainL s.data.toList = false) := hid (by rw [hp2, hpb, decide_eq_false hne6, Bool.false_and])
            clear hp2 hpb hpl hne h h6 hne6
            go_wp2_with fail
            go_ret
            exact ⟨by rw [HF.out]; rfl, HBW.out⟩
      · have hfb : fairB s[k] = false := by
          unfold fairB
          rw [Bool.and_eq_false_iff, decide_eq_false_iff_not, decide_eq_false_iff_not]
          omega
        have HF : Hid (plainL s.data.toList = false) := hid (by rw [hp2, hpb, hfb]; simp)
        clear hp2 hpb hpl hfb
        by_cases h32 : (s[k]).toNat < 32
        · have d1 : decide (((s[k]).toNat : Int) < 32) = true := decide_eq_true (by omega)
          clear hf h32
          go_wp2_with fail
          go_ret
          exact ⟨by rw [HF.out]; rfl, HBW.out⟩
        · have d1 : decide (((s[k]).toNat : Int) < 32) = false := decide_eq_false (by omega)
          have d2 : decide (126 < ((s[k]).toNat : Int)) = true := decide_eq_true (by omega)
          clear hf h32
          go_wp2_with fail
          go_ret
          exact ⟨by rw [HF.out]; rfl, HBW.out⟩
    · obtain rfl : k = s.size := by omega
      have HT : Hid (plainL s.data.toList = true) := hid (by rw [hpl.out, List.drop_eq_nil_of_le (by simp)]; rfl)
      clear hpl
      go_wp2_with fail
      go_ret
      exact ⟨by rw [HT.out]; rfl, HBW.out⟩
theorem refSettled_calls (s : ByteArray) (b : Bool) (hb : (escAll (decE s.data.toList) == s.data.toList) = b) (w : World) (hs : s.size ≤ 20000) :
    Calls Try.prog 29 #[.string s] w fun e w' => e = .returned (.bool b) ∧ Below w.heap.size w w' := by
  have D := hid (fun w => refDecode_calls s w (by omega))
  have hz := decE_len s.data.toList
  have E := hid (fun w => refEscape_calls (strB (decE s.data.toList)) w (by rw [strB_size]; simp at hz; omega))
  rw [strB_list] at E
  have HK : Hid (((strB (escAll (decE s.data.toList))).toList == s.toList) = b) := hid (by rw [ByteArray.toList_eq, ByteArray.toList_eq, strB_list]; exact hb)
  clear hb hz
  generalize strB (escAll (decE s.data.toList)) = y at *
  generalize strB (decE s.data.toList) = x at *
  go_enter Try.func29, Try.ntmps29
  go_wp2_with fail
  refine (D.out _).mono ?_
  rintro e w1 ⟨rfl, hb1⟩
  have HB := hid hb1
  clear hb1
  go_wp2_with fail
  refine (E.out _).mono ?_
  rintro e w2 ⟨rfl, hb2⟩
  have HB := hid (HB.out.trans (hb2.mono HB.out.size))
  clear hb2
  go_wp2_with fail
  go_ret
  exact ⟨ret_bool HK.out, HB.out⟩
set_option maxHeartbeats 2000000 in
theorem refAhead_calls (s : ByteArray) (c : UInt8) (w : World) (hs : s.size ≤ 100000) : Calls Try.prog 31 #[.string s, .int .u8 (c.toNat : Int)] w fun e w' => e = .returned (.string (strB (aheadL c s.data.toList))) ∧ Below w.heap.size w w' := by
  go_enter Try.func31, Try.ntmps31
  go_wp2_with fail
  go_loopw [5] (fun i wr => ∃ k : Nat, k ≤ s.size ∧ i = .int .i64 k ∧ Hid (∀ x ∈ s.data.toList.take k, x ≠ c) ∧ Below w.heap.size w wr) (fun i _ => s.size - (intOf i).toNat)
  case atStart => exact ⟨0, Nat.zero_le _, rfl, hid (by simp), Below.refl _ _⟩
  case round =>
    obtain ⟨k, hk, rfl, hno, hbw⟩ := hrel
    have HBW := hid hbw
    clear hbw
    by_cases hlt : k < s.size
    · by_cases hc : s[k] = c
      · have hb0 : (((s[k]).toNat : Int) == (c.toNat : Int)) = true := by rw [hc]; simp
        have hex : s.extract 0 k = strB (s.data.toList.take k) := by rw [ext_listE]; simp
        have HF : Hid (strB (aheadL c s.data.toList) = strB (s.data.toList.take k)) := hid (by
          have hsp : s.data.toList = s.data.toList.take k ++ c :: s.data.toList.drop (k + 1) := by
            rw [← hc]
            have h1 : s.data.toList.drop k = s[k] :: s.data.toList.drop (k + 1) := by rw [List.drop_eq_getElem_cons (by simpa using hlt)]; rfl
            rw [← h1, List.take_append_drop]
          rw [hsp, ahead_cut hno.out]
          congr 1
          rw [List.take_append_of_le_length (by simp; omega), List.take_take, Nat.min_self])
        clear hc
        go_wp2_with fail
        go_ret
        exact ⟨by rw [HF.out]; rfl, HBW.out⟩
      · have hb0 : (((s[k]).toNat : Int) == (c.toNat : Int)) = false := by
          rw [beq_eq_false_iff_ne]
          intro e
          exact hc (by rw [← UInt8.toNat_inj]; omega)
        have HNX : Hid (∀ x ∈ s.data.toList.take (k + 1), x ≠ c) := hid (by
          rw [take_snocE s k hlt]
          intro x hx
          rcases List.mem_append.1 hx with hx | hx
          · exact hno.out x hx
          · simp only [List.mem_singleton] at hx
            rw [hx]
            exact hc)
        clear hc
        go_wp2_with fail
        go_roundw
        case rel => exact ⟨k + 1, by omega, by go_num, HNX, HBW.out⟩
        case measure => simp [intOf]; omega
    · obtain rfl : k = s.size := by omega
      have HF : Hid (strB (aheadL c s.data.toList) = s) := hid (by
        have := hno.out
        rw [take_allE] at this
        rw [ahead_none this, strB_of])
      go_wp2_with fail
      go_ret
      exact ⟨by rw [HF.out]; rfl, HBW.out⟩
theorem refPlain_of (s : ByteArray) (b : Bool) (h : plainL s.data.toList = b) (hs : s.size ≤ 100000) (w : World) :
    Calls Try.prog 27 #[.string s] w fun e w' => e = .returned (.bool b) ∧ Below w.heap.size w w' := by subst h; exact refPlain_calls s w hs
set_option maxHeartbeats 8000000 in
set_option maxRecDepth 100000 in
theorem escapeTells_walk (s : ByteArray) (n : Int) (w : World) (hs : s.size ≤ maxLen) (hn : (Lit.int .u8 n).wf = true) :
    Calls Try.prog 8 #[.string s, .int .u8 n] w fun e w' => e = .returned (.bool true) ∧ Below w.heap.size w w' := by
  obtain ⟨c, rfl⟩ := u8_of hn
  unfold maxLen at hs
  clear hn
  go_enter Try.func8, Try.ntmps8
  go_wp2_with fail
  refine (escSmall_calls _).mono ?_
  rintro e w1 ⟨rfl, hb1⟩
  have HB := hid hb1
  clear hb1
  by_cases ha3 : s.size ≤ 500
  rotate_left
  · go_wp2_with fail
    go_ret
    exact ⟨rfl, HB.out⟩
  have E1 := hid (fun w => escape_calls s w (by omega))
  have E2 := hid (fun w => refEscape_calls s w (by omega))
  have A1 := hid (fun w => ahead_calls s c w)
  have A2 := hid (fun w => refAhead_calls s c w (by omega))
  have P1 := hid (fun b h w => plain_of s b h (by omega) w)
  have P2 := hid (fun b h w => refPlain_of s b h (by omega) w)
  have S1 := hid (fun b h w => settled_calls s b h w (by omega))
  have S2 := hid (fun b h w => refSettled_calls s b h w (by omega))
  generalize strB (escAll s.data.toList) = x at *
  generalize strB (aheadL c s.data.toList) = y at *
  cases hp : plainL s.data.toList
  all_goals cases hse : (escAll (decE s.data.toList) == s.data.toList)
  all_goals
    have P1 := hid (P1.out _ hp)
    have P2 := hid (P2.out _ hp)
    have S1 := hid (S1.out _ hse)
    have S2 := hid (S2.out _ hse)
    clear hp hse
    go_wp2_with fail
    refine (E1.out _).mono ?_
    rintro e w10 ⟨rfl, hb10⟩
    have HB := hid (HB.out.trans (hb10.mono HB.out.size))
    clear hb10
    go_wp2_with fail
    refine (E2.out _).mono ?_
    rintro e w11 ⟨rfl, hb11⟩
    have HB := hid (HB.out.trans (hb11.mono HB.out.size))
    clear hb11
    go_wp2_with fail
    refine (P1.out _).mono ?_
    rintro e w12 ⟨rfl, hb12⟩
    have HB := hid (HB.out.trans (hb12.mono HB.out.size))
    clear hb12
    go_wp2_with fail
    refine (P2.out _).mono ?_
    rintro e w13 ⟨rfl, hb13⟩
    have HB := hid (HB.out.trans (hb13.mono HB.out.size))
    clear hb13
    go_wp2_with fail
    refine (S1.out _).mono ?_
    rintro e w14 ⟨rfl, hb14⟩
    have HB := hid (HB.out.trans (hb14.mono HB.out.size))
    clear hb14
    go_wp2_with fail
    refine (S2.out _).mono ?_
    rintro e w15 ⟨rfl, hb15⟩
    have HB := hid (HB.out.trans (hb15.mono HB.out.size))
    clear hb15
    go_wp2_with fail
    refine (A1.out _).mono ?_
    rintro e w' ⟨rfl, rfl⟩
    go_wp2_with fail
    refine (A2.out _).mono ?_
    rintro e w17 ⟨rfl, hb17⟩
    have HB := hid (HB.out.trans (hb17.mono HB.out.size))
    clear hb17
    go_wp2_with fail
    go_ret
    exact ⟨rfl, HB.out⟩
end Go.Proofs.Ytmcjljjagfpkkaa
