/-
  The contract of percent.Decode: the bytes of a text, those that are encoded as they were. Conditions: the text has at most 100000 bytes.
-/
import Derived.Test.YtmkgjleojfggcaaPctEnc
import Derived.Test.YtmkgjleojfggcaaAppend
import Derived.Test.YtmkgjleojfggcaaSeqDet
set_option linter.all false
namespace Go.Proofs.Ytmkgjleojfggcaa
open Go.RowKit

/-- The byte of two digits of base 16. -/
def hexB (h l : UInt8) : UInt8 := UInt8.ofNat ((digit h 16 * 16 + digit l 16).toNat)
def isHex (h l : UInt8) : Bool := decide (0 ≤ digit h 16) && decide (0 ≤ digit l 16)
/-- P3.3. -/
def decL : List UInt8 → List UInt8
  | c :: h :: l :: r => if c = 37 ∧ isHex h l = true then hexB h l :: decL r else c :: decL (h :: l :: r)
  | c :: r => c :: decL r
  | [] => []

theorem decL_len : ∀ l : List UInt8, (decL l).length ≤ l.length
  | [] => by simp [decL]
  | [a] => by simp [decL]
  | [a, b] => by simp [decL]
  | c :: h :: l :: r => by
    rw [decL]
    split
    · have := decL_len r; simp; omega
    · have := decL_len (h :: l :: r); simp at this ⊢; omega
theorem decL_hit {l : List UInt8} {k : Nat} (h : k + 2 < l.length) (hc : l[k] = 37) (hx : isHex l[k + 1] l[k + 2] = true) : decL (l.drop k) = hexB l[k + 1] l[k + 2] :: decL (l.drop (k + 3)) := by
  rw [List.drop_eq_getElem_cons (by omega), List.drop_eq_getElem_cons (by omega), List.drop_eq_getElem_cons (by omega), decL, if_pos ⟨hc, hx⟩]
theorem decL_miss {l : List UInt8} {k : Nat} (h : k < l.length) (hn : ∀ h2 : k + 2 < l.length, ¬ (l[k] = 37 ∧ isHex l[k + 1] l[k + 2] = true)) : decL (l.drop k) = l[k] :: decL (l.drop (k + 1)) := by
  rw [List.drop_eq_getElem_cons h]
  by_cases h2 : k + 2 < l.length
  · rw [List.drop_eq_getElem_cons (show k + 1 < l.length by omega), List.drop_eq_getElem_cons (show k + 1 + 1 < l.length by omega), decL, if_neg (hn h2)]
  · cases hd : l.drop (k + 1) with
    | nil => rfl
    | cons a r =>
      cases r with
      | nil => rfl
      | cons b r =>
        have := congrArg List.length hd
        simp at this
        omega
theorem hexB_val {h l : UInt8} (hx : isHex h l = true) : IntKind.u8.wrap (digit h 16 * 16 + digit l 16) = ((hexB h l).toNat : Int) := by
  have b1 := digit_bd h 16 (by omega)
  have b2 := digit_bd l 16 (by omega)
  unfold isHex at hx
  simp at hx
  rw [IntWalk.u8_in _ (by omega)]
  unfold hexB
  rw [UInt8.toNat_ofNat_of_lt' (by show _ < 256; omega)]
  omega
theorem hexB_val' {h l : UInt8} (hx : isHex h l = true) : digit h 16 * 16 + digit l 16 = ((hexB h l).toNat : Int) := by
  have b1 := digit_bd h 16 (by omega)
  have b2 := digit_bd l 16 (by omega)
  rw [← hexB_val hx]
  unfold isHex at hx
  simp at hx
  rw [IntWalk.u8_in _ (by omega)]
theorem info_u8' : (Try.prog.info? 5).map (fun i => (i.zero, i.size, i.bytes)) = some (some (.int .u8 0), 1, 1) := by kernel_rfl

/-- What stands in the loop: what has been gathered, with what is left, is what is wanted. -/
def DecRel (l : List UInt8) (k : Nat) (x : List UInt8) : Prop := x ++ decL (l.drop k) = decL l ∧ x.length ≤ k

theorem DecRel.zero (l : List UInt8) : DecRel l 0 [] := ⟨by simp, by simp⟩
theorem DecRel.hit {l x : List UInt8} {k : Nat} (h : DecRel l k x) (h2 : k + 2 < l.length) (hc : l[k] = 37) (hx : isHex l[k + 1] l[k + 2] = true) : DecRel l (k + 3) (x ++ [hexB l[k + 1] l[k + 2]]) := by
  refine ⟨?_, by have := h.2; simp; omega⟩
  rw [← h.1, decL_hit h2 hc hx]
  simp
theorem DecRel.miss {l x : List UInt8} {k : Nat} (h : DecRel l k x) (hk : k < l.length) (hn : ∀ h2 : k + 2 < l.length, ¬ (l[k] = 37 ∧ isHex l[k + 1] l[k + 2] = true)) : DecRel l (k + 1) (x ++ [l[k]]) := by
  refine ⟨?_, by have := h.2; simp; omega⟩
  rw [← h.1, decL_miss hk hn]
  simp
theorem DecRel.all {l x : List UInt8} {k : Nat} (h : DecRel l k x) (hk : l.length ≤ k) : x = decL l := by
  have := h.1
  rw [List.drop_eq_nil_of_le hk] at this
  simpa [decL] using this

set_option maxHeartbeats 2000000 in
theorem decode_calls (s : ByteArray) (w : World) (hs : s.size ≤ 100000) :
    Calls Try.prog 47 #[.string s] w fun e w' => ∃ v, e = .returned v ∧ OwnB w' w.heap.size v (decL s.data.toList) ∧ Below w.heap.size w w' := by
  have hlen : Hid (s.data.toList.length = s.size) := hid (by simp)
  have hget : ∀ j (h : j < s.size), s.data.toList[j]'(by simpa using h) = s[j] := fun j h => rfl
  have HG := hid hget
  clear hget
  obtain ⟨i0, hi, hz0, hz1, hz2⟩ := info_parts info_u8'
  go_enter Try.func47, Try.ntmps47
  go_wp2_with (at_make; refine wpList_make_own w rfl _ _ 45 rfl w.heap.size 5 i0 (.int .u8 0) 1 Try.underlying45 hi hz0 hz1 .i64 .i64 _ s.size rfl rfl rfl (by rw [hz2]; omega) (by unfold maxLen; omega) (Nat.le_refl _) ?_; intro w1 hown1 hgrow1)
  have hb1 : Below w.heap.size w w1 := (Below.refl _ _).grown hgrow1 (Nat.le_refl _) (fun k hk => by cases hk)
  have hown1' : OwnB w1 w.heap.size (.slice (some ⟨w.heap.size, 0, none⟩) 0 s.size) [] := hown1
  clear hown1 hgrow1 hi hz0 hz1 hz2
  go_loopw [3, 4] (fun v i wr => ∃ (k : Nat) (x : List UInt8), k ≤ s.size ∧ i = .int .i64 k ∧ OwnB wr w.heap.size v x ∧ DecRel s.data.toList k x ∧ Below w.heap.size w wr) (fun _ i _ => s.size - (intOf i).toNat)
  case atStart => exact ⟨0, [], Nat.zero_le _, rfl, hown1', DecRel.zero _, hb1⟩
  case round =>
    obtain ⟨k, x, hk, rfl, hown, hrel, hbw⟩ := hrel
    have HR := hid hrel
    clear hown1' hb1
    have hxl := hrel.2
    clear hrel
    have hbs := hbw.size
    by_cases hlt : k < s.size
    · have hx1 : (s[k]).toNat < 256 := s[k].toNat_lt
      by_cases hc : s[k] = 37
      · have HC := hid hc
        have hce : (((s[k]).toNat : Int) == 37) = true := by rw [hc]; rfl
        clear hc
        by_cases h2 : k + 2 < s.size
        · have y1 : (s[k + 1]).toNat < 256 := s[k + 1].toNat_lt
          have y2 : (s[k + 2]).toNat < 256 := s[k + 2].toNat_lt
          have e1 : IntKind.i64.wrap ((k : Int) + 1) = (k : Int) + 1 := IntWalk.i64_in _ (by omega)
          have e2 : IntKind.i64.wrap ((k : Int) + 2) = (k : Int) + 2 := IntWalk.i64_in _ (by omega)
          have q1 : 0 ≤ (k : Int) + 1 := by omega
          have q2 : (k : Int) + 1 < (s.size : Int) := by omega
          have q3 : 0 ≤ (k : Int) + 2 := by omega
          have q4 : (k : Int) + 2 < (s.size : Int) := by omega
          have t1 : ((k : Int) + 1).toNat = k + 1 := by omega
          have t2 : ((k : Int) + 2).toNat = k + 2 := by omega
          go_wp2_with fail
          refine region_seq (fun W => W = wr.drew) (by kernel_rfl) (by kernel_rfl) rfl ?_
          simp only []
          repeat (first
            | (apply SeqDet.stepK; · rfl
               · intro W hW K hK; replace hW : W = wr.drew := hW; subst hW; go_simp; exact hK _ rfl
               simp only [Act.put, List.setIfInBounds_toArray, List.set_cons_zero, List.set_cons_succ])
            | (apply SeqDet.stepK; · rfl
               · intro W hW K hK; replace hW : W = wr.drew := hW; subst hW; go_simp; go_at_call 49; refine (digit_calls _ 16 (by decide) (by decide) _).mono ?_; rintro e w4 ⟨rfl, rfl⟩; exact hK _ rfl
               simp only [Act.put, List.setIfInBounds_toArray, List.set_cons_zero, List.set_cons_succ]))
          refine SeqDet.nil ?_
          rintro w6 rfl
          have hk1 : k + 1 ≤ s.size := by clear e1 e2 q1 q2 q3 q4 t1 t2; omega
          have hk3 : k + 3 ≤ s.size := by clear e1 e2 q1 q2 q3 q4 t1 t2; omega
          have hxl6 : x.length ≤ 900000 := by clear e1 e2 q1 q2 q3 q4 t1 t2; omega
          have hl2 : k + 2 < s.data.toList.length := by rw [hlen.out]; exact h2
          cases hx : isHex s[k + 1] s[k + 2] with
          | true =>
            have HV := hid (hexB_val' hx)
            have HN := hid (HR.out.hit hl2 HC.out hx)
            have b1 := digit_bd s[k + 1] 16 (by decide)
            have b2 := digit_bd s[k + 2] 16 (by decide)
            have hx' := hx
            unfold isHex at hx'
            simp only [Bool.and_eq_true, decide_eq_true_eq] at hx'
            obtain ⟨g1, g2⟩ := hx'
            obtain ⟨-, b1⟩ := b1
            obtain ⟨-, b2⟩ := b2
            clear hx
            generalize hB : hexB s[k + 1] s[k + 2] = hb at *
            have HB := hid hB
            clear hB
            generalize digit s[k + 1] 16 = d1 at *
            generalize digit s[k + 2] 16 = d2 at *
            go_wp2_with (at_builtin; refine wpList_append_byteD wr w.heap.size _ _ hb HV.out rfl _ _ rfl rfl hown rfl hxl6 hbs ?_; intro v1 w1 hown1 hb1)
            go_roundw
            case rel => exact ⟨k + 3, _, hk3, by go_num, hown1, by rw [← HB.out]; exact HN.out, hbw.trans hb1⟩
            case measure => simp [intOf]; omega
          | false =>
            have HN := hid (HR.out.miss (k := k) (by omega) (fun _ h => by rw [show s.data.toList[k + 1] = s[k + 1] from rfl, show s.data.toList[k + 2] = s[k + 2] from rfl, hx] at h; exact Bool.noConfusion h.2))
            have b1 := digit_bd s[k + 1] 16 (by decide)
            have b2 := digit_bd s[k + 2] 16 (by decide)
            obtain ⟨-, b1⟩ := b1
            obtain ⟨-, b2⟩ := b2
            have hx' := hx
            unfold isHex at hx'
            clear hx
            by_cases g1 : 0 ≤ digit s[k + 1] 16
            · have g2 : digit s[k + 2] 16 < 0 := by
                rcases Int.lt_or_le (digit s[k + 2] 16) 0 with h | h
                · exact h
                · simp [g1, h] at hx'
              clear hx'
              generalize digit s[k + 1] 16 = d1 at *
              generalize digit s[k + 2] 16 = d2 at *
              go_wp2_with (at_builtin; refine wpList_append_byteD wr w.heap.size _ _ s[k] rfl rfl _ _ rfl rfl hown rfl hxl6 hbs ?_; intro v1 w1 hown1 hb1)
              go_roundw
              case rel => exact ⟨k + 1, _, hk1, by go_num, hown1, HN.out, hbw.trans hb1⟩
              case measure => simp [intOf]; omega
            · have g1 : digit s[k + 1] 16 < 0 := by
                rcases Int.lt_or_le (digit s[k + 1] 16) 0 with h | h
                · exact h
                · exact absurd h g1
              clear hx'
              generalize digit s[k + 1] 16 = d1 at *
              generalize digit s[k + 2] 16 = d2 at *
              go_wp2_with (at_builtin; refine wpList_append_byteD wr w.heap.size _ _ s[k] rfl rfl _ _ rfl rfl hown rfl hxl6 hbs ?_; intro v1 w1 hown1 hb1)
              go_roundw
              case rel => exact ⟨k + 1, _, hk1, by go_num, hown1, HN.out, hbw.trans hb1⟩
              case measure => simp [intOf]; omega
        · have HN := hid (HR.out.miss (k := k) (by rw [hlen.out]; exact hlt) (fun h => by rw [hlen.out] at h; exact absurd h h2))
          have hk1 : k + 1 ≤ s.size := by omega
          have hxl6 : x.length ≤ 1000000 := by omega
          go_wp2_with (at_builtin; refine wpList_append_byte wr w.heap.size _ _ s[k] rfl rfl _ _ rfl rfl hown rfl hxl6 hbs ?_; intro v1 w1 hown1 hb1)
          go_roundw
          case rel => exact ⟨k + 1, _, hk1, by go_num, hown1, HN.out, hbw.trans hb1⟩
          case measure => simp [intOf]; omega
      · have HN := hid (HR.out.miss (k := k) (by rw [hlen.out]; exact hlt) (fun _ h => hc h.1))
        have hce : (((s[k]).toNat : Int) == 37) = false := by
          simp only [beq_eq_false_iff_ne, ne_eq]
          intro h
          exact hc (UInt8.toNat_inj.1 (by show s[k].toNat = 37; omega))
        clear hc
        have hk1 : k + 1 ≤ s.size := by omega
        have hxl6 : x.length ≤ 1000000 := by omega
        go_wp2_with (at_builtin; refine wpList_append_byte wr w.heap.size _ _ s[k] rfl rfl _ _ rfl rfl hown rfl hxl6 hbs ?_; intro v1 w1 hown1 hb1)
        go_roundw
        case rel => exact ⟨k + 1, _, hk1, by go_num, hown1, HN.out, hbw.trans hb1⟩
        case measure => simp [intOf]; omega
    · obtain rfl : k = s.size := by omega
      have hfin := HR.out.all (by rw [hlen.out]; exact Nat.le_refl _)
      subst hfin
      go_wp2
      go_ret
      exact ⟨_, rfl, hown, hbw⟩
end Go.Proofs.Ytmkgjleojfggcaa
