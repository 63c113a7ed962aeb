/-
  The walk of EntityPlain. Conditions: the arguments are as they can be handed over.
-/
import Derived.Test.YtmcjljjagfpkkaaEntSmall
import Derived.Test.YtmcjljjagfpkkaaSeqNd
import Derived.Test.YtmcjljjagfpkkaaSeqDet
set_option linter.all false
namespace Go.Proofs.Ytmcjljjagfpkkaa
open Go.RowKit
theorem decode_of (s x : ByteArray) (h : strB (decE s.data.toList) = x) (hs : s.size ≤ 100000) (w : World) :
    Calls Try.prog 18 #[.string s] w fun e w' => e = .returned (.string x) ∧ Below w.heap.size w w' := by
  subst h
  exact decodeE_calls s w hs
theorem strB_app (a b : List UInt8) : strB (a ++ b) = strB a ++ strB b := by
  apply ByteArray.ext
  simp [strB]
theorem list_app (a b : ByteArray) : (a ++ b).data.toList = a.data.toList ++ b.data.toList := by simp
theorem decE_size (s : ByteArray) : (strB (decE s.data.toList)).size ≤ s.size := by
  rw [strB_size]
  have := decE_len s.data.toList
  simpa using this
theorem ownB_one (w : World) (c : UInt8) : OwnB (w.alloc (.cells #[.int .u8 (c.toNat : Int)] 5)) 0 (.slice (some ⟨w.heap.size, 0, none⟩) 1 1) [c] :=
  World.ownsRow_lit w #[.int .u8 (c.toNat : Int)] 1 (Nat.zero_le _) (by unfold maxLen; omega) (by simp)
set_option maxHeartbeats 8000000 in
set_option maxRecDepth 100000 in
theorem entityPlain_walk (a b : ByteArray) (n : Int) (w : World) (ha : a.size ≤ maxLen) (hb : b.size ≤ maxLen) (hn : (Lit.int .u8 n).wf = true) :
    Calls Try.prog 7 #[.string a, .string b, .int .u8 n] w fun e w' => e = .returned (.bool true) ∧ Below w.heap.size w w' := by
  obtain ⟨c, rfl⟩ := u8_of hn
  unfold maxLen at ha hb
  clear hn
  go_enter Try.func7, Try.ntmps7
  go_wp2_with fail
  refine (entSmall_calls _).mono ?_
  rintro e w1 ⟨rfl, hb1⟩
  have HB := hid hb1
  clear hb1
  by_cases ha3 : a.size ≤ 300
  rotate_left
  · go_wp2_with fail
    go_ret
    exact ⟨rfl, HB.out⟩
  by_cases hb3 : b.size ≤ 300
  rotate_left
  · go_wp2_with fail
    go_ret
    exact ⟨rfl, HB.out⟩
  go_wp2_with fail
  go_loopw [8] (fun i wr => ∃ k : Nat, k ≤ a.size ∧ i = .int .i64 k ∧ Hid (∀ x ∈ a.data.toList.take k, x ≠ (38 : UInt8)) ∧ Below w1.heap.size w1 wr) (fun i _ => a.size - (intOf i).toNat)
  case atStart => exact ⟨0, Nat.zero_le _, rfl, hid (by simp), Below.refl _ _⟩
  case round =>
    obtain ⟨k, hk, rfl, hno, hbw⟩ := hrel
    have HBW := hid hbw
    have HB := hid (HB.out.trans (hbw.mono HB.out.size))
    clear hbw
    by_cases hlt : k < a.size
    · have hkl : k < a.data.toList.length := by simpa using hlt
      have hby : a[k] = a.data.toList[k] := by simp; rfl
      have h38 := byte_eq a[k] 38 (by decide)
      cases hc : (((a[k]).toNat : Int) == 38)
      · have HNX : Hid (∀ x ∈ a.data.toList.take (k + 1), x ≠ (38 : UInt8)) := hid (by
          intro x hx
          rw [List.take_succ_eq_append_getElem hkl] at hx
          rcases List.mem_append.1 hx with hx | hx
          · exact hno.out x hx
          · simp only [List.mem_singleton] at hx
            rw [hx, ← hby]
            intro e
            have h' : (((a[k]).toNat : Int) == 38) = (a[k] == 38) := h38
            rw [hc] at h'
            rw [e] at h'
            revert h'
            decide)
        clear h38 hby
        go_wp2_with fail
        go_roundw
        case rel => exact ⟨k + 1, by omega, by go_num, HNX, HBW.out⟩
        case measure => simp [intOf]; omega
      · clear h38 hby
        go_wp2_with fail
        go_ret
        exact ⟨rfl, HB.out⟩
    · obtain rfl : k = a.size := by omega
      have hna : ∀ x ∈ a.data.toList, x ≠ (38 : UInt8) := by
        have := hno.out
        rwa [List.take_of_length_le (by simp)] at this
      obtain ⟨x, hx⟩ : ∃ x, x = strB (decE b.data.toList) := ⟨_, rfl⟩
      have hxz : x.size ≤ 300 := by rw [hx]; exact Nat.le_trans (decE_size b) hb3
      have e1 : strB (decE a.data.toList) = a := by
        have h := decE_pre a.data.toList [] hna
        rw [List.append_nil, decE_nil, List.append_nil] at h
        rw [h, strB_of]
      have e2 : strB (decE (a ++ b).data.toList) = a ++ x := by
        rw [list_app, decE_pre _ _ hna, strB_app, strB_of, hx]
      have D1 := hid (fun w => decode_of a a e1 (by omega) w)
      have D2 := hid (fun w => decode_of (a ++ b) (a ++ x) e2 (by simp; omega) w)
      have D3 := hid (fun w => decode_of b x hx.symm (by omega) w)
      have HX := hid hx
      have HL := hid (fun w => letter_calls c w)
      have h1 : (⟨#[38]⟩ : ByteArray).size = 1 := rfl
      have h1c : (⟨#[c]⟩ : ByteArray).size = 1 := rfl
      clear e1 e2 hna hno hx
      go_wp2_with fail
      refine (D1.out _).mono ?_
      rintro e w2 ⟨rfl, hb2⟩
      have HB := hid (HB.out.trans (hb2.mono HB.out.size))
      clear hb2
      go_wp2_with fail
      refine (D2.out _).mono ?_
      rintro e w3 ⟨rfl, hb3⟩
      have HB := hid (HB.out.trans (hb3.mono HB.out.size))
      clear hb3
      go_wp2_with fail
      refine (D3.out _).mono ?_
      rintro e w4 ⟨rfl, hb4⟩
      have HB := hid (HB.out.trans (hb4.mono HB.out.size))
      clear hb4
      go_wp2_with fail
      refine (HL.out _).mono ?_
      rintro e w' ⟨rfl, rfl⟩
      cases hl : isLetter c
      rotate_left
      · go_wp2_with fail
        refine region_seq (fun W => Below w4.heap.size w4 W) (by kernel_rfl) (by kernel_rfl) (Below.refl _ _).drew ?_
        simp only []
        repeat (first
          | (apply SeqDet.stepK; · rfl
             · intro W hW K hK; go_simp; exact hK _ hW
             simp only [Act.put, List.setIfInBounds_toArray, List.set_cons_zero, List.set_cons_succ])
          | (apply SeqDet.skip; · rfl
             simp only [Act.put, List.setIfInBounds_toArray, List.set_cons_zero, List.set_cons_succ]))
        refine SeqDet.nil ?_
        intro w5 hb5
        go_wp2_with fail
        go_ret
        exact ⟨rfl, HB.out.trans (hb5.mono HB.out.size)⟩
      cases h35 : ((c.toNat : Int) == 35)
      rotate_left
      · have h35n : ((c.toNat : Int) != 35) = false := by simp [bne, h35]
        go_wp2_with fail
        refine region_seq (fun W => Below w4.heap.size w4 W) (by kernel_rfl) (by kernel_rfl) (Below.refl _ _).drew ?_
        simp only []
        repeat (first
          | (apply SeqDet.stepK; · rfl
             · intro W hW K hK; go_simp; exact hK _ hW
             simp only [Act.put, List.setIfInBounds_toArray, List.set_cons_zero, List.set_cons_succ])
          | (apply SeqDet.skip; · rfl
             simp only [Act.put, List.setIfInBounds_toArray, List.set_cons_zero, List.set_cons_succ]))
        refine SeqDet.nil ?_
        intro w5 hb5
        go_wp2_with fail
        go_ret
        exact ⟨rfl, HB.out.trans (hb5.mono HB.out.size)⟩
      have h35n : ((c.toNat : Int) != 35) = true := by simp [bne, h35]
      have hc35 : c ≠ 35 := by
        intro e
        subst e
        revert h35
        decide
      have hlb : letB c = false := by rw [letB_eq]; exact hl
      obtain ⟨y, hy⟩ : ∃ y, y = strB (decE (⟨#[c]⟩ ++ b : ByteArray).data.toList) := ⟨_, rfl⟩
      have hyz : y.size ≤ 301 := by rw [hy]; refine Nat.le_trans (decE_size _) ?_; simp [h1c]; omega
      have e3 : strB (decE ((⟨#[38]⟩ : ByteArray) ++ ⟨#[c]⟩ ++ b).data.toList) = ⟨#[38]⟩ ++ y := by
        rw [hy, list_app, list_app, list_app]
        have : decE (38 :: c :: b.data.toList) = 38 :: decE (c :: b.data.toList) := decE_alone _ hlb hc35
        show strB (decE (38 :: c :: b.data.toList)) = strB [38] ++ strB (decE (c :: b.data.toList))
        rw [this, ← strB_app]
        rfl
      have D4 := hid (fun w => decode_of ((⟨#[38]⟩ : ByteArray) ++ ⟨#[c]⟩ ++ b) (⟨#[38]⟩ ++ y) e3 (by simp [h1, h1c]; omega) w)
      have D5 := hid (fun w => decode_of ((⟨#[c]⟩ : ByteArray) ++ b) y hy.symm (by simp [h1c]; omega) w)
      have h2c : ((⟨#[38]⟩ : ByteArray) ++ ⟨#[c]⟩).size ≤ 2 := by simp [h1, h1c]
      clear e3 hc35 hlb hy
      go_wp2_with fail
      apply region_nd Grow [.val _, .val _, .val _, .val _, .val _, .val _, .any (fun v w => OwnB w 0 v [c]), .val (.string ⟨#[c]⟩), .val _, .val _, .val _, .val _, .val _, .any (fun v w => OwnB w 0 v [c]), .val (.string ⟨#[c]⟩), .val _, .val _, .val _, .val _, .val _, .val _, .val _, .val _] (by kernel_rfl) (by kernel_rfl) grow_moves
      simp only []
      apply SeqNd.val
      · rfl
      · intro W hW hF K hK; go_simp; first | exact hK _ (Below.refl _ _) | (rw [if_neg (by omega)]; exact hK _ (Below.refl _ _))
      simp only [Act.put, List.setIfInBounds_toArray, List.set_cons_zero, List.set_cons_succ]
      apply SeqNd.val
      · rfl
      · intro W hW hF K hK; go_simp; first | exact hK _ (Below.refl _ _) | (rw [if_neg (by omega)]; exact hK _ (Below.refl _ _))
      simp only [Act.put, List.setIfInBounds_toArray, List.set_cons_zero, List.set_cons_succ]
      apply SeqNd.val
      · rfl
      · intro W hW hF K hK; go_simp; first | exact hK _ (Below.refl _ _) | (rw [if_neg (by omega)]; exact hK _ (Below.refl _ _))
      simp only [Act.put, List.setIfInBounds_toArray, List.set_cons_zero, List.set_cons_succ]
      apply SeqNd.val
      · rfl
      · intro W hW hF K hK; go_simp; first | exact hK _ (Below.refl _ _) | (rw [if_neg (by omega)]; exact hK _ (Below.refl _ _))
      simp only [Act.put, List.setIfInBounds_toArray, List.set_cons_zero, List.set_cons_succ]
      apply SeqNd.val
      · rfl
      · intro W hW hF K hK; go_simp; first | exact hK _ (Below.refl _ _) | (rw [if_neg (by omega)]; exact hK _ (Below.refl _ _))
      simp only [Act.put, List.setIfInBounds_toArray, List.set_cons_zero, List.set_cons_succ]
      apply SeqNd.val
      · rfl
      · intro W hW hF K hK; go_simp; first | exact hK _ (Below.refl _ _) | (rw [if_neg (by omega)]; exact hK _ (Below.refl _ _))
      simp only [Act.put, List.setIfInBounds_toArray, List.set_cons_zero, List.set_cons_succ]
      refine SeqNd.any (t := _) rfl rfl (fun v x y h hb => OwnB.below h hb) ?_ fun u => ?_
      · intro W hW hF K hK; go_simp; exact hK _ _ ((Below.refl _ _).alloc (Nat.le_refl _) _) (ownB_one W c)
      simp only [Act.put, List.setIfInBounds_toArray, List.set_cons_zero, List.set_cons_succ]
      apply SeqNd.val
      · rfl
      · intro W hW hF K hK; have hd := run_string_own (hF.1 (by rfl)); go_simp; exact hK _ (Below.refl _ _)
      simp only [Act.put, List.setIfInBounds_toArray, List.set_cons_zero, List.set_cons_succ]
      apply SeqNd.val
      · rfl
      · intro W hW hF K hK; go_simp; first | exact hK _ (Below.refl _ _) | (rw [if_neg (by omega)]; exact hK _ (Below.refl _ _))
      simp only [Act.put, List.setIfInBounds_toArray, List.set_cons_zero, List.set_cons_succ]
      apply SeqNd.val
      · rfl
      · intro W hW hF K hK; go_simp; first | exact hK _ (Below.refl _ _) | (rw [if_neg (by omega)]; exact hK _ (Below.refl _ _))
      simp only [Act.put, List.setIfInBounds_toArray, List.set_cons_zero, List.set_cons_succ]
      apply SeqNd.val
      · rfl
      · intro W hW hF K hK; go_simp; first | exact hK _ (Below.refl _ _) | (rw [if_neg (by omega)]; exact hK _ (Below.refl _ _))
      simp only [Act.put, List.setIfInBounds_toArray, List.set_cons_zero, List.set_cons_succ]
      apply SeqNd.val
      · rfl
      · intro W hW hF K hK; go_simp; go_at_call 18; refine (D4.out _).mono ?_; rintro e w7 ⟨rfl, hb7⟩; exact hK _ hb7
      simp only [Act.put, List.setIfInBounds_toArray, List.set_cons_zero, List.set_cons_succ]
      apply SeqNd.val
      · rfl
      · intro W hW hF K hK; go_simp; first | exact hK _ (Below.refl _ _) | (rw [if_neg (by omega)]; exact hK _ (Below.refl _ _))
      simp only [Act.put, List.setIfInBounds_toArray, List.set_cons_zero, List.set_cons_succ]
      refine SeqNd.any (t := _) rfl rfl (fun v x y h hb => OwnB.below h hb) ?_ fun u => ?_
      · intro W hW hF K hK; go_simp; exact hK _ _ ((Below.refl _ _).alloc (Nat.le_refl _) _) (ownB_one W c)
      simp only [Act.put, List.setIfInBounds_toArray, List.set_cons_zero, List.set_cons_succ]
      apply SeqNd.val
      · rfl
      · intro W hW hF K hK; have hd := run_string_own (hF.1 (by rfl)); go_simp; exact hK _ (Below.refl _ _)
      simp only [Act.put, List.setIfInBounds_toArray, List.set_cons_zero, List.set_cons_succ]
      apply SeqNd.val
      · rfl
      · intro W hW hF K hK; go_simp; first | exact hK _ (Below.refl _ _) | (rw [if_neg (by omega)]; exact hK _ (Below.refl _ _))
      simp only [Act.put, List.setIfInBounds_toArray, List.set_cons_zero, List.set_cons_succ]
      apply SeqNd.val
      · rfl
      · intro W hW hF K hK; go_simp; first | exact hK _ (Below.refl _ _) | (rw [if_neg (by omega)]; exact hK _ (Below.refl _ _))
      simp only [Act.put, List.setIfInBounds_toArray, List.set_cons_zero, List.set_cons_succ]
      apply SeqNd.val
      · rfl
      · intro W hW hF K hK; go_simp; go_at_call 18; refine (D5.out _).mono ?_; rintro e w7 ⟨rfl, hb7⟩; exact hK _ hb7
      simp only [Act.put, List.setIfInBounds_toArray, List.set_cons_zero, List.set_cons_succ]
      apply SeqNd.val
      · rfl
      · intro W hW hF K hK; go_simp; first | exact hK _ (Below.refl _ _) | (rw [if_neg (by omega)]; exact hK _ (Below.refl _ _))
      simp only [Act.put, List.setIfInBounds_toArray, List.set_cons_zero, List.set_cons_succ]
      apply SeqNd.val
      · rfl
      · intro W hW hF K hK; go_simp; first | exact hK _ (Below.refl _ _) | (rw [if_neg (by omega)]; exact hK _ (Below.refl _ _))
      simp only [Act.put, List.setIfInBounds_toArray, List.set_cons_zero, List.set_cons_succ]
      apply SeqNd.val
      · rfl
      · intro W hW hF K hK; go_simp; first | exact hK _ (Below.refl _ _) | (rw [if_neg (by omega)]; exact hK _ (Below.refl _ _))
      simp only [Act.put, List.setIfInBounds_toArray, List.set_cons_zero, List.set_cons_succ]
      apply SeqNd.val
      · rfl
      · intro W hW hF K hK; go_simp; first | exact hK _ (Below.refl _ _) | (rw [if_neg (by omega)]; exact hK _ (Below.refl _ _))
      simp only [Act.put, List.setIfInBounds_toArray, List.set_cons_zero, List.set_cons_succ]
      apply SeqNd.val
      · rfl
      · intro W hW hF K hK; go_simp; first | exact hK _ (Below.refl _ _) | (rw [if_neg (by omega)]; exact hK _ (Below.refl _ _))
      simp only [Act.put, List.setIfInBounds_toArray, List.set_cons_zero, List.set_cons_succ]
      refine SeqNd.nil ?_
      intro w5 hb5 _
      go_wp2_with fail
      go_ret
      have hb6 : Below w4.heap.size w4 w5 := ((Below.refl w4.heap.size w4).drew).trans hb5
      exact ⟨rfl, HB.out.trans (hb6.mono HB.out.size)⟩
end Go.Proofs.Ytmcjljjagfpkkaa
