/-
  The walk of EscapeCounts. Conditions: the argument is as it can be handed over.
-/
import Derived.Test.YtmcjljjagfpkkaaEscBackW
set_option linter.all false
namespace Go.Proofs.Ytmcjljjagfpkkaa
open Go.RowKit
/-- what stands at a place of what was escaped -/
theorem esc_at (l : List UInt8) (k : Nat) (h : k < l.length) : (escAll l).drop (escAll (l.take k)).length = escB l[k] ++ escAll (l.drop (k + 1)) ∧ (escAll (l.take (k + 1))).length = (escAll (l.take k)).length + (escB l[k]).length ∧
    (escAll (l.take k)).length + (escB l[k]).length ≤ (escAll l).length := by
  have h1 : escAll l = escAll (l.take k) ++ (escB l[k] ++ escAll (l.drop (k + 1))) := by
    rw [← escAll_cons, ← List.drop_eq_getElem_cons h, ← escAll_app, List.take_append_drop]
  refine ⟨?_, ?_, ?_⟩
  · conv => lhs; rw [h1]
    exact List.drop_left
  · rw [List.take_succ_eq_append_getElem h, escAll_app]
    simp [escAll]
  · have := congrArg List.length h1
    simp only [List.length_append] at this
    omega
theorem byte_at (x : ByteArray) (at0 j : Nat) (p r : List UInt8) (h : x.data.toList.drop at0 = p ++ r) (hj : j < p.length) (hx : at0 + j < x.size) : x[at0 + j] = p[j] := by
  have h1 : x[at0 + j] = x.data.toList[at0 + j]'(by simpa using hx) := by simp; rfl
  have h2 : (x.data.toList.drop at0)[j]? = some p[j] := by rw [h, List.getElem?_append_left hj, List.getElem?_eq_getElem hj]
  rw [List.getElem?_drop, List.getElem?_eq_getElem (by simpa using hx)] at h2
  rw [h1]
  simpa using h2
set_option maxHeartbeats 8000000 in
set_option maxRecDepth 100000 in
theorem escapeCounts_walk (s : ByteArray) (w : World) (hs : s.size ≤ maxLen) :
    Calls Try.prog 12 #[.string s] w fun e w' => e = .returned (.bool true) ∧ Below w.heap.size w w' := by
  unfold maxLen at hs
  go_enter Try.func12, Try.ntmps12
  go_wp2_with fail
  refine (escSmall_calls _).mono ?_
  rintro e w1 ⟨rfl, hb1⟩
  have HB := hid hb1
  clear hb1
  by_cases ha3 : s.size ≤ 300
  rotate_left
  · go_wp2_with fail
    go_ret
    exact ⟨rfl, HB.out⟩
  have hla := escAll_len s.data.toList
  have haz : s.data.toList.length = s.size := by simp
  have E1 := hid (fun w => escape_of s _ rfl (by omega) w)
  have hxl : (strB (escAll s.data.toList)).data.toList = escAll s.data.toList := strB_list _
  have hxz : (strB (escAll s.data.toList)).size = (escAll s.data.toList).length := strB_size _
  have HAT : Hid (∀ k, (h : k < s.data.toList.length) → (strB (escAll s.data.toList)).data.toList.drop (escAll (s.data.toList.take k)).length = escB s.data.toList[k] ++ escAll (s.data.toList.drop (k + 1)) ∧ (escAll (s.data.toList.take (k + 1))).length = (escAll (s.data.toList.take k)).length + (escB s.data.toList[k]).length ∧ (escAll (s.data.toList.take k)).length + (escB s.data.toList[k]).length ≤ (strB (escAll s.data.toList)).size) := hid (fun k h => by rw [hxl, hxz]; exact esc_at s.data.toList k h)
  have hx15 : (strB (escAll s.data.toList)).size ≤ 1500 := by omega
  have HEND : Hid ((escAll (s.data.toList.take s.size)).length = (strB (escAll s.data.toList)).size) := hid (by rw [hxz, take_allE])
  generalize strB (escAll s.data.toList) = x at *
  have HAZ := hid haz
  clear hla hxl hxz haz
  go_wp2_with fail
  refine (E1.out _).mono ?_
  rintro e w2 ⟨rfl, hb2⟩
  have HB := hid (HB.out.trans (hb2.mono HB.out.size))
  clear hb2
  go_wp2_with fail
  go_loopw [5, 6] (fun f i wr => ∃ k p : Nat, k ≤ s.size ∧ i = .int .i64 k ∧ f = .int .i64 p ∧ Hid (p = (escAll (s.data.toList.take k)).length) ∧ p ≤ x.size ∧ Below w2.heap.size w2 wr) (fun _ i _ => s.size - (intOf i).toNat)
  case atStart => exact ⟨0, 0, Nat.zero_le _, rfl, rfl, hid rfl, Nat.zero_le _, Below.refl _ _⟩
  case round =>
    obtain ⟨k, p, hk, rfl, rfl, hp, hpx, hbw⟩ := hrel
    have HBW := hid hbw
    clear hbw
    by_cases hlt : k < s.size
    · obtain ⟨hdr, hnx, hle⟩ := HAT.out k (by rw [HAZ.out]; exact hlt)
      rw [← hp.out] at hdr hnx hle
      have hsk : s.data.toList[k]'(by rw [HAZ.out]; exact hlt) = s[k] := by simp; rfl
      rw [hsk] at hdr hnx hle
      have hx1 : (s[k]).toNat < 256 := s[k].toNat_lt
      have h38 := byte_eq s[k] 38 (by decide)
      cases h6 : six s[k] with
      | false =>
        have hB := (esc_no h6).2
        rw [hB] at hdr hnx hle
        have hpl : p < x.size := by simp at hle; omega
        have hby : x[p] = s[k] := byte_at x p 0 _ _ hdr (by simp) hpl
        have hn : ¬ (s[k] = 38 ∨ s[k] = 34 ∨ s[k] = 39 ∨ s[k] = 60 ∨ s[k] = 62 ∨ s[k] = 96) := by simpa [six] using h6
        have k38 : (((s[k]).toNat : Int) == 38) = false := byte_isnt (n := 38) (by decide) (fun e => hn (by rw [e]; decide))
        have k34 : (((s[k]).toNat : Int) == 34) = false := byte_isnt (n := 34) (by decide) (fun e => hn (by rw [e]; decide))
        have k39 : (((s[k]).toNat : Int) == 39) = false := byte_isnt (n := 39) (by decide) (fun e => hn (by rw [e]; decide))
        have k60 : (((s[k]).toNat : Int) == 60) = false := byte_isnt (n := 60) (by decide) (fun e => hn (by rw [e]; decide))
        have k62 : (((s[k]).toNat : Int) == 62) = false := byte_isnt (n := 62) (by decide) (fun e => hn (by rw [e]; decide))
        have k96 : (((s[k]).toNat : Int) == 96) = false := byte_isnt (n := 96) (by decide) (fun e => hn (by rw [e]; decide))
        have HNX : Hid (p + 1 = (escAll (s.data.toList.take (k + 1))).length) := hid (by rw [hnx]; rfl)
        have hd : decide (x.size ≤ p) = false := decide_eq_false (by omega)
        clear hn h6 hB hdr hnx hle hsk h38
        go_wp2_with fail
        go_roundw
        case rel => exact ⟨k + 1, p + 1, by omega, by go_num, by go_num, HNX, by omega, HBW.out⟩
        case measure => simp [intOf]; omega
      | true =>
        have hB := (esc_six h6).1
        have hL := (esc_six h6).2.2
        rw [hB] at hdr hnx hle
        rw [hL] at hnx hle
        obtain ⟨q, hq⟩ : ∃ q, q = p + 5 := ⟨_, rfl⟩
        obtain ⟨r, hr⟩ : ∃ r, r = p + 4 := ⟨_, rfl⟩
        obtain ⟨t, ht⟩ : ∃ t, t = k + 1 := ⟨_, rfl⟩
        have hqx : q ≤ x.size := by omega
        have hrx : r < x.size := by omega
        have hpl : p < x.size := by omega
        have hpq : p ≤ q := by omega
        have hkt : k ≤ t := by omega
        have hts : t ≤ s.size := by omega
        have hg : ∀ j (hj : j < 5) (h2 : p + j < x.size), x[p + j] = (esc1 s[k])[j]'(by rw [hL]; exact hj) := fun j hj h2 => byte_at x p j _ _ hdr (by rw [hL]; exact hj) h2
        have hcut : x.extract p q = strB (esc1 s[k]) := by
          rw [ext_listE, hdr, hq, Nat.add_sub_cancel_left, ← hL]
          congr 1
          exact List.take_left
        have hscut : s.extract k t = strB [s[k]] := by
          rw [ext_listE, ht, Nat.add_sub_cancel_left, List.drop_eq_getElem_cons (by rw [HAZ.out]; exact hlt), hsk]
          rfl
        have hdec : strB (decE (strB (esc1 s[k])).data.toList) = strB [s[k]] := by
          rw [strB_list, ← hB]
          have := dec_esc' [s[k]]
          rw [show escAll [s[k]] = escB s[k] by simp [escAll]] at this
          rw [this]
        have hzz : (strB (esc1 s[k])).size ≤ 100000 := by rw [strB_size, hL]; omega
        have D := hid (fun w => decode_of (strB (esc1 s[k])) (strB [s[k]]) hdec hzz w)
        have hW5 : IntKind.i64.wrap ((p : Int) + 5) = (q : Int) := by rw [IntWalk.i64_in _ (by omega)]; omega
        have hW4 : IntKind.i64.wrap ((p : Int) + 4) = (r : Int) := by rw [IntWalk.i64_in _ (by omega)]; omega
        have hW1 : IntKind.i64.wrap ((k : Int) + 1) = (t : Int) := by rw [IntWalk.i64_in _ (by omega)]; omega
        have HNX : Hid (q = (escAll (s.data.toList.take t)).length) := hid (by rw [ht, hnx, hq])
        have hb38 : (((x[p]).toNat : Int) != 38) = false := by
          have : x[p] = 38 := by
            have h' := hg 0 (by omega) hpl
            have h0 : (esc1 s[k])[0]'(by rw [hL]; omega) = 38 := by rcases six_cases h6 with h | h | h | h | h | h <;> simp [h, esc1]
            rw [← h0]
            exact h'
          rw [this]; decide
        have hb59 : (((x[r]'hrx).toNat : Int) != 59) = false := by
          have : x[r]'hrx = 59 := by
            have h' := hg 4 (by omega) (by omega)
            have h0 : (esc1 s[k])[4]'(by rw [hL]; omega) = 59 := by rcases six_cases h6 with h | h | h | h | h | h <;> simp [h, esc1]
            subst hr
            rw [← h0]
            exact h'
          rw [this]; decide
        have HQ := hid hq
        have HR := hid hr
        have HT := hid ht
        have hd5 : decide ((x.size : Int) < (q : Int)) = false := decide_eq_false (by omega)
        have hd5n : decide (x.size < q) = false := decide_eq_false (by omega)
        have hW5 := hid hW5
        have hW1 := hid hW1
        clear hB hdr hnx hle hsk hL hg hdec h38 hq hr ht
        rcases six_cases h6 with h | h | h | h | h | h
        · have k38 : (((s[k]).toNat : Int) == 38) = true := by rw [h]; decide
          have HC := hid h
          clear h h6
          go_wp2_with fail
          have hw5 := hW5.out
          have hw1 := hW1.out
          refine region_seq (fun W => Below w2.heap.size w2 W) (by kernel_rfl) (by kernel_rfl) HBW.out.drew ?_
          simp only []
          apply SeqDet.stepK
          · rfl
          · intro W hW K hK; go_simp; exact hK _ hW
          simp only [Act.put, List.setIfInBounds_toArray, List.set_cons_zero, List.set_cons_succ]
          apply SeqDet.stepK
          · rfl
          · intro W hW K hK; go_simp; exact hK _ hW
          simp only [Act.put, List.setIfInBounds_toArray, List.set_cons_zero, List.set_cons_succ]
          apply SeqDet.stepK
          · rfl
          · intro W hW K hK; go_simp; exact hK _ hW
          simp only [Act.put, List.setIfInBounds_toArray, List.set_cons_zero, List.set_cons_succ]
          apply SeqDet.stepK
          · rfl
          · intro W hW K hK; go_simp; exact hK _ hW
          simp only [Act.put, List.setIfInBounds_toArray, List.set_cons_zero, List.set_cons_succ]
          apply SeqDet.stepK
          · rfl
          · intro W hW K hK; go_simp; exact hK _ hW
          simp only [Act.put, List.setIfInBounds_toArray, List.set_cons_zero, List.set_cons_succ]
          apply SeqDet.stepK
          · rfl
          · intro W hW K hK; go_simp; exact hK _ hW
          simp only [Act.put, List.setIfInBounds_toArray, List.set_cons_zero, List.set_cons_succ]
          apply SeqDet.stepK
          · rfl
          · intro W hW K hK; go_simp; exact hK _ hW
          simp only [Act.put, List.setIfInBounds_toArray, List.set_cons_zero, List.set_cons_succ]
          apply SeqDet.stepK
          · rfl
          · intro W hW K hK; go_simp; exact hK _ hW
          simp only [Act.put, List.setIfInBounds_toArray, List.set_cons_zero, List.set_cons_succ]
          apply SeqDet.stepK
          · rfl
          · intro W hW K hK; go_simp; exact hK _ hW
          simp only [Act.put, List.setIfInBounds_toArray, List.set_cons_zero, List.set_cons_succ]
          apply SeqDet.stepK
          · rfl
          · intro W hW K hK; go_simp; exact hK _ hW
          simp only [Act.put, List.setIfInBounds_toArray, List.set_cons_zero, List.set_cons_succ]
          apply SeqDet.stepK
          · rfl
          · intro W hW K hK; go_simp; exact hK _ hW
          simp only [Act.put, List.setIfInBounds_toArray, List.set_cons_zero, List.set_cons_succ]
          apply SeqDet.stepK
          · rfl
          · intro W hW K hK; go_simp; exact hK _ hW
          simp only [Act.put, List.setIfInBounds_toArray, List.set_cons_zero, List.set_cons_succ]
          apply SeqDet.stepK
          · rfl
          · intro W hW K hK; go_simp; exact hK _ hW
          simp only [Act.put, List.setIfInBounds_toArray, List.set_cons_zero, List.set_cons_succ]
          apply SeqDet.stepK
          · rfl
          · intro W hW K hK; go_simp; exact hK _ hW
          simp only [Act.put, List.setIfInBounds_toArray, List.set_cons_zero, List.set_cons_succ]
          apply SeqDet.stepK
          · rfl
          · intro W hW K hK; go_simp; exact hK _ hW
          simp only [Act.put, List.setIfInBounds_toArray, List.set_cons_zero, List.set_cons_succ]
          apply SeqDet.stepK
          · rfl
          · intro W hW K hK; go_simp; exact hK _ hW
          simp only [Act.put, List.setIfInBounds_toArray, List.set_cons_zero, List.set_cons_succ]
          apply SeqDet.stepK
          · rfl
          · intro W hW K hK; go_simp; exact hK _ hW
          simp only [Act.put, List.setIfInBounds_toArray, List.set_cons_zero, List.set_cons_succ]
          apply SeqDet.stepK
          · rfl
          · intro W hW K hK; go_simp; exact hK _ hW
          simp only [Act.put, List.setIfInBounds_toArray, List.set_cons_zero, List.set_cons_succ]
          apply SeqDet.stepK
          · rfl
          · intro W hW K hK; go_simp; exact hK _ hW
          simp only [Act.put, List.setIfInBounds_toArray, List.set_cons_zero, List.set_cons_succ]
          apply SeqDet.stepK
          · rfl
          · intro W hW K hK; go_simp; exact hK _ hW
          simp only [Act.put, List.setIfInBounds_toArray, List.set_cons_zero, List.set_cons_succ]
          apply SeqDet.stepK
          · rfl
          · intro W hW K hK; go_simp; exact hK _ hW
          simp only [Act.put, List.setIfInBounds_toArray, List.set_cons_zero, List.set_cons_succ]
          apply SeqDet.stepK
          · rfl
          · intro W hW K hK; go_simp; exact hK _ hW
          simp only [Act.put, List.setIfInBounds_toArray, List.set_cons_zero, List.set_cons_succ]
          apply SeqDet.stepK
          · rfl
          · intro W hW K hK; go_simp; exact hK _ hW
          simp only [Act.put, List.setIfInBounds_toArray, List.set_cons_zero, List.set_cons_succ]
          apply SeqDet.stepK
          · rfl
          · intro W hW K hK; go_simp; exact hK _ hW
          simp only [Act.put, List.setIfInBounds_toArray, List.set_cons_zero, List.set_cons_succ]
          apply SeqDet.stepK
          · rfl
          · intro W hW K hK; go_simp; go_at_call 18; refine (D.out _).mono ?_; rintro e W2 ⟨rfl, hb9⟩; exact hK _ (hW.trans (hb9.mono hW.size))
          simp only [Act.put, List.setIfInBounds_toArray, List.set_cons_zero, List.set_cons_succ]
          apply SeqDet.stepK
          · rfl
          · intro W hW K hK; go_simp; exact hK _ hW
          simp only [Act.put, List.setIfInBounds_toArray, List.set_cons_zero, List.set_cons_succ]
          apply SeqDet.stepK
          · rfl
          · intro W hW K hK; go_simp; exact hK _ hW
          simp only [Act.put, List.setIfInBounds_toArray, List.set_cons_zero, List.set_cons_succ]
          apply SeqDet.stepK
          · rfl
          · intro W hW K hK; go_simp; exact hK _ hW
          simp only [Act.put, List.setIfInBounds_toArray, List.set_cons_zero, List.set_cons_succ]
          apply SeqDet.stepK
          · rfl
          · intro W hW K hK; go_simp; exact hK _ hW
          simp only [Act.put, List.setIfInBounds_toArray, List.set_cons_zero, List.set_cons_succ]
          apply SeqDet.stepK
          · rfl
          · intro W hW K hK; go_simp; exact hK _ hW
          simp only [Act.put, List.setIfInBounds_toArray, List.set_cons_zero, List.set_cons_succ]
          apply SeqDet.stepK
          · rfl
          · intro W hW K hK; go_simp; exact hK _ hW
          simp only [Act.put, List.setIfInBounds_toArray, List.set_cons_zero, List.set_cons_succ]
          apply SeqDet.stepK
          · rfl
          · intro W hW K hK; go_simp; exact hK _ hW
          simp only [Act.put, List.setIfInBounds_toArray, List.set_cons_zero, List.set_cons_succ]
          refine SeqDet.nil ?_
          intro w4 hb4
          clear hw1 hcut hscut hW4
          go_wp2_with fail
          go_roundw
          case rel => exact ⟨t, q, by omega, by have := HT.out; subst this; go_num, rfl, HNX, by omega, hb4⟩
          case measure => have := HT.out; simp [intOf]; omega
        · have k38 : (((s[k]).toNat : Int) == 38) = false := by rw [h]; decide
          have k34 : (((s[k]).toNat : Int) == 34) = true := by rw [h]; decide
          have HC := hid h
          clear h h6
          go_wp2_with fail
          have hw5 := hW5.out
          have hw1 := hW1.out
          refine region_seq (fun W => Below w2.heap.size w2 W) (by kernel_rfl) (by kernel_rfl) HBW.out.drew ?_
          simp only []
          apply SeqDet.stepK
          · rfl
          · intro W hW K hK; go_simp; exact hK _ hW
          simp only [Act.put, List.setIfInBounds_toArray, List.set_cons_zero, List.set_cons_succ]
          apply SeqDet.stepK
          · rfl
          · intro W hW K hK; go_simp; exact hK _ hW
          simp only [Act.put, List.setIfInBounds_toArray, List.set_cons_zero, List.set_cons_succ]
          apply SeqDet.stepK
          · rfl
          · intro W hW K hK; go_simp; exact hK _ hW
          simp only [Act.put, List.setIfInBounds_toArray, List.set_cons_zero, List.set_cons_succ]
          apply SeqDet.stepK
          · rfl
          · intro W hW K hK; go_simp; exact hK _ hW
          simp only [Act.put, List.setIfInBounds_toArray, List.set_cons_zero, List.set_cons_succ]
          apply SeqDet.stepK
          · rfl
          · intro W hW K hK; go_simp; exact hK _ hW
          simp only [Act.put, List.setIfInBounds_toArray, List.set_cons_zero, List.set_cons_succ]
          apply SeqDet.stepK
          · rfl
          · intro W hW K hK; go_simp; exact hK _ hW
          simp only [Act.put, List.setIfInBounds_toArray, List.set_cons_zero, List.set_cons_succ]
          apply SeqDet.stepK
          · rfl
          · intro W hW K hK; go_simp; exact hK _ hW
          simp only [Act.put, List.setIfInBounds_toArray, List.set_cons_zero, List.set_cons_succ]
          apply SeqDet.stepK
          · rfl
          · intro W hW K hK; go_simp; exact hK _ hW
          simp only [Act.put, List.setIfInBounds_toArray, List.set_cons_zero, List.set_cons_succ]
          apply SeqDet.stepK
          · rfl
          · intro W hW K hK; go_simp; exact hK _ hW
          simp only [Act.put, List.setIfInBounds_toArray, List.set_cons_zero, List.set_cons_succ]
          apply SeqDet.stepK
          · rfl
          · intro W hW K hK; go_simp; exact hK _ hW
          simp only [Act.put, List.setIfInBounds_toArray, List.set_cons_zero, List.set_cons_succ]
          apply SeqDet.stepK
          · rfl
          · intro W hW K hK; go_simp; exact hK _ hW
          simp only [Act.put, List.setIfInBounds_toArray, List.set_cons_zero, List.set_cons_succ]
          apply SeqDet.stepK
          · rfl
          · intro W hW K hK; go_simp; exact hK _ hW
          simp only [Act.put, List.setIfInBounds_toArray, List.set_cons_zero, List.set_cons_succ]
          apply SeqDet.stepK
          · rfl
          · intro W hW K hK; go_simp; exact hK _ hW
          simp only [Act.put, List.setIfInBounds_toArray, List.set_cons_zero, List.set_cons_succ]
          apply SeqDet.stepK
          · rfl
          · intro W hW K hK; go_simp; exact hK _ hW
          simp only [Act.put, List.setIfInBounds_toArray, List.set_cons_zero, List.set_cons_succ]
          apply SeqDet.stepK
          · rfl
          · intro W hW K hK; go_simp; exact hK _ hW
          simp only [Act.put, List.setIfInBounds_toArray, List.set_cons_zero, List.set_cons_succ]
          apply SeqDet.stepK
          · rfl
          · intro W hW K hK; go_simp; exact hK _ hW
          simp only [Act.put, List.setIfInBounds_toArray, List.set_cons_zero, List.set_cons_succ]
          apply SeqDet.stepK
          · rfl
          · intro W hW K hK; go_simp; exact hK _ hW
          simp only [Act.put, List.setIfInBounds_toArray, List.set_cons_zero, List.set_cons_succ]
          apply SeqDet.stepK
          · rfl
          · intro W hW K hK; go_simp; exact hK _ hW
          simp only [Act.put, List.setIfInBounds_toArray, List.set_cons_zero, List.set_cons_succ]
          apply SeqDet.stepK
          · rfl
          · intro W hW K hK; go_simp; exact hK _ hW
          simp only [Act.put, List.setIfInBounds_toArray, List.set_cons_zero, List.set_cons_succ]
          apply SeqDet.stepK
          · rfl
          · intro W hW K hK; go_simp; exact hK _ hW
          simp only [Act.put, List.setIfInBounds_toArray, List.set_cons_zero, List.set_cons_succ]
          apply SeqDet.stepK
          · rfl
          · intro W hW K hK; go_simp; exact hK _ hW
          simp only [Act.put, List.setIfInBounds_toArray, List.set_cons_zero, List.set_cons_succ]
          apply SeqDet.stepK
          · rfl
          · intro W hW K hK; go_simp; exact hK _ hW
          simp only [Act.put, List.setIfInBounds_toArray, List.set_cons_zero, List.set_cons_succ]
          apply SeqDet.stepK
          · rfl
          · intro W hW K hK; go_simp; exact hK _ hW
          simp only [Act.put, List.setIfInBounds_toArray, List.set_cons_zero, List.set_cons_succ]
          apply SeqDet.stepK
          · rfl
          · intro W hW K hK; go_simp; exact hK _ hW
          simp only [Act.put, List.setIfInBounds_toArray, List.set_cons_zero, List.set_cons_succ]
          apply SeqDet.stepK
          · rfl
          · intro W hW K hK; go_simp; go_at_call 18; refine (D.out _).mono ?_; rintro e W2 ⟨rfl, hb9⟩; exact hK _ (hW.trans (hb9.mono hW.size))
          simp only [Act.put, List.setIfInBounds_toArray, List.set_cons_zero, List.set_cons_succ]
          apply SeqDet.stepK
          · rfl
          · intro W hW K hK; go_simp; exact hK _ hW
          simp only [Act.put, List.setIfInBounds_toArray, List.set_cons_zero, List.set_cons_succ]
          apply SeqDet.stepK
          · rfl
          · intro W hW K hK; go_simp; exact hK _ hW
          simp only [Act.put, List.setIfInBounds_toArray, List.set_cons_zero, List.set_cons_succ]
          apply SeqDet.stepK
          · rfl
          · intro W hW K hK; go_simp; exact hK _ hW
          simp only [Act.put, List.setIfInBounds_toArray, List.set_cons_zero, List.set_cons_succ]
          apply SeqDet.stepK
          · rfl
          · intro W hW K hK; go_simp; exact hK _ hW
          simp only [Act.put, List.setIfInBounds_toArray, List.set_cons_zero, List.set_cons_succ]
          apply SeqDet.stepK
          · rfl
          · intro W hW K hK; go_simp; exact hK _ hW
          simp only [Act.put, List.setIfInBounds_toArray, List.set_cons_zero, List.set_cons_succ]
          apply SeqDet.stepK
          · rfl
          · intro W hW K hK; go_simp; exact hK _ hW
          simp only [Act.put, List.setIfInBounds_toArray, List.set_cons_zero, List.set_cons_succ]
          apply SeqDet.stepK
          · rfl
          · intro W hW K hK; go_simp; exact hK _ hW
          simp only [Act.put, List.setIfInBounds_toArray, List.set_cons_zero, List.set_cons_succ]
          refine SeqDet.nil ?_
          intro w4 hb4
          clear hw1 hcut hscut hW4
          go_wp2_with fail
          go_roundw
          case rel => exact ⟨t, q, by omega, by have := HT.out; subst this; go_num, rfl, HNX, by omega, hb4⟩
          case measure => have := HT.out; simp [intOf]; omega
        · have k38 : (((s[k]).toNat : Int) == 38) = false := by rw [h]; decide
          have k34 : (((s[k]).toNat : Int) == 34) = false := by rw [h]; decide
          have k39 : (((s[k]).toNat : Int) == 39) = true := by rw [h]; decide
          have HC := hid h
          clear h h6
          go_wp2_with fail
          have hw5 := hW5.out
          have hw1 := hW1.out
          refine region_seq (fun W => Below w2.heap.size w2 W) (by kernel_rfl) (by kernel_rfl) HBW.out.drew ?_
          simp only []
          apply SeqDet.stepK
          · rfl
          · intro W hW K hK; go_simp; exact hK _ hW
          simp only [Act.put, List.setIfInBounds_toArray, List.set_cons_zero, List.set_cons_succ]
          apply SeqDet.stepK
          · rfl
          · intro W hW K hK; go_simp; exact hK _ hW
          simp only [Act.put, List.setIfInBounds_toArray, List.set_cons_zero, List.set_cons_succ]
          apply SeqDet.stepK
          · rfl
          · intro W hW K hK; go_simp; exact hK _ hW
          simp only [Act.put, List.setIfInBounds_toArray, List.set_cons_zero, List.set_cons_succ]
          apply SeqDet.stepK
          · rfl
          · intro W hW K hK; go_simp; exact hK _ hW
          simp only [Act.put, List.setIfInBounds_toArray, List.set_cons_zero, List.set_cons_succ]
          apply SeqDet.stepK
          · rfl
          · intro W hW K hK; go_simp; exact hK _ hW
          simp only [Act.put, List.setIfInBounds_toArray, List.set_cons_zero, List.set_cons_succ]
          apply SeqDet.stepK
          · rfl
          · intro W hW K hK; go_simp; exact hK _ hW
          simp only [Act.put, List.setIfInBounds_toArray, List.set_cons_zero, List.set_cons_succ]
          apply SeqDet.stepK
          · rfl
          · intro W hW K hK; go_simp; exact hK _ hW
          simp only [Act.put, List.setIfInBounds_toArray, List.set_cons_zero, List.set_cons_succ]
          apply SeqDet.stepK
          · rfl
          · intro W hW K hK; go_simp; exact hK _ hW
          simp only [Act.put, List.setIfInBounds_toArray, List.set_cons_zero, List.set_cons_succ]
          apply SeqDet.stepK
          · rfl
          · intro W hW K hK; go_simp; exact hK _ hW
          simp only [Act.put, List.setIfInBounds_toArray, List.set_cons_zero, List.set_cons_succ]
          apply SeqDet.stepK
          · rfl
          · intro W hW K hK; go_simp; exact hK _ hW
          simp only [Act.put, List.setIfInBounds_toArray, List.set_cons_zero, List.set_cons_succ]
          apply SeqDet.stepK
          · rfl
          · intro W hW K hK; go_simp; exact hK _ hW
          simp only [Act.put, List.setIfInBounds_toArray, List.set_cons_zero, List.set_cons_succ]
          apply SeqDet.stepK
          · rfl
          · intro W hW K hK; go_simp; exact hK _ hW
          simp only [Act.put, List.setIfInBounds_toArray, List.set_cons_zero, List.set_cons_succ]
          apply SeqDet.stepK
          · rfl
          · intro W hW K hK; go_simp; exact hK _ hW
          simp only [Act.put, List.setIfInBounds_toArray, List.set_cons_zero, List.set_cons_succ]
          apply SeqDet.stepK
          · rfl
          · intro W hW K hK; go_simp; exact hK _ hW
          simp only [Act.put, List.setIfInBounds_toArray, List.set_cons_zero, List.set_cons_succ]
          apply SeqDet.stepK
          · rfl
          · intro W hW K hK; go_simp; exact hK _ hW
          simp only [Act.put, List.setIfInBounds_toArray, List.set_cons_zero, List.set_cons_succ]
          apply SeqDet.stepK
          · rfl
          · intro W hW K hK; go_simp; exact hK _ hW
          simp only [Act.put, List.setIfInBounds_toArray, List.set_cons_zero, List.set_cons_succ]
          apply SeqDet.stepK
          · rfl
          · intro W hW K hK; go_simp; exact hK _ hW
          simp only [Act.put, List.setIfInBounds_toArray, List.set_cons_zero, List.set_cons_succ]
          apply SeqDet.stepK
          · rfl
          · intro W hW K hK; go_simp; exact hK _ hW
          simp only [Act.put, List.setIfInBounds_toArray, List.set_cons_zero, List.set_cons_succ]
          apply SeqDet.stepK
          · rfl
          · intro W hW K hK; go_simp; exact hK _ hW
          simp only [Act.put, List.setIfInBounds_toArray, List.set_cons_zero, List.set_cons_succ]
          apply SeqDet.stepK
          · rfl
          · intro W hW K hK; go_simp; exact hK _ hW
          simp only [Act.put, List.setIfInBounds_toArray, List.set_cons_zero, List.set_cons_succ]
          apply SeqDet.stepK
          · rfl
          · intro W hW K hK; go_simp; exact hK _ hW
          simp only [Act.put, List.setIfInBounds_toArray, List.set_cons_zero, List.set_cons_succ]
          apply SeqDet.stepK
          · rfl
          · intro W hW K hK; go_simp; exact hK _ hW
          simp only [Act.put, List.setIfInBounds_toArray, List.set_cons_zero, List.set_cons_succ]
          apply SeqDet.stepK
          · rfl
          · intro W hW K hK; go_simp; exact hK _ hW
          simp only [Act.put, List.setIfInBounds_toArray, List.set_cons_zero, List.set_cons_succ]
          apply SeqDet.stepK
          · rfl
          · intro W hW K hK; go_simp; exact hK _ hW
          simp only [Act.put, List.setIfInBounds_toArray, List.set_cons_zero, List.set_cons_succ]
          apply SeqDet.stepK
          · rfl
          · intro W hW K hK; go_simp; go_at_call 18; refine (D.out _).mono ?_; rintro e W2 ⟨rfl, hb9⟩; exact hK _ (hW.trans (hb9.mono hW.size))
          simp only [Act.put, List.setIfInBounds_toArray, List.set_cons_zero, List.set_cons_succ]
          apply SeqDet.stepK
          · rfl
          · intro W hW K hK; go_simp; exact hK _ hW
          simp only [Act.put, List.setIfInBounds_toArray, List.set_cons_zero, List.set_cons_succ]
          apply SeqDet.stepK
          · rfl
          · intro W hW K hK; go_simp; exact hK _ hW
          simp only [Act.put, List.setIfInBounds_toArray, List.set_cons_zero, List.set_cons_succ]
          apply SeqDet.stepK
          · rfl
          · intro W hW K hK; go_simp; exact hK _ hW
          simp only [Act.put, List.setIfInBounds_toArray, List.set_cons_zero, List.set_cons_succ]
          apply SeqDet.stepK
          · rfl
          · intro W hW K hK; go_simp; exact hK _ hW
          simp only [Act.put, List.setIfInBounds_toArray, List.set_cons_zero, List.set_cons_succ]
          apply SeqDet.stepK
          · rfl
          · intro W hW K hK; go_simp; exact hK _ hW
          simp only [Act.put, List.setIfInBounds_toArray, List.set_cons_zero, List.set_cons_succ]
          apply SeqDet.stepK
          · rfl
          · intro W hW K hK; go_simp; exact hK _ hW
          simp only [Act.put, List.setIfInBounds_toArray, List.set_cons_zero, List.set_cons_succ]
          apply SeqDet.stepK
          · rfl
          · intro W hW K hK; go_simp; exact hK _ hW
          simp only [Act.put, List.setIfInBounds_toArray, List.set_cons_zero, List.set_cons_succ]
          refine SeqDet.nil ?_
          intro w4 hb4
          clear hw1 hcut hscut hW4
          go_wp2_with fail
          go_roundw
          case rel => exact ⟨t, q, by omega, by have := HT.out; subst this; go_num, rfl, HNX, by omega, hb4⟩
          case measure => have := HT.out; simp [intOf]; omega
        · have k38 : (((s[k]).toNat : Int) == 38) = false := by rw [h]; decide
          have k34 : (((s[k]).toNat : Int) == 34) = false := by rw [h]; decide
          have k39 : (((s[k]).toNat : Int) == 39) = false := by rw [h]; decide
          have k60 : (((s[k]).toNat : Int) == 60) = true := by rw [h]; decide
          have HC := hid h
          clear h h6
          go_wp2_with fail
          have hw5 := hW5.out
          have hw1 := hW1.out
          refine region_seq (fun W => Below w2.heap.size w2 W) (by kernel_rfl) (by kernel_rfl) HBW.out.drew ?_
          simp only []
          apply SeqDet.stepK
          · rfl
          · intro W hW K hK; go_simp; exact hK _ hW
          simp only [Act.put, List.setIfInBounds_toArray, List.set_cons_zero, List.set_cons_succ]
          apply SeqDet.stepK
          · rfl
          · intro W hW K hK; go_simp; exact hK _ hW
          simp only [Act.put, List.setIfInBounds_toArray, List.set_cons_zero, List.set_cons_succ]
          apply SeqDet.stepK
          · rfl
          · intro W hW K hK; go_simp; exact hK _ hW
          simp only [Act.put, List.setIfInBounds_toArray, List.set_cons_zero, List.set_cons_succ]
          apply SeqDet.stepK
          · rfl
          · intro W hW K hK; go_simp; exact hK _ hW
          simp only [Act.put, List.setIfInBounds_toArray, List.set_cons_zero, List.set_cons_succ]
          apply SeqDet.stepK
          · rfl
          · intro W hW K hK; go_simp; exact hK _ hW
          simp only [Act.put, List.setIfInBounds_toArray, List.set_cons_zero, List.set_cons_succ]
          apply SeqDet.stepK
          · rfl
          · intro W hW K hK; go_simp; exact hK _ hW
          simp only [Act.put, List.setIfInBounds_toArray, List.set_cons_zero, List.set_cons_succ]
          apply SeqDet.stepK
          · rfl
          · intro W hW K hK; go_simp; exact hK _ hW
          simp only [Act.put, List.setIfInBounds_toArray, List.set_cons_zero, List.set_cons_succ]
          apply SeqDet.stepK
          · rfl
          · intro W hW K hK; go_simp; exact hK _ hW
          simp only [Act.put, List.setIfInBounds_toArray, List.set_cons_zero, List.set_cons_succ]
          apply SeqDet.stepK
          · rfl
          · intro W hW K hK; go_simp; exact hK _ hW
          simp only [Act.put, List.setIfInBounds_toArray, List.set_cons_zero, List.set_cons_succ]
          apply SeqDet.stepK
          · rfl
          · intro W hW K hK; go_simp; exact hK _ hW
          simp only [Act.put, List.setIfInBounds_toArray, List.set_cons_zero, List.set_cons_succ]
          apply SeqDet.stepK
          · rfl
          · intro W hW K hK; go_simp; exact hK _ hW
          simp only [Act.put, List.setIfInBounds_toArray, List.set_cons_zero, List.set_cons_succ]
          apply SeqDet.stepK
          · rfl
          · intro W hW K hK; go_simp; exact hK _ hW
          simp only [Act.put, List.setIfInBounds_toArray, List.set_cons_zero, List.set_cons_succ]
          apply SeqDet.stepK
          · rfl
          · intro W hW K hK; go_simp; exact hK _ hW
          simp only [Act.put, List.setIfInBounds_toArray, List.set_cons_zero, List.set_cons_succ]
          apply SeqDet.stepK
          · rfl
          · intro W hW K hK; go_simp; exact hK _ hW
          simp only [Act.put, List.setIfInBounds_toArray, List.set_cons_zero, List.set_cons_succ]
          apply SeqDet.stepK
          · rfl
          · intro W hW K hK; go_simp; exact hK _ hW
          simp only [Act.put, List.setIfInBounds_toArray, List.set_cons_zero, List.set_cons_succ]
          apply SeqDet.stepK
          · rfl
          · intro W hW K hK; go_simp; exact hK _ hW
          simp only [Act.put, List.setIfInBounds_toArray, List.set_cons_zero, List.set_cons_succ]
          apply SeqDet.stepK
          · rfl
          · intro W hW K hK; go_simp; exact hK _ hW
          simp only [Act.put, List.setIfInBounds_toArray, List.set_cons_zero, List.set_cons_succ]
          apply SeqDet.stepK
          · rfl
          · intro W hW K hK; go_simp; exact hK _ hW
          simp only [Act.put, List.setIfInBounds_toArray, List.set_cons_zero, List.set_cons_succ]
          apply SeqDet.stepK
          · rfl
          · intro W hW K hK; go_simp; exact hK _ hW
          simp only [Act.put, List.setIfInBounds_toArray, List.set_cons_zero, List.set_cons_succ]
          apply SeqDet.stepK
          · rfl
          · intro W hW K hK; go_simp; exact hK _ hW
          simp only [Act.put, List.setIfInBounds_toArray, List.set_cons_zero, List.set_cons_succ]
          apply SeqDet.stepK
          · rfl
          · intro W hW K hK; go_simp; exact hK _ hW
          simp only [Act.put, List.setIfInBounds_toArray, List.set_cons_zero, List.set_cons_succ]
          apply SeqDet.stepK
          · rfl
          · intro W hW K hK; go_simp; exact hK _ hW
          simp only [Act.put, List.setIfInBounds_toArray, List.set_cons_zero, List.set_cons_succ]
          apply SeqDet.stepK
          · rfl
          · intro W hW K hK; go_simp; exact hK _ hW
          simp only [Act.put, List.setIfInBounds_toArray, List.set_cons_zero, List.set_cons_succ]
          apply SeqDet.stepK
          · rfl
          · intro W hW K hK; go_simp; exact hK _ hW
          simp only [Act.put, List.setIfInBounds_toArray, List.set_cons_zero, List.set_cons_succ]
          apply SeqDet.stepK
          · rfl
          · intro W hW K hK; go_simp; go_at_call 18; refine (D.out _).mono ?_; rintro e W2 ⟨rfl, hb9⟩; exact hK _ (hW.trans (hb9.mono hW.size))
          simp only [Act.put, List.setIfInBounds_toArray, List.set_cons_zero, List.set_cons_succ]
          apply SeqDet.stepK
          · rfl
          · intro W hW K hK; go_simp; exact hK _ hW
          simp only [Act.put, List.setIfInBounds_toArray, List.set_cons_zero, List.set_cons_succ]
          apply SeqDet.stepK
          · rfl
          · intro W hW K hK; go_simp; exact hK _ hW
          simp only [Act.put, List.setIfInBounds_toArray, List.set_cons_zero, List.set_cons_succ]
          apply SeqDet.stepK
          · rfl
          · intro W hW K hK; go_simp; exact hK _ hW
          simp only [Act.put, List.setIfInBounds_toArray, List.set_cons_zero, List.set_cons_succ]
          apply SeqDet.stepK
          · rfl
          · intro W hW K hK; go_simp; exact hK _ hW
          simp only [Act.put, List.setIfInBounds_toArray, List.set_cons_zero, List.set_cons_succ]
          apply SeqDet.stepK
          · rfl
          · intro W hW K hK; go_simp; exact hK _ hW
          simp only [Act.put, List.setIfInBounds_toArray, List.set_cons_zero, List.set_cons_succ]
          apply SeqDet.stepK
          · rfl
          · intro W hW K hK; go_simp; exact hK _ hW
          simp only [Act.put, List.setIfInBounds_toArray, List.set_cons_zero, List.set_cons_succ]
          apply SeqDet.stepK
          · rfl
          · intro W hW K hK; go_simp; exact hK _ hW
          simp only [Act.put, List.setIfInBounds_toArray, List.set_cons_zero, List.set_cons_succ]
          refine SeqDet.nil ?_
          intro w4 hb4
          clear hw1 hcut hscut hW4
          go_wp2_with fail
          go_roundw
          case rel => exact ⟨t, q, by omega, by have := HT.out; subst this; go_num, rfl, HNX, by omega, hb4⟩
          case measure => have := HT.out; simp [intOf]; omega
        · have k38 : (((s[k]).toNat : Int) == 38) = false := by rw [h]; decide
          have k34 : (((s[k]).toNat : Int) == 34) = false := by rw [h]; decide
          have k39 : (((s[k]).toNat : Int) == 39) = false := by rw [h]; decide
          have k60 : (((s[k]).toNat : Int) == 60) = false := by rw [h]; decide
          have k62 : (((s[k]).toNat : Int) == 62) = true := by rw [h]; decide
          have HC := hid h
          clear h h6
          go_wp2_with fail
          have hw5 := hW5.out
          have hw1 := hW1.out
          refine region_seq (fun W => Below w2.heap.size w2 W) (by kernel_rfl) (by kernel_rfl) HBW.out.drew ?_
          simp only []
          apply SeqDet.stepK
          · rfl
          · intro W hW K hK; go_simp; exact hK _ hW
          simp only [Act.put, List.setIfInBounds_toArray, List.set_cons_zero, List.set_cons_succ]
          apply SeqDet.stepK
          · rfl
          · intro W hW K hK; go_simp; exact hK _ hW
          simp only [Act.put, List.setIfInBounds_toArray, List.set_cons_zero, List.set_cons_succ]
          apply SeqDet.stepK
          · rfl
          · intro W hW K hK; go_simp; exact hK _ hW
          simp only [Act.put, List.setIfInBounds_toArray, List.set_cons_zero, List.set_cons_succ]
          apply SeqDet.stepK
          · rfl
          · intro W hW K hK; go_simp; exact hK _ hW
          simp only [Act.put, List.setIfInBounds_toArray, List.set_cons_zero, List.set_cons_succ]
          apply SeqDet.stepK
          · rfl
          · intro W hW K hK; go_simp; exact hK _ hW
          simp only [Act.put, List.setIfInBounds_toArray, List.set_cons_zero, List.set_cons_succ]
          apply SeqDet.stepK
          · rfl
          · intro W hW K hK; go_simp; exact hK _ hW
          simp only [Act.put, List.setIfInBounds_toArray, List.set_cons_zero, List.set_cons_succ]
          apply SeqDet.stepK
          · rfl
          · intro W hW K hK; go_simp; exact hK _ hW
          simp only [Act.put, List.setIfInBounds_toArray, List.set_cons_zero, List.set_cons_succ]
          apply SeqDet.stepK
          · rfl
          · intro W hW K hK; go_simp; exact hK _ hW
          simp only [Act.put, List.setIfInBounds_toArray, List.set_cons_zero, List.set_cons_succ]
          apply SeqDet.stepK
          · rfl
          · intro W hW K hK; go_simp; exact hK _ hW
          simp only [Act.put, List.setIfInBounds_toArray, List.set_cons_zero, List.set_cons_succ]
          apply SeqDet.stepK
          · rfl
          · intro W hW K hK; go_simp; exact hK _ hW
          simp only [Act.put, List.setIfInBounds_toArray, List.set_cons_zero, List.set_cons_succ]
          apply SeqDet.stepK
          · rfl
          · intro W hW K hK; go_simp; exact hK _ hW
          simp only [Act.put, List.setIfInBounds_toArray, List.set_cons_zero, List.set_cons_succ]
          apply SeqDet.stepK
          · rfl
          · intro W hW K hK; go_simp; exact hK _ hW
          simp only [Act.put, List.setIfInBounds_toArray, List.set_cons_zero, List.set_cons_succ]
          apply SeqDet.stepK
          · rfl
          · intro W hW K hK; go_simp; exact hK _ hW
          simp only [Act.put, List.setIfInBounds_toArray, List.set_cons_zero, List.set_cons_succ]
          apply SeqDet.stepK
          · rfl
          · intro W hW K hK; go_simp; exact hK _ hW
          simp only [Act.put, List.setIfInBounds_toArray, List.set_cons_zero, List.set_cons_succ]
          apply SeqDet.stepK
          · rfl
          · intro W hW K hK; go_simp; exact hK _ hW
          simp only [Act.put, List.setIfInBounds_toArray, List.set_cons_zero, List.set_cons_succ]
          apply SeqDet.stepK
          · rfl
          · intro W hW K hK; go_simp; exact hK _ hW
          simp only [Act.put, List.setIfInBounds_toArray, List.set_cons_zero, List.set_cons_succ]
          apply SeqDet.stepK
          · rfl
          · intro W hW K hK; go_simp; exact hK _ hW
          simp only [Act.put, List.setIfInBounds_toArray, List.set_cons_zero, List.set_cons_succ]
          apply SeqDet.stepK
          · rfl
          · intro W hW K hK; go_simp; exact hK _ hW
          simp only [Act.put, List.setIfInBounds_toArray, List.set_cons_zero, List.set_cons_succ]
          apply SeqDet.stepK
          · rfl
          · intro W hW K hK; go_simp; exact hK _ hW
          simp only [Act.put, List.setIfInBounds_toArray, List.set_cons_zero, List.set_cons_succ]
          apply SeqDet.stepK
          · rfl
          · intro W hW K hK; go_simp; exact hK _ hW
          simp only [Act.put, List.setIfInBounds_toArray, List.set_cons_zero, List.set_cons_succ]
          apply SeqDet.stepK
          · rfl
          · intro W hW K hK; go_simp; exact hK _ hW
          simp only [Act.put, List.setIfInBounds_toArray, List.set_cons_zero, List.set_cons_succ]
          apply SeqDet.stepK
          · rfl
          · intro W hW K hK; go_simp; exact hK _ hW
          simp only [Act.put, List.setIfInBounds_toArray, List.set_cons_zero, List.set_cons_succ]
          apply SeqDet.stepK
          · rfl
          · intro W hW K hK; go_simp; exact hK _ hW
          simp only [Act.put, List.setIfInBounds_toArray, List.set_cons_zero, List.set_cons_succ]
          apply SeqDet.stepK
          · rfl
          · intro W hW K hK; go_simp; exact hK _ hW
          simp only [Act.put, List.setIfInBounds_toArray, List.set_cons_zero, List.set_cons_succ]
          apply SeqDet.stepK
          · rfl
          · intro W hW K hK; go_simp; go_at_call 18; refine (D.out _).mono ?_; rintro e W2 ⟨rfl, hb9⟩; exact hK _ (hW.trans (hb9.mono hW.size))
          simp only [Act.put, List.setIfInBounds_toArray, List.set_cons_zero, List.set_cons_succ]
          apply SeqDet.stepK
          · rfl
          · intro W hW K hK; go_simp; exact hK _ hW
          simp only [Act.put, List.setIfInBounds_toArray, List.set_cons_zero, List.set_cons_succ]
          apply SeqDet.stepK
          · rfl
          · intro W hW K hK; go_simp; exact hK _ hW
          simp only [Act.put, List.setIfInBounds_toArray, List.set_cons_zero, List.set_cons_succ]
          apply SeqDet.stepK
          · rfl
          · intro W hW K hK; go_simp; exact hK _ hW
          simp only [Act.put, List.setIfInBounds_toArray, List.set_cons_zero, List.set_cons_succ]
          apply SeqDet.stepK
          · rfl
          · intro W hW K hK; go_simp; exact hK _ hW
          simp only [Act.put, List.setIfInBounds_toArray, List.set_cons_zero, List.set_cons_succ]
          apply SeqDet.stepK
          · rfl
          · intro W hW K hK; go_simp; exact hK _ hW
          simp only [Act.put, List.setIfInBounds_toArray, List.set_cons_zero, List.set_cons_succ]
          apply SeqDet.stepK
          · rfl
          · intro W hW K hK; go_simp; exact hK _ hW
          simp only [Act.put, List.setIfInBounds_toArray, List.set_cons_zero, List.set_cons_succ]
          apply SeqDet.stepK
          · rfl
          · intro W hW K hK; go_simp; exact hK _ hW
          simp only [Act.put, List.setIfInBounds_toArray, List.set_cons_zero, List.set_cons_succ]
          refine SeqDet.nil ?_
          intro w4 hb4
          clear hw1 hcut hscut hW4
          go_wp2_with fail
          go_roundw
          case rel => exact ⟨t, q, by omega, by have := HT.out; subst this; go_num, rfl, HNX, by omega, hb4⟩
          case measure => have := HT.out; simp [intOf]; omega
        · have k38 : (((s[k]).toNat : Int) == 38) = false := by rw [h]; decide
          have k34 : (((s[k]).toNat : Int) == 34) = false := by rw [h]; decide
          have k39 : (((s[k]).toNat : Int) == 39) = false := by rw [h]; decide
          have k60 : (((s[k]).toNat : Int) == 60) = false := by rw [h]; decide
          have k62 : (((s[k]).toNat : Int) == 62) = false := by rw [h]; decide
          have k96 : (((s[k]).toNat : Int) == 96) = true := by rw [h]; decide
          have HC := hid h
          clear h h6
          go_wp2_with fail
          have hw5 := hW5.out
          have hw1 := hW1.out
          refine region_seq (fun W => Below w2.heap.size w2 W) (by kernel_rfl) (by kernel_rfl) HBW.out.drew ?_
          simp only []
          apply SeqDet.stepK
          · rfl
          · intro W hW K hK; go_simp; exact hK _ hW
          simp only [Act.put, List.setIfInBounds_toArray, List.set_cons_zero, List.set_cons_succ]
          apply SeqDet.stepK
          · rfl
          · intro W hW K hK; go_simp; exact hK _ hW
          simp only [Act.put, List.setIfInBounds_toArray, List.set_cons_zero, List.set_cons_succ]
          apply SeqDet.stepK
          · rfl
          · intro W hW K hK; go_simp; exact hK _ hW
          simp only [Act.put, List.setIfInBounds_toArray, List.set_cons_zero, List.set_cons_succ]
          apply SeqDet.stepK
          · rfl
          · intro W hW K hK; go_simp; exact hK _ hW
          simp only [Act.put, List.setIfInBounds_toArray, List.set_cons_zero, List.set_cons_succ]
          apply SeqDet.stepK
          · rfl
          · intro W hW K hK; go_simp; exact hK _ hW
          simp only [Act.put, List.setIfInBounds_toArray, List.set_cons_zero, List.set_cons_succ]
          apply SeqDet.stepK
          · rfl
          · intro W hW K hK; go_simp; exact hK _ hW
          simp only [Act.put, List.setIfInBounds_toArray, List.set_cons_zero, List.set_cons_succ]
          apply SeqDet.stepK
          · rfl
          · intro W hW K hK; go_simp; exact hK _ hW
          simp only [Act.put, List.setIfInBounds_toArray, List.set_cons_zero, List.set_cons_succ]
          apply SeqDet.stepK
          · rfl
          · intro W hW K hK; go_simp; exact hK _ hW
          simp only [Act.put, List.setIfInBounds_toArray, List.set_cons_zero, List.set_cons_succ]
          apply SeqDet.stepK
          · rfl
          · intro W hW K hK; go_simp; exact hK _ hW
          simp only [Act.put, List.setIfInBounds_toArray, List.set_cons_zero, List.set_cons_succ]
          apply SeqDet.stepK
          · rfl
          · intro W hW K hK; go_simp; exact hK _ hW
          simp only [Act.put, List.setIfInBounds_toArray, List.set_cons_zero, List.set_cons_succ]
          apply SeqDet.stepK
          · rfl
          · intro W hW K hK; go_simp; exact hK _ hW
          simp only [Act.put, List.setIfInBounds_toArray, List.set_cons_zero, List.set_cons_succ]
          apply SeqDet.stepK
          · rfl
          · intro W hW K hK; go_simp; exact hK _ hW
          simp only [Act.put, List.setIfInBounds_toArray, List.set_cons_zero, List.set_cons_succ]
          apply SeqDet.stepK
          · rfl
          · intro W hW K hK; go_simp; exact hK _ hW
          simp only [Act.put, List.setIfInBounds_toArray, List.set_cons_zero, List.set_cons_succ]
          apply SeqDet.stepK
          · rfl
          · intro W hW K hK; go_simp; exact hK _ hW
          simp only [Act.put, List.setIfInBounds_toArray, List.set_cons_zero, List.set_cons_succ]
          apply SeqDet.stepK
          · rfl
          · intro W hW K hK; go_simp; exact hK _ hW
          simp only [Act.put, List.setIfInBounds_toArray, List.set_cons_zero, List.set_cons_succ]
          apply SeqDet.stepK
          · rfl
          · intro W hW K hK; go_simp; exact hK _ hW
          simp only [Act.put, List.setIfInBounds_toArray, List.set_cons_zero, List.set_cons_succ]
          apply SeqDet.stepK
          · rfl
          · intro W hW K hK; go_simp; exact hK _ hW
          simp only [Act.put, List.setIfInBounds_toArray, List.set_cons_zero, List.set_cons_succ]
          apply SeqDet.stepK
          · rfl
          · intro W hW K hK; go_simp; exact hK _ hW
          simp only [Act.put, List.setIfInBounds_toArray, List.set_cons_zero, List.set_cons_succ]
          apply SeqDet.stepK
          · rfl
          · intro W hW K hK; go_simp; exact hK _ hW
          simp only [Act.put, List.setIfInBounds_toArray, List.set_cons_zero, List.set_cons_succ]
          apply SeqDet.stepK
          · rfl
          · intro W hW K hK; go_simp; exact hK _ hW
          simp only [Act.put, List.setIfInBounds_toArray, List.set_cons_zero, List.set_cons_succ]
          apply SeqDet.stepK
          · rfl
          · intro W hW K hK; go_simp; exact hK _ hW
          simp only [Act.put, List.setIfInBounds_toArray, List.set_cons_zero, List.set_cons_succ]
          apply SeqDet.stepK
          · rfl
          · intro W hW K hK; go_simp; exact hK _ hW
          simp only [Act.put, List.setIfInBounds_toArray, List.set_cons_zero, List.set_cons_succ]
          apply SeqDet.stepK
          · rfl
          · intro W hW K hK; go_simp; exact hK _ hW
          simp only [Act.put, List.setIfInBounds_toArray, List.set_cons_zero, List.set_cons_succ]
          apply SeqDet.stepK
          · rfl
          · intro W hW K hK; go_simp; exact hK _ hW
          simp only [Act.put, List.setIfInBounds_toArray, List.set_cons_zero, List.set_cons_succ]
          apply SeqDet.stepK
          · rfl
          · intro W hW K hK; go_simp; go_at_call 18; refine (D.out _).mono ?_; rintro e W2 ⟨rfl, hb9⟩; exact hK _ (hW.trans (hb9.mono hW.size))
          simp only [Act.put, List.setIfInBounds_toArray, List.set_cons_zero, List.set_cons_succ]
          apply SeqDet.stepK
          · rfl
          · intro W hW K hK; go_simp; exact hK _ hW
          simp only [Act.put, List.setIfInBounds_toArray, List.set_cons_zero, List.set_cons_succ]
          apply SeqDet.stepK
          · rfl
          · intro W hW K hK; go_simp; exact hK _ hW
          simp only [Act.put, List.setIfInBounds_toArray, List.set_cons_zero, List.set_cons_succ]
          apply SeqDet.stepK
          · rfl
          · intro W hW K hK; go_simp; exact hK _ hW
          simp only [Act.put, List.setIfInBounds_toArray, List.set_cons_zero, List.set_cons_succ]
          apply SeqDet.stepK
          · rfl
          · intro W hW K hK; go_simp; exact hK _ hW
          simp only [Act.put, List.setIfInBounds_toArray, List.set_cons_zero, List.set_cons_succ]
          apply SeqDet.stepK
          · rfl
          · intro W hW K hK; go_simp; exact hK _ hW
          simp only [Act.put, List.setIfInBounds_toArray, List.set_cons_zero, List.set_cons_succ]
          apply SeqDet.stepK
          · rfl
          · intro W hW K hK; go_simp; exact hK _ hW
          simp only [Act.put, List.setIfInBounds_toArray, List.set_cons_zero, List.set_cons_succ]
          apply SeqDet.stepK
          · rfl
          · intro W hW K hK; go_simp; exact hK _ hW
          simp only [Act.put, List.setIfInBounds_toArray, List.set_cons_zero, List.set_cons_succ]
          refine SeqDet.nil ?_
          intro w4 hb4
          clear hw1 hcut hscut hW4
          go_wp2_with fail
          go_roundw
          case rel => exact ⟨t, q, by omega, by have := HT.out; subst this; go_num, rfl, HNX, by omega, hb4⟩
          case measure => have := HT.out; simp [intOf]; omega
    · obtain rfl : k = s.size := by omega
      have hpe : p = x.size := by rw [hp.out]; exact HEND.out
      subst hpe
      have HB := hid (HB.out.trans (HBW.out.mono HB.out.size))
      clear hp
      go_wp2_with fail
      go_ret
      exact ⟨rfl, HB.out⟩
end Go.Proofs.Ytmcjljjagfpkkaa
