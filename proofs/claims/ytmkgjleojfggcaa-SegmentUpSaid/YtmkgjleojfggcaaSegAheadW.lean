/-
  The walk of SegmentAhead. Conditions: the arguments are as they can be handed over.
-/
import Derived.Test.YtmkgjleojfggcaaSegSmall
import Derived.Test.YtmkgjleojfggcaaSeqDet
import Derived.Deep.Cut
set_option linter.all false
namespace Go.Proofs.Ytmkgjleojfggcaa
open Go.RowKit
theorem texts_strB (l : List ByteArray) : ∃ L : List (List UInt8), l = L.map strB := by
  induction l with
  | nil => exact ⟨[], rfl⟩
  | cons a r ih =>
    obtain ⟨L, hL⟩ := ih
    exact ⟨a.data.toList :: L, by rw [List.map_cons, strB_of, hL]⟩
theorem ReadT.cut {w : World} {A : Option Addr} {n c : Nat} {l : List ByteArray} (h : ReadT w (.slice A l.length c) l) (hn : n ≤ l.length) : ReadT w (.slice A n c) (l.take n) := by
  rcases h with ⟨hv, rfl⟩ | ⟨g, off, c', hv, hc, hcell⟩
  · injection hv with h1 h2 h3
    subst h1 h3
    have : n = 0 := by simpa using hn
    subst this
    exact .inl ⟨rfl, rfl⟩
  · injection hv with h1 h2 h3
    subst h1 h3
    exact ReadT.take (.inr ⟨g, off, c, rfl, hc, hcell⟩) hn
theorem parseS_len (S : SegWays) (file : Bool) (out L : List (List UInt8)) : (parseS S file out L).length ≤ out.length + L.length := by
  unfold parseS tailS
  rcases List.eq_nil_or_concat L with rfl | ⟨M, p, rfl⟩
  · simp [runS]
  · rw [List.concat_eq_append, List.getLast?_append]
    simp only [List.getLast?_singleton, Option.some_or]
    rw [runS_app, runS_cons, runS_nil]
    have h1 := runS_len S file M out
    have h2 := stepS_len S file (runS S file out M) p
    by_cases he : isEnd S p = true
    · rw [if_pos he]
      have h3 : (stepS S file (runS S file out M) p).length ≤ (runS S file out M).length := by
        unfold stepS
        by_cases hd : S.dots p = true
        · rw [if_pos hd]; exact (upS_len S file _).1
        · rw [if_neg hd]
          have : S.dot p = true := by simpa [isEnd, hd] using he
          rw [if_pos this]
          exact Nat.le_refl _
      simp; omega
    · rw [if_neg he]
      simp; omega
theorem parseS_ahead (S : SegWays) (file : Bool) (out L : List (List UInt8)) : out.length - upsN S L ≤ (parseS S file out L).length ∧ (parseS S file out L).take (out.length - upsN S L) = out.take (out.length - upsN S L) := by
  obtain ⟨h1, h2⟩ := runS_ahead S file L out
  unfold parseS
  refine ⟨by simp; omega, ?_⟩
  rw [List.take_append_of_le_length h1, h2]
theorem upsN_succ (S : SegWays) (P : List (List UInt8)) (k : Nat) (h : k < P.length) : upsN S (P.take (k + 1)) = upsN S (P.take k) + (if S.dots P[k] = true then 1 else 0) := by
  unfold upsN
  rw [List.take_succ_eq_append_getElem h, List.filter_append, List.length_append]
  congr 1
  by_cases hd : S.dots P[k] = true <;> simp [hd]
theorem upsN_le (S : SegWays) (P : List (List UInt8)) : upsN S P ≤ P.length := List.length_filter_le _ _
set_option maxHeartbeats 8000000 in
set_option maxRecDepth 100000 in
theorem segmentAhead_walk (s : ByteArray) (v : Value) (l : List ByteArray) (t : ByteArray) (w : World) (hs : s.size ≤ maxLen) (hv : ReadT w v l) (hl : l.length ≤ maxLen) (hz : ∀ x ∈ l, x.size ≤ maxLen) (ht : t.size ≤ maxLen) :
    Calls Try.prog 19 #[.string s, v, .string t] w fun e w' => e = .returned (.bool true) ∧ Below w.heap.size w w' := by
  have hfw := fun w' (h : ReadT w' v l) => fewT_calls v l w' h hl hz
  obtain ⟨L, rfl⟩ := texts_strB l
  have HFW := hid hfw
  have HV := hid hv
  unfold maxLen at hs ht
  clear hfw hv hl hz
  go_enter Try.func19, Try.ntmps19
  go_wp2_with fail
  refine (segSmall_calls _).mono ?_
  rintro e w1 ⟨rfl, hb1⟩
  have HB := hid hb1
  clear hb1
  go_wp2_with fail
  refine (HFW.out w1 (HV.out.below HB.out)).mono ?_
  rintro e w2 ⟨b, rfl, hf, hb2⟩
  have HF := hid hf
  have HB := hid (HB.out.trans (hb2.mono HB.out.size))
  clear hf hb2
  by_cases h5 : s.size ≤ 50
  rotate_left
  · go_wp2_with fail
    go_ret
    exact ⟨rfl, HB.out⟩
  cases b
  · go_wp2_with fail
    go_ret
    exact ⟨rfl, HB.out⟩
  by_cases h3 : t.size ≤ 300
  rotate_left
  · go_wp2_with fail
    go_ret
    exact ⟨rfl, HB.out⟩
  have hL : L.length ≤ 50 := by have := HF.out rfl; simpa using this
  clear HF HFW
  have hP0 := segs_ne (special s) t.data.toList
  have hPl := segs_len (special s) t.data.toList
  have hPp := segs_piece (special s) t.data.toList
  have hSC := split_calls t (special s)
  have hPC := fun v w hv hl => parse_calls s v L t w hv hl (by omega)
  generalize segs (special s) t.data.toList = P at *
  have htl : t.data.toList.length = t.size := by simp
  rw [htl] at hPl hPp
  have HPp := hid hPp
  have HSC := hid hSC
  have HPC := hid hPC
  clear hP0 hPp htl hSC hPC
  go_wp2_with fail
  refine (special_calls _ _).mono ?_
  rintro e w' ⟨rfl, rfl⟩
  go_wp2_with fail
  refine (HSC.out w2 (by omega)).mono ?_
  rintro e w3 ⟨v3, rfl, ho3, hb3⟩
  obtain ⟨A3, c3, hv3, hc3⟩ := ho3.read.len
  rw [List.length_map] at hv3 hc3
  subst hv3
  have HO3 := hid ho3.read
  have HB := hid (HB.out.trans (hb3.mono HB.out.size))
  clear ho3 hb3
  go_wp2_with fail
  go_loopw [10, 11] (fun u i wr => ∃ k : Nat, k ≤ P.length ∧ i = .int .i64 k ∧ u = .int .i64 (upsN segWays (P.take k) : Nat) ∧ Below w3.heap.size w3 wr) (fun _ i _ => P.length - (intOf i).toNat)
  case atStart => exact ⟨0, Nat.zero_le _, rfl, rfl, Below.refl _ _⟩
  case round =>
    obtain ⟨k, hk, rfl, rfl, hbw⟩ := hrel
    have HBW := hid hbw
    by_cases hlt : k < P.length
    · obtain ⟨g, off, hA, hcell⟩ := (HO3.out.below hbw).cellAt (k := k) (by rw [List.length_map]; exact hlt)
      rw [List.getElem_map] at hcell
      subst hA
      have HPz : Hid ((P[k]).length ≤ 5000) := hid (by have := HPp.out P[k] (List.getElem_mem hlt); omega)
      have hup := upsN_succ segWays P k hlt
      have hule : upsN segWays (P.take k) ≤ k := by have := upsN_le segWays (P.take k); rw [List.length_take] at this; omega
      clear hbw
      cases hd : dotsL P[k]
      · have hup2 : upsN segWays (P.take (k + 1)) = upsN segWays (P.take k) := by
          rw [hup, if_neg (show ¬ segWays.dots P[k] = true by show ¬ dotsL P[k] = true; rw [hd]; decide)]; rfl
        have HU := hid hup2
        have HD := hid hd
        clear hup hup2 hd
        go_wp2_with fail
        refine (dots_strB _ _ HD.out HPz.out _).mono ?_
        rintro e w4 ⟨rfl, hb4⟩
        go_wp2_with fail
        go_roundw
        case rel => exact ⟨k + 1, by omega, by go_num, by rw [HU.out], HBW.out.trans (hb4.mono HBW.out.size)⟩
        case measure => simp [intOf]; omega
      · have hup2 : upsN segWays (P.take (k + 1)) = upsN segWays (P.take k) + 1 := by
          rw [hup, if_pos (show segWays.dots P[k] = true by exact hd)]
        have HU := hid hup2
        have HD := hid hd
        clear hup hup2 hd
        go_wp2_with fail
        refine (dots_strB _ _ HD.out HPz.out _).mono ?_
        rintro e w4 ⟨rfl, hb4⟩
        go_wp2_with fail
        go_roundw
        case rel => exact ⟨k + 1, by omega, by go_num, by rw [HU.out]; go_num, HBW.out.trans (hb4.mono HBW.out.size)⟩
        case measure => simp [intOf]; omega
    · obtain rfl : k = P.length := by omega
      have HB := hid (HB.out.trans (hbw.mono HB.out.size))
      rw [List.take_length]
      have hah := parseS_ahead segWays (fileB s) L P
      have hpl := parseS_len segWays (fileB s) L P
      have hule := upsN_le segWays P
      clear hbw HBW
      go_wp2_with fail
      refine (HPC.out v wr (HV.out.below HB.out) (by omega)).mono ?_
      rintro e w5 ⟨v5, rfl, ho5, hb5⟩
      generalize parseS segWays (fileB s) L P = O at *
      generalize upsN segWays P = U at *
      have hrd := ho5.read
      have HB := hid (HB.out.trans (hb5.mono HB.out.size))
      obtain ⟨A5, c5, hv5, hc5⟩ := hrd.len
      rw [List.length_map] at hv5 hc5
      subst hv5
      obtain ⟨A1, c1, hv1, hc1⟩ := HV.out.len
      rw [List.length_map] at hv1 hc1
      subst hv1
      obtain ⟨hle, htk⟩ := hah
      obtain ⟨n, hn⟩ : ∃ n, n = L.length - U := ⟨_, rfl⟩
      rw [← hn] at hle htk
      have hmax : max 0 ((L.length : Int) - (U : Int)) = (n : Int) := by omega
      have hwr : IntKind.i64.wrap ((L.length : Int) - (U : Int)) = (L.length : Int) - (U : Int) := IntWalk.i64_in _ (by omega)
      have R5 := hid (ReadT.cut (n := n) (l := O.map strB) (by rw [List.length_map]; exact hrd) (by rw [List.length_map]; exact hle))
      have R1 := hid (ReadT.cut (n := n) (l := L.map strB) (by rw [List.length_map]; exact HV.out) (by rw [List.length_map]; omega))
      have HN := hid hn
      have hnl : n ≤ L.length := by omega
      have HT : Hid ((O.map strB).take n = (L.map strB).take n) := hid (by rw [← List.map_take, ← List.map_take, htk])
      clear ho5 hb5 hrd hn htk hule
      go_wp2_with fail
      have hnc5 : n ≤ c5 := by omega
      have hnc1 : n ≤ c1 := by omega
      have hW3 : IntKind.i64.wrap ((L.length : Int) + (P.length : Int)) = (L.length : Int) + (P.length : Int) := IntWalk.i64_in _ (by omega)
      have hD3 : decide ((O.length : Int) ≤ (L.length : Int) + (P.length : Int)) = true := by rw [decide_eq_true_iff]; omega
      refine region_seq (fun W => Below w5.heap.size w5 W) (by kernel_rfl) (by kernel_rfl) (Below.refl _ _).drew ?_
      simp only []
      repeat (first
        | (apply SeqDet.stepK; · rfl
           · intro W hW K hK; go_simp; exact hK _ hW
           simp only [Act.put, List.setIfInBounds_toArray, List.set_cons_zero, List.set_cons_succ])
        | (apply SeqDet.stepK; · rfl
           · intro W hW K hK; go_simp; go_at_call 37; refine (same_yes _ _ _ _ (R5.out.below hW) (by rw [HT.out]; exact R1.out.below (HB.out.trans (hW.mono HB.out.size))) (by simp; omega)).mono ?_; rintro e W2 ⟨rfl, hb9⟩; exact hK _ (hW.trans (hb9.mono hW.size))
           simp only [Act.put, List.setIfInBounds_toArray, List.set_cons_zero, List.set_cons_succ])
        | (apply SeqDet.skip; · rfl
           simp only [Act.put, List.setIfInBounds_toArray, List.set_cons_zero, List.set_cons_succ]))
      refine SeqDet.nil ?_
      intro w6 hb6
      go_wp2_with fail
      go_ret
      exact ⟨rfl, HB.out.trans (hb6.mono HB.out.size)⟩
end Go.Proofs.Ytmkgjleojfggcaa
