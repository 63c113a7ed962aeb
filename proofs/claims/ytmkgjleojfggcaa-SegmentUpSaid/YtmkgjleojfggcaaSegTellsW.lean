/-
  The walk of SegmentTells. Conditions: the arguments are as they can be handed over.
-/
import Derived.Test.YtmkgjleojfggcaaSegAheadW
import Derived.Test.YtmkgjleojfggcaaSegRefParse
set_option linter.all false
namespace Go.Proofs.Ytmkgjleojfggcaa
open Go.RowKit
theorem OwnT.form {w : World} {base : Nat} {v : Value} {l : List ByteArray} (h : OwnT w base v l) (hn : 0 < l.length) : ∃ g cap, v = .slice (some ⟨g, 0, none⟩) l.length cap ∧ base ≤ g := by
  rcases h.2 with ⟨_, h0⟩ | ⟨g, cap, cur, hv, hb, _⟩
  · omega
  · exact ⟨g, cap, hv, hb⟩
theorem OwnT.stored {w : World} {base g c j : Nat} {l : List ByteArray} (h : OwnT w base (.slice (some ⟨g, 0, none⟩) l.length c) l) (s : ByteArray) :
    OwnT (w.setCell ⟨g, j, none⟩ (.string s)) base (.slice (some ⟨g, 0, none⟩) l.length c) (l.set j s) := by
  have := (World.ownsRow.stored h j (.string s)).1
  unfold OwnT
  rw [List.length_set]
  simpa [List.map_set] using this
theorem parseS_ne (S : SegWays) (file : Bool) (out L : List (List UInt8)) (h : L ≠ []) : parseS S file out L ≠ [] := by
  rcases List.eq_nil_or_concat L with rfl | ⟨M, p, rfl⟩
  · exact absurd rfl h
  · unfold parseS tailS
    rw [List.concat_eq_append, List.getLast?_append]
    simp only [List.getLast?_singleton, Option.some_or]
    by_cases he : isEnd S p = true
    · rw [if_pos he]
      simp
    · rw [if_neg he, runS_app, runS_cons, runS_nil]
      have hd : ¬ S.dots p = true := fun e => he (by simp [isEnd, e])
      have ht : ¬ S.dot p = true := fun e => he (by simp [isEnd, e])
      unfold stepS
      rw [if_neg hd, if_neg ht]
      split <;> simp
set_option maxHeartbeats 8000000 in
set_option maxRecDepth 100000 in
theorem segmentTells_walk (s : ByteArray) (v : Value) (l : List ByteArray) (t : ByteArray) (sp : Bool) (w : World) (hs : s.size ≤ maxLen) (hv : ReadT w v l) (hl : l.length ≤ maxLen) (hz : ∀ x ∈ l, x.size ≤ maxLen) (ht : t.size ≤ maxLen) :
    Calls Try.prog 14 #[.string s, v, .string t, .bool sp] w fun e w' => e = .returned (.bool true) ∧ Below w.heap.size w w' := by
  have hfw := fun w' (h : ReadT w' v l) => fewT_calls v l w' h hl hz
  obtain ⟨L, rfl⟩ := texts_strB l
  have HFW := hid hfw
  have HV := hid hv
  unfold maxLen at hs ht
  clear hfw hv hl hz
  go_enter Try.func14, Try.ntmps14
  go_wp2_with fail
  refine (segSmall_calls _).mono ?_
  rintro e w1 ⟨rfl, hb1⟩
  have HB := hid hb1
  clear hb1
  go_wp2_with fail
  refine (HFW.out w1 (HV.out.below HB.out)).mono ?_
  rintro e w2 ⟨b, rfl, hf, hb2⟩
  have HF := hid hf
  have HB := hid (HB.out.trans (hb2.mono HB.out.size))
  clear hf hb2
  by_cases h5 : s.size ≤ 50
  rotate_left
  · go_wp2_with fail
    go_ret
    exact ⟨rfl, HB.out⟩
  cases b
  · go_wp2_with fail
    go_ret
    exact ⟨rfl, HB.out⟩
  by_cases h3 : t.size ≤ 500
  rotate_left
  · go_wp2_with fail
    go_ret
    exact ⟨rfl, HB.out⟩
  have hL : L.length ≤ 50 := by have := HF.out rfl; simpa using this
  clear HF HFW
  have hPp := parseS_len segWays (fileB s) L (segs (special s) t.data.toList)
  have hPn := parseS_ne segWays (fileB s) L _ (segs_ne (special s) t.data.toList)
  have hPl := segs_len (special s) t.data.toList
  have hPC := fun v w hv hl => parse_calls s v L t w hv hl (by omega)
  have hRC := fun v w hv hl => refParse_calls s v L t w hv hl (by omega)
  have hSl := segs_len sp t.data.toList
  generalize parseS segWays (fileB s) L (segs (special s) t.data.toList) = O at *
  have htl : t.data.toList.length = t.size := by simp
  rw [htl] at hPl hSl
  have hOl : O.length ≤ 600 := by omega
  have hO0 : 0 < O.length := by rcases Nat.eq_zero_or_pos O.length with h | h; exact absurd (List.length_eq_zero_iff.1 h) hPn; exact h
  have HPC := hid hPC
  have HRC := hid hRC
  clear hPp hPn hPl hPC hRC htl
  go_wp2_with (at_builtin; refine wpList_append_texts rfl _ _ rfl rfl (OwnT.empty w2) rfl ((HV.out.below HB.out).below (alloc_below w2 _)) (by simp; omega) (by simp) ?_; intro v3 w3 ho3 hb3; have HR3 := hid ho3.read; have HB := hid (HB.out.trans (((alloc_below w2 _).trans hb3).mono HB.out.size)); clear ho3 hb3)
  refine (HPC.out v3 w3 HR3.out (by omega)).mono ?_
  rintro e w4 ⟨v4, rfl, ho4, hb4⟩
  obtain ⟨g4, c4, rfl, hg4⟩ := ho4.form (by rw [List.length_map]; exact hO0)
  rw [List.length_map] at ho4 ⊢
  have HO4 := hid ho4
  have HW := hid hb4
  have HR3' := hid (HR3.out.below hb4)
  have HB4 := hid (HB.out.trans (hb4.mono HB.out.size))
  clear ho4 hb4
  go_wp2_with fail
  refine (HRC.out v w4 (HV.out.below HB4.out) (by omega)).mono ?_
  rintro e w5 ⟨v5, rfl, ho5, hb5⟩
  have HR5 := hid ho5.read
  have HR4 := hid (HO4.out.read.below hb5)
  have HO4 := hid (HO4.out.below hb5)
  have HW := hid (HW.out.trans (hb5.mono HW.out.size))
  clear ho5 hb5
  go_wp2_with fail
  refine (same_yes _ _ (O.map strB) _ HR4.out HR5.out (by simp; omega)).mono ?_
  rintro e w6 ⟨rfl, hb6⟩
  have HO4 := hid (HO4.out.below hb6)
  have HW := hid (HW.out.trans (hb6.mono HW.out.size))
  clear hb6 HR5 HR4
  go_wp2_with fail
  go_loopw [14] (fun i wr => ∃ (k : Nat) (lp : List ByteArray), k ≤ O.length ∧ lp.length = O.length ∧ OwnT wr w3.heap.size (.slice (some ⟨g4, 0, none⟩) O.length c4) lp ∧ i = .int .i64 k ∧ Below w3.heap.size w3 wr) (fun i _ => O.length - (intOf i).toNat)
  case atStart => exact ⟨0, O.map strB, Nat.zero_le _, by simp, HO4.out, rfl, HW.out⟩
  case round =>
    obtain ⟨k, lp, hk, hlp, hown, rfl, hbr⟩ := hrel
    have HLP := hid hlp
    clear hlp
    by_cases hlt : k < O.length
    · rw [← HLP.out] at hown
      have hce := World.ownsRow.cellAt hown k (by rw [Nat.mul_one, HLP.out]; exact hlt)
      have hfr := World.ownsRow.frozenAt hown k
      rw [List.getElem?_map, List.getElem?_eq_getElem (by rw [HLP.out]; exact hlt)] at hce
      simp only [Option.map_some] at hce
      have hst := hid (OwnT.stored (j := k) hown ⟨#[122, 122]⟩)
      have hbs := hid (hbr.setCell (p := ⟨g4, k, none⟩) hg4 (.string ⟨#[122, 122]⟩))
      have HOW := hid hown
      clear hown hbr
      go_wp2_with fail
      go_roundw
      case rel => exact ⟨k + 1, lp.set k ⟨#[122, 122]⟩, by omega, by rw [List.length_set, HLP.out], by have := hst.out; rwa [HLP.out] at this, by go_num, hbs.out⟩
      case measure => simp [intOf]; omega
    · obtain rfl : k = O.length := by omega
      have HBX := hid (HB.out.trans (hbr.mono HB.out.size))
      have HR3 := hid (HR3.out.below hbr)
      have HSp := hid (fun w' => split_calls t sp w' (by omega))
      have HSr := hid (fun w' => refSplit_calls t sp w' (by omega))
      generalize segs sp t.data.toList = Q at *
      clear hown hbr
      go_wp2_with fail
      refine (same_yes _ _ (L.map strB) _ HR3.out (HV.out.below HBX.out) (by simp; omega)).mono ?_
      rintro e w7 ⟨rfl, hb7⟩
      have HBX := hid (HBX.out.trans (hb7.mono HBX.out.size))
      clear hb7
      go_wp2_with fail
      refine (HSp.out w7).mono ?_
      rintro e w8 ⟨v8, rfl, ho8, hb8⟩
      have HBX := hid (HBX.out.trans (hb8.mono HBX.out.size))
      have HR8 := hid ho8.read
      clear ho8 hb8
      go_wp2_with fail
      refine (HSr.out w8).mono ?_
      rintro e w9 ⟨v9, rfl, ho9, hb9⟩
      have HBX := hid (HBX.out.trans (hb9.mono HBX.out.size))
      have HR8 := hid (HR8.out.below hb9)
      have HR9 := hid ho9.read
      clear ho9 hb9
      go_wp2_with fail
      refine (same_yes _ _ (Q.map strB) _ HR8.out HR9.out (by simp; omega)).mono ?_
      rintro e x1 ⟨rfl, hbx⟩
      have HBX := hid (HBX.out.trans (hbx.mono HBX.out.size))
      clear hbx
      go_wp2_with fail
      go_ret
      exact ⟨rfl, HBX.out⟩
end Go.Proofs.Ytmkgjleojfggcaa
