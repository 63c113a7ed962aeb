/-
  The walk of SegmentBack. Conditions: the arguments are as they can be handed over.
-/
import Derived.Test.YtmkgjleojfggcaaSegBackL
set_option linter.all false
namespace Go.Proofs.Ytmkgjleojfggcaa
open Go.RowKit
theorem encode_same (x : ByteArray) (p : List UInt8) (hx : x.data.toList = p) (h : encL 4 p = p) (hp : p.length ≤ 5000) (w : World) :
    Calls Try.prog 45 #[.string x, .int .i64 4] w fun e w' => e = .returned (.string x) ∧ Below w.heap.size w w' := by
  subst hx
  have := encode_calls x 4 w (by simpa using hp)
  rw [h] at this
  simpa using this
theorem cell_lt2 {w : World} {g off : Nat} {v : Value} (h : w.cell? ⟨g, off, none⟩ = some v) : g < w.heap.size := by
  rcases Nat.lt_or_ge g w.heap.size with hlt | hge
  · exact hlt
  · simp [World.cell?, Array.getElem?_eq_none hge] at h
theorem special_val (s : ByteArray) (b : Bool) (h : special s = b) (w : World) : Calls Try.prog 23 #[.string s] w fun e w' => e = .returned (.bool b) ∧ w = w' := by
  subst h
  exact special_calls s w
set_option maxHeartbeats 8000000 in
set_option maxRecDepth 100000 in
theorem segmentBack_walk (s t : ByteArray) (w : World) (hs : s.size ≤ maxLen) (ht : t.size ≤ maxLen) :
    Calls Try.prog 15 #[.string s, .string t] w fun e w' => e = .returned (.bool true) ∧ Below w.heap.size w w' := by
  unfold maxLen at hs ht
  go_enter Try.func15, Try.ntmps15
  go_wp2_with fail
  refine (segSmall_calls _).mono ?_
  rintro e w1 ⟨rfl, hb1⟩
  have HB := hid hb1
  clear hb1
  by_cases h5 : s.size ≤ 50
  rotate_left
  · go_wp2_with fail
    go_ret
    exact ⟨rfl, HB.out⟩
  by_cases h3 : t.size ≤ 500
  rotate_left
  · go_wp2_with fail
    go_ret
    exact ⟨rfl, HB.out⟩
  have hPC := fun v w hv hl => parse_calls s v [] t w hv hl (by omega)
  have hbp := fun O h => back_plain (special s) (fileB s) t.data.toList O h (by simpa using h3)
  generalize hO : parseS segWays (fileB s) [] (segs (special s) t.data.toList) = O at *
  obtain ⟨hne, hgood, hnosl, hwt, hagain, hlen⟩ := hbp O rfl
  have HPC := hid hPC
  have HG := hid hgood
  have HS := hid hnosl
  have HW := hid hwt
  have HA := hid hagain
  have HN := hid hne
  have hO0 : 0 < O.length := by rcases Nat.eq_zero_or_pos O.length with h | h; exact absurd (List.length_eq_zero_iff.1 h) hne; exact h
  clear hPC hbp hgood hnosl hwt hagain hne hO
  go_wp2_with fail
  refine (HPC.out _ _ (.inl ⟨rfl, rfl⟩) (by simp)).mono ?_
  rintro e w2 ⟨v2, rfl, ho2, hb2⟩
  obtain ⟨A2, c2, hv2, hc2⟩ := ho2.read.len
  rw [List.length_map] at hv2 hc2
  subst hv2
  have HR := hid ho2.read
  have HB := hid (HB.out.trans (hb2.mono HB.out.size))
  clear ho2 hb2
  go_wp2_with fail
  go_loopw [7, 8] (fun u i wr => ∃ k : Nat, k ≤ O.length ∧ u = .string (strB (joinS (O.take k))) ∧ i = .int .i64 k ∧ Below w2.heap.size w2 wr) (fun _ i _ => O.length - (intOf i).toNat)
  case atStart => exact ⟨0, Nat.zero_le _, rfl, rfl, Below.refl _ _⟩
  case round =>
    obtain ⟨k, hk, rfl, rfl, hbw⟩ := hrel
    have hjl : (strB (joinS (O.take k))).size ≤ 1600 := by rw [strB_size]; have h1 := joinS_len (O.take k); have h2 := wtS_take O k; have := HW.out; omega
    by_cases hlt : k < O.length
    · obtain ⟨g, off, hA, hcell⟩ := (HR.out.below hbw).cellAt (k := k) (by rw [List.length_map]; exact hlt)
      rw [List.getElem_map] at hcell
      subst hA
      obtain ⟨g1, g2, g3⟩ := HG.out O[k] (List.getElem_mem hlt)
      have hsl := HS.out O[k] (List.getElem_mem hlt)
      have hpl : O[k].length ≤ 1600 := by have h1 := wtS_mem (List.getElem_mem hlt); have := HW.out; omega
      have hjs := joinS_snoc (O.take k) O[k]
      rw [← List.take_succ_eq_append_getElem hlt] at hjs
      have hx : (strB O[k]).data.toList = O[k] := strB_list _
      have hxs : (strB O[k]).size = O[k].length := strB_size _
      have hnext : strB (joinS (O.take (k + 1))) = if k = 0 then strB O[k] else strB (joinS (O.take k)) ++ ⟨#[47]⟩ ++ strB O[k] := by
        rw [hjs]
        by_cases h0 : k = 0
        · rw [if_pos h0, if_pos (by rw [h0]; rfl)]
        · rw [if_neg h0, if_neg (by intro e; have := congrArg List.length e; rw [List.length_take, List.length_nil] at this; omega)]
          apply ByteArray.ext
          apply Array.toList_inj.1
          simp [strB, ByteArray.data_append]
      rw [← hx] at hsl
      generalize O[k] = p at *
      generalize strB p = x at *
      have hxz : x.size ≤ 1600 := by omega
      have HX := hid hx
      have HNX := hid hnext
      have HSL := hid hsl
      have H1 := hid g1
      have H2 := hid g2
      have H3 := hid g3
      have HPL := hid hpl
      have hcell0 := hcell
      clear hx hxs hnext hsl g1 g2 g3 hpl hjs
      have HBW := hid hbw
      clear hbw
      go_wp2_with fail
      refine region_seq (fun W => W.cell? ⟨g, off + k, none⟩ = some (.string x) ∧ Below w2.heap.size w2 W) (by kernel_rfl) (by kernel_rfl) ⟨hcell0, HBW.out.drew⟩ ?_
      simp only []
      apply SeqDet.stepK
      · rfl
      · intro W hW K hK; have f1 := hW.1; go_simp; exact hK _ hW
      simp only [Act.put, List.setIfInBounds_toArray, List.set_cons_zero, List.set_cons_succ]
      apply SeqDet.stepK
      · rfl
      · intro W hW K hK; have f1 := hW.1; go_simp; exact hK _ hW
      simp only [Act.put, List.setIfInBounds_toArray, List.set_cons_zero, List.set_cons_succ]
      apply SeqDet.stepK
      · rfl
      · intro W hW K hK; have f1 := hW.1; go_simp; exact hK _ hW
      simp only [Act.put, List.setIfInBounds_toArray, List.set_cons_zero, List.set_cons_succ]
      apply SeqDet.stepK
      · rfl
      · intro W hW K hK; have f1 := hW.1; go_simp; exact hK _ hW
      simp only [Act.put, List.setIfInBounds_toArray, List.set_cons_zero, List.set_cons_succ]
      apply SeqDet.stepK
      · rfl
      · intro W hW K hK; have f1 := hW.1; go_simp; go_at_call 31; refine (dot_const x false (by rw [HX.out]; exact H2.out) (by omega) _).mono ?_; rintro e W2 ⟨rfl, hb9⟩; exact hK _ ⟨(hb9.cell (p := ⟨g, off + k, none⟩) (cell_lt2 hW.1)).trans hW.1, hW.2.trans (hb9.mono hW.2.size)⟩
      simp only [Act.put, List.setIfInBounds_toArray, List.set_cons_zero, List.set_cons_succ]
      apply SeqDet.stepK
      · rfl
      · intro W hW K hK; have f1 := hW.1; go_simp; exact hK _ hW
      simp only [Act.put, List.setIfInBounds_toArray, List.set_cons_zero, List.set_cons_succ]
      apply SeqDet.stepK
      · rfl
      · intro W hW K hK; have f1 := hW.1; go_simp; exact hK _ hW
      simp only [Act.put, List.setIfInBounds_toArray, List.set_cons_zero, List.set_cons_succ]
      apply SeqDet.stepK
      · rfl
      · intro W hW K hK; have f1 := hW.1; go_simp; exact hK _ hW
      simp only [Act.put, List.setIfInBounds_toArray, List.set_cons_zero, List.set_cons_succ]
      apply SeqDet.stepK
      · rfl
      · intro W hW K hK; have f1 := hW.1; go_simp; exact hK _ hW
      simp only [Act.put, List.setIfInBounds_toArray, List.set_cons_zero, List.set_cons_succ]
      apply SeqDet.stepK
      · rfl
      · intro W hW K hK; have f1 := hW.1; go_simp; exact hK _ hW
      simp only [Act.put, List.setIfInBounds_toArray, List.set_cons_zero, List.set_cons_succ]
      apply SeqDet.stepK
      · rfl
      · intro W hW K hK; have f1 := hW.1; go_simp; go_at_call 33; refine (dots_const x false (by rw [HX.out]; exact H1.out) (by omega) _).mono ?_; rintro e W2 ⟨rfl, hb9⟩; exact hK _ ⟨(hb9.cell (p := ⟨g, off + k, none⟩) (cell_lt2 hW.1)).trans hW.1, hW.2.trans (hb9.mono hW.2.size)⟩
      simp only [Act.put, List.setIfInBounds_toArray, List.set_cons_zero, List.set_cons_succ]
      apply SeqDet.stepK
      · rfl
      · intro W hW K hK; have f1 := hW.1; go_simp; exact hK _ hW
      simp only [Act.put, List.setIfInBounds_toArray, List.set_cons_zero, List.set_cons_succ]
      apply SeqDet.stepK
      · rfl
      · intro W hW K hK; have f1 := hW.1; go_simp; exact hK _ hW
      simp only [Act.put, List.setIfInBounds_toArray, List.set_cons_zero, List.set_cons_succ]
      apply SeqDet.stepK
      · rfl
      · intro W hW K hK; have f1 := hW.1; go_simp; exact hK _ hW
      simp only [Act.put, List.setIfInBounds_toArray, List.set_cons_zero, List.set_cons_succ]
      apply SeqDet.stepK
      · rfl
      · intro W hW K hK; have f1 := hW.1; go_simp; exact hK _ hW
      simp only [Act.put, List.setIfInBounds_toArray, List.set_cons_zero, List.set_cons_succ]
      apply SeqDet.stepK
      · rfl
      · intro W hW K hK; have f1 := hW.1; go_simp; exact hK _ hW
      simp only [Act.put, List.setIfInBounds_toArray, List.set_cons_zero, List.set_cons_succ]
      apply SeqDet.stepK
      · rfl
      · intro W hW K hK; have f1 := hW.1; go_simp; exact hK _ hW
      simp only [Act.put, List.setIfInBounds_toArray, List.set_cons_zero, List.set_cons_succ]
      apply SeqDet.stepK
      · rfl
      · intro W hW K hK; have f1 := hW.1; go_simp; go_at_call 45; refine (encode_same x _ HX.out H3.out (by have := HPL.out; omega) _).mono ?_; rintro e W2 ⟨rfl, hb9⟩; exact hK _ ⟨(hb9.cell (p := ⟨g, off + k, none⟩) (cell_lt2 hW.1)).trans hW.1, hW.2.trans (hb9.mono hW.2.size)⟩
      simp only [Act.put, List.setIfInBounds_toArray, List.set_cons_zero, List.set_cons_succ]
      apply SeqDet.stepK
      · rfl
      · intro W hW K hK; have f1 := hW.1; go_simp; exact hK _ hW
      simp only [Act.put, List.setIfInBounds_toArray, List.set_cons_zero, List.set_cons_succ]
      apply SeqDet.stepK
      · rfl
      · intro W hW K hK; have f1 := hW.1; go_simp; exact hK _ hW
      simp only [Act.put, List.setIfInBounds_toArray, List.set_cons_zero, List.set_cons_succ]
      apply SeqDet.stepK
      · rfl
      · intro W hW K hK; have f1 := hW.1; go_simp; exact hK _ hW
      simp only [Act.put, List.setIfInBounds_toArray, List.set_cons_zero, List.set_cons_succ]
      apply SeqDet.stepK
      · rfl
      · intro W hW K hK; have f1 := hW.1; go_simp; exact hK _ hW
      simp only [Act.put, List.setIfInBounds_toArray, List.set_cons_zero, List.set_cons_succ]
      apply SeqDet.stepK
      · rfl
      · intro W hW K hK; have f1 := hW.1; go_simp; exact hK _ hW
      simp only [Act.put, List.setIfInBounds_toArray, List.set_cons_zero, List.set_cons_succ]
      apply SeqDet.stepK
      · rfl
      · intro W hW K hK; have f1 := hW.1; go_simp; exact hK _ hW
      simp only [Act.put, List.setIfInBounds_toArray, List.set_cons_zero, List.set_cons_succ]
      refine SeqDet.nil ?_
      intro w4 hw4
      have hbw := hw4.2
      have hcell := hw4.1
      have HBW := hid hw4.2
      clear hcell0 hw4 hbw
      go_wp2_with fail
      go_loopw [9] (fun i wi => ∃ j : Nat, j ≤ x.size ∧ i = .int .i64 j ∧ Below w4.heap.size w4 wi) (fun i _ => x.size - (intOf i).toNat)
      case atStart => exact ⟨0, Nat.zero_le _, rfl, Below.refl _ _⟩
      case round =>
        obtain ⟨j, hj, rfl, hbi⟩ := hrel
        have hcell2 := (hbi.cell (p := ⟨g, off + k, none⟩) (cell_lt2 hcell)).trans hcell
        have HBI := hid hbi
        have HCELL := hid hcell
        clear hbi hcell
        by_cases hjx : j < x.size
        · have hn := HSL.out x[j] (by have : x[j] = x.data.toList[j]'(by simpa using hjx) := by simp; rfl
                                      rw [this]; exact List.getElem_mem _)
          rw [isSl_eq] at hn
          simp only [Bool.or_eq_false_iff] at hn
          obtain ⟨n1, n2⟩ := hn
          cases n3 : (((x[j]).toNat : Int) == 92)
          · clear n2
            go_wp2_with fail
            go_roundw
            case rel => exact ⟨j + 1, by omega, by go_num, HBI.out⟩
            case measure => simp [intOf]; omega
          · rw [n3, Bool.and_true] at n2
            have N2 := hid n2
            clear n2
            go_wp2_with fail
            refine (special_val s false N2.out _).mono ?_
            rintro e w' ⟨rfl, rfl⟩
            go_wp2_with fail
            go_roundw
            case rel => exact ⟨j + 1, by omega, by go_num, HBI.out⟩
            case measure => simp [intOf]; omega
        · obtain rfl : j = x.size := by omega
          by_cases h0 : k = 0
          · have hn0 := HNX.out
            rw [if_pos h0] at hn0
            subst h0
            have HN0 := hid hn0
            rw [Nat.add_zero] at hcell2
            clear hn0
            have hz0 : strB (joinS (O.take 0)) = ⟨#[]⟩ := rfl
            rw [hz0]
            clear hz0
            go_wp2_with fail
            go_roundw
            case rel => exact ⟨1, by omega, by rw [HN0.out]; first | rfl | simp, by go_num, HBW.out.trans (HBI.out.mono HBW.out.size)⟩
            case measure => simp [intOf]; omega
          · have hn0 := HNX.out
            rw [if_neg h0] at hn0
            have HN0 := hid hn0
            have hk0 : 0 < k := by omega
            have h47 : (⟨#[47]⟩ : ByteArray).size = 1 := rfl
            clear hn0 h0
            generalize strB (joinS (O.take k)) = y at *
            go_wp2_with fail
            go_roundw
            case rel => exact ⟨k + 1, by omega, by rw [HN0.out], by go_num, HBW.out.trans (HBI.out.mono HBW.out.size)⟩
            case measure => simp [intOf]; omega
    · obtain rfl : k = O.length := by omega
      rw [List.take_length]
      rw [List.take_length] at hjl
      have HB := hid (HB.out.trans (hbw.mono HB.out.size))
      have HR2 := hid (HR.out.below hbw)
      have hP2 := fun v w hv hl => parse_calls s v [] (strB (joinS O)) w hv hl (by omega)
      rw [strB_list, HA.out] at hP2
      have HP2 := hid hP2
      clear hP2 hbw
      go_wp2_with fail
      refine (HP2.out _ _ (.inl ⟨rfl, rfl⟩) (by simp)).mono ?_
      rintro e w5 ⟨v5, rfl, ho5, hb5⟩
      have HB := hid (HB.out.trans (hb5.mono HB.out.size))
      have HR5 := hid ho5.read
      have HR2 := hid (HR2.out.below hb5)
      clear ho5 hb5
      go_wp2_with fail
      refine (same_yes _ _ (O.map strB) _ HR5.out HR2.out (by rw [List.length_map]; omega)).mono ?_
      rintro e w6 ⟨rfl, hb6⟩
      have HB := hid (HB.out.trans (hb6.mono HB.out.size))
      clear hb6
      go_wp2_with fail
      go_ret
      exact ⟨rfl, HB.out⟩
end Go.Proofs.Ytmkgjleojfggcaa
