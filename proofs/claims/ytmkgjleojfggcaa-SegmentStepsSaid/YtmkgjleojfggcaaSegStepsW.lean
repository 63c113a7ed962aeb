/-
  The walk of SegmentSteps. Conditions: the arguments are as they can be handed over.
-/
import Derived.Test.YtmkgjleojfggcaaSegTellsW
set_option linter.all false
namespace Go.Proofs.Ytmkgjleojfggcaa
open Go.RowKit
theorem slash_sl (sp : Bool) : isSl sp 47 = true := by simp [isSl]
theorem parseS_end (S : SegWays) (file : Bool) (out L : List (List UInt8)) (m : Nat) (hm : L.length = m + 1) : parseS S file out L = runS S file out L ++ (if isEnd S (L[m]'(by omega)) = true then [[]] else []) := by
  unfold parseS tailS
  have : L.getLast? = some (L[m]'(by omega)) := by
    rw [List.getLast?_eq_getElem?, show L.length - 1 = m by omega]
    exact List.getElem?_eq_getElem _
  rw [this]
theorem cat3 (s t : ByteArray) : (s ++ ⟨#[47]⟩ ++ t).data.toList = s.data.toList ++ 47 :: t.data.toList := by
  simp [ByteArray.data_append]
set_option maxHeartbeats 8000000 in
set_option maxRecDepth 100000 in
theorem segmentSteps_walk (s : ByteArray) (v : Value) (l : List ByteArray) (t u : ByteArray) (w : World) (hs : s.size ≤ maxLen) (hv : ReadT w v l) (hl : l.length ≤ maxLen) (hz : ∀ x ∈ l, x.size ≤ maxLen) (ht : t.size ≤ maxLen) (hu : u.size ≤ maxLen) :
    Calls Try.prog 16 #[.string s, v, .string t, .string u] w fun e w' => e = .returned (.bool true) ∧ Below w.heap.size w w' := by
  have hfw := fun w' (h : ReadT w' v l) => fewT_calls v l w' h hl hz
  obtain ⟨L, rfl⟩ := texts_strB l
  have HFW := hid hfw
  have HV := hid hv
  unfold maxLen at hs ht hu
  clear hfw hv hl hz
  go_enter Try.func16, Try.ntmps16
  go_wp2_with fail
  refine (segSmall_calls _).mono ?_
  rintro e w1 ⟨rfl, hb1⟩
  have HB := hid hb1
  clear hb1
  go_wp2_with fail
  refine (HFW.out w1 (HV.out.below HB.out)).mono ?_
  rintro e w2 ⟨b, rfl, hf, hb2⟩
  have HF := hid hf
  have HB := hid (HB.out.trans (hb2.mono HB.out.size))
  clear hf hb2
  by_cases h5 : s.size ≤ 50
  rotate_left
  · go_wp2_with fail
    go_ret
    exact ⟨rfl, HB.out⟩
  cases b
  · go_wp2_with fail
    go_ret
    exact ⟨rfl, HB.out⟩
  by_cases h3 : t.size ≤ 300
  rotate_left
  · go_wp2_with fail
    go_ret
    exact ⟨rfl, HB.out⟩
  by_cases h4 : u.size ≤ 300
  rotate_left
  · go_wp2_with fail
    go_ret
    exact ⟨rfl, HB.out⟩
  have hL : L.length ≤ 50 := by have := HF.out rfl; simpa using this
  clear HF HFW
  have hP0 := segs_ne (special s) t.data.toList
  have hPl := segs_len (special s) t.data.toList
  have hPp := segs_piece (special s) t.data.toList
  have hSC := split_calls t (special s)
  have hPC := fun v w hv hl => parse_calls s v L t w hv hl (by omega)
  have hPX := fun X v w hv hl => parse_calls s v X u w hv hl (by omega)
  have hPJ := fun v w hv hl => parse_calls s v L (t ++ ⟨#[47]⟩ ++ u) w hv hl (by have h47 : (⟨#[47]⟩ : ByteArray).size = 1 := rfl; rw [ByteArray.size_append, ByteArray.size_append, h47]; omega)
  have hQ0 := segs_ne (special s) u.data.toList
  have hQl := segs_len (special s) u.data.toList
  rw [cat3, segs_app _ _ _ _ (slash_sl _), parseS_app _ _ _ _ _ hQ0] at hPJ
  generalize segs (special s) t.data.toList = P at *
  generalize segs (special s) u.data.toList = Q at *
  have htl : t.data.toList.length = t.size := by simp
  have hul : u.data.toList.length = u.size := by simp
  rw [htl] at hPl hPp
  rw [hul] at hQl
  obtain ⟨m, hm⟩ : ∃ m, P.length = m + 1 := by
    rcases Nat.eq_zero_or_pos P.length with h | h
    · exact absurd (List.length_eq_zero_iff.1 h) hP0
    · exact ⟨P.length - 1, by omega⟩
  have hend := parseS_end segWays (fileB s) L P m hm
  have hXl := runS_len segWays (fileB s) P L
  generalize runS segWays (fileB s) L P = X at *
  have hMl := parseS_len segWays (fileB s) X Q
  generalize hMM : parseS segWays (fileB s) X Q = M at *
  have hmP : m < P.length := by omega
  have hx : (P[m]'hmP).length ≤ 5000 := by have := hPp P[m] (List.getElem_mem (by omega)); omega
  generalize hx9 : (P[m]'hmP) = x at *
  generalize parseS segWays (fileB s) L P = O at *
  have HX := hid hx
  have HMM := hid hMM
  clear hMM
  have HEND := hid hend
  have HX9 := hid hx9
  have HM := hid hm
  have HSC := hid hSC
  have HPC := hid hPC
  have HPX := hid hPX
  have HPJ := hid hPJ
  have e1 : IntKind.i64.wrap ((P.length : Int) - 1) = (m : Int) := by rw [IntWalk.i64_in _ (by omega)]; omega
  have e0 : ((P.length : Int) == 0) = false := by rw [beq_eq_false_iff_ne]; omega
  clear hx hend hx9 hm hSC hPC hPX hPJ hQ0 hP0 htl hul hPp
  go_wp2_with fail
  refine (special_calls _ _).mono ?_
  rintro e w' ⟨rfl, rfl⟩
  go_wp2_with fail
  refine (HSC.out w2 (by omega)).mono ?_
  rintro e w3 ⟨v3, rfl, ho3, hb3⟩
  obtain ⟨A3, c3, hv3, hc3⟩ := ho3.read.len
  rw [List.length_map] at hv3 hc3
  subst hv3
  have HB := hid (HB.out.trans (hb3.mono HB.out.size))
  obtain ⟨g, off, hA, hcell⟩ := ho3.read.cellAt (k := m) (by rw [List.length_map]; exact hmP)
  rw [List.getElem_map, HX9.out] at hcell
  subst hA
  clear ho3 hb3
  go_wp2_with fail
  refine (HPC.out v w3 (HV.out.below HB.out) (by omega)).mono ?_
  rintro e w4 ⟨v4, rfl, ho4, hb4⟩
  obtain ⟨A4, c4, hv4, hc4⟩ := ho4.read.len
  rw [List.length_map] at hv4 hc4
  subst hv4
  have HB := hid (HB.out.trans (hb4.mono HB.out.size))
  have HR4 := hid ho4.read
  clear ho4 hb4 hcell e1 e0
  cases h1 : dotL x
  all_goals cases h2 : dotsL x
  · have hO : O = X := by have := HEND.out; rwa [if_neg (by simp [isEnd, segWays, h1, h2]), List.append_nil] at this
    subst hO
    have H1 := hid h1
    have H2 := hid h2
    clear h1 h2
    go_wp2_with fail
    refine (dot_strB _ _ H1.out HX.out _).mono ?_
    rintro e w5 ⟨rfl, hb5⟩
    have HB := hid (HB.out.trans (hb5.mono HB.out.size))
    have HR5 := hid (HR4.out.below hb5)
    clear hb5
    go_wp2_with fail
    refine (dots_strB _ _ H2.out HX.out _).mono ?_
    rintro e w6 ⟨rfl, hb6⟩
    have HB := hid (HB.out.trans (hb6.mono HB.out.size))
    have HR6 := hid (HR5.out.below hb6)
    clear hb6
    go_wp2_with fail
    refine (HPJ.out v _ (HV.out.below HB.out) (by omega)).mono ?_
    rintro e w7 ⟨v7, rfl, ho7, hb7⟩
    have HB := hid (HB.out.trans (hb7.mono HB.out.size))
    have HR7 := hid (HR6.out.below hb7)
    have HRJ := hid ho7.read
    clear ho7 hb7
    go_wp2_with fail
    refine (HPX.out O _ _ HR7.out (by omega)).mono ?_
    rintro e w8 ⟨v8, rfl, ho8, hb8⟩
    have HB := hid (HB.out.trans (hb8.mono HB.out.size))
    have HRJ := hid (HRJ.out.below hb8)
    rw [HMM.out] at ho8
    have HRX := hid ho8.read
    clear ho8 hb8
    go_wp2_with fail
    refine (same_yes _ _ (M.map strB) _ HRJ.out HRX.out (by rw [List.length_map]; omega)).mono ?_
    rintro e w9 ⟨rfl, hb9⟩
    have HB := hid (HB.out.trans (hb9.mono HB.out.size))
    clear hb9
    go_wp2_with fail
    go_ret
    exact ⟨rfl, HB.out⟩
  · have hO : O = X ++ [[]] := by have := HEND.out; rwa [if_pos (by simp [isEnd, segWays, h1, h2])] at this
    have hOl : O.length = X.length + 1 := by rw [hO]; simp
    have H1 := hid h1
    have H2 := hid h2
    clear h1 h2
    go_wp2_with fail
    refine (dot_strB _ _ H1.out HX.out _).mono ?_
    rintro e w5 ⟨rfl, hb5⟩
    have HB := hid (HB.out.trans (hb5.mono HB.out.size))
    have HR5 := hid (HR4.out.below hb5)
    clear hb5
    go_wp2_with fail
    refine (dots_strB _ _ H2.out HX.out _).mono ?_
    rintro e w6 ⟨rfl, hb6⟩
    have HB := hid (HB.out.trans (hb6.mono HB.out.size))
    have HR5 := hid (HR5.out.below hb6)
    clear hb6
    obtain ⟨g4, off4, hA4, hcell4⟩ := HR5.out.cellAt (k := X.length) (by rw [List.length_map, hOl]; omega)
    subst hA4
    have hlast : (O.map strB)[X.length]'(by rw [List.length_map, hOl]; omega) = ⟨#[]⟩ := by
      rw [List.getElem_map]
      have : O[X.length]'(by rw [hOl]; omega) = [] := by simp [hO]
      rw [this]; rfl
    rw [hlast] at hcell4
    have hmO : X.length < O.length := by omega
    have hcX : X.length ≤ c4 := by omega
    have e1 : IntKind.i64.wrap ((O.length : Int) - 1) = (X.length : Int) := by rw [IntWalk.i64_in _ (by omega)]; omega
    have e0 : ((O.length : Int) == 0) = false := by rw [beq_eq_false_iff_ne]; omega
    have HR6 : Hid (ReadT _ (.slice (some ⟨g4, off4, none⟩) X.length c4) (X.map strB)) := hid (by
      have h0 := ReadT.cut (n := X.length) (l := O.map strB) (by rw [List.length_map]; exact HR5.out) (by rw [List.length_map]; omega)
      rw [← List.map_take] at h0
      rwa [show O.take X.length = X by rw [hO]; exact List.take_left] at h0)
    have HO9 := hid hO
    have HOL := hid hOl
    clear hlast hO hOl
    go_wp2_with fail
    refine (HPJ.out v _ (HV.out.below HB.out) (by omega)).mono ?_
    rintro e w7 ⟨v7, rfl, ho7, hb7⟩
    have HB := hid (HB.out.trans (hb7.mono HB.out.size))
    have HR7 := hid (HR6.out.below hb7)
    have HRJ := hid ho7.read
    clear ho7 hb7
    go_wp2_with fail
    refine (HPX.out X _ _ HR7.out (by omega)).mono ?_
    rintro e w8 ⟨v8, rfl, ho8, hb8⟩
    have HB := hid (HB.out.trans (hb8.mono HB.out.size))
    have HRJ := hid (HRJ.out.below hb8)
    rw [HMM.out] at ho8
    have HRX := hid ho8.read
    clear ho8 hb8
    go_wp2_with fail
    refine (same_yes _ _ (M.map strB) _ HRJ.out HRX.out (by rw [List.length_map]; omega)).mono ?_
    rintro e w9 ⟨rfl, hb9⟩
    have HB := hid (HB.out.trans (hb9.mono HB.out.size))
    clear hb9
    go_wp2_with fail
    go_ret
    exact ⟨rfl, HB.out⟩
  · have hO : O = X ++ [[]] := by have := HEND.out; rwa [if_pos (by simp [isEnd, segWays, h1, h2])] at this
    have hOl : O.length = X.length + 1 := by rw [hO]; simp
    have H1 := hid h1
    have H2 := hid h2
    clear h1 h2
    go_wp2_with fail
    refine (dot_strB _ _ H1.out HX.out _).mono ?_
    rintro e w5 ⟨rfl, hb5⟩
    have HB := hid (HB.out.trans (hb5.mono HB.out.size))
    have HR5 := hid (HR4.out.below hb5)
    clear hb5
    obtain ⟨g4, off4, hA4, hcell4⟩ := HR5.out.cellAt (k := X.length) (by rw [List.length_map, hOl]; omega)
    subst hA4
    have hlast : (O.map strB)[X.length]'(by rw [List.length_map, hOl]; omega) = ⟨#[]⟩ := by
      rw [List.getElem_map]
      have : O[X.length]'(by rw [hOl]; omega) = [] := by simp [hO]
      rw [this]; rfl
    rw [hlast] at hcell4
    have hmO : X.length < O.length := by omega
    have hcX : X.length ≤ c4 := by omega
    have e1 : IntKind.i64.wrap ((O.length : Int) - 1) = (X.length : Int) := by rw [IntWalk.i64_in _ (by omega)]; omega
    have e0 : ((O.length : Int) == 0) = false := by rw [beq_eq_false_iff_ne]; omega
    have HR6 : Hid (ReadT _ (.slice (some ⟨g4, off4, none⟩) X.length c4) (X.map strB)) := hid (by
      have h0 := ReadT.cut (n := X.length) (l := O.map strB) (by rw [List.length_map]; exact HR5.out) (by rw [List.length_map]; omega)
      rw [← List.map_take] at h0
      rwa [show O.take X.length = X by rw [hO]; exact List.take_left] at h0)
    have HO9 := hid hO
    have HOL := hid hOl
    clear hlast hO hOl
    go_wp2_with fail
    refine (HPJ.out v _ (HV.out.below HB.out) (by omega)).mono ?_
    rintro e w7 ⟨v7, rfl, ho7, hb7⟩
    have HB := hid (HB.out.trans (hb7.mono HB.out.size))
    have HR7 := hid (HR6.out.below hb7)
    have HRJ := hid ho7.read
    clear ho7 hb7
    go_wp2_with fail
    refine (HPX.out X _ _ HR7.out (by omega)).mono ?_
    rintro e w8 ⟨v8, rfl, ho8, hb8⟩
    have HB := hid (HB.out.trans (hb8.mono HB.out.size))
    have HRJ := hid (HRJ.out.below hb8)
    rw [HMM.out] at ho8
    have HRX := hid ho8.read
    clear ho8 hb8
    go_wp2_with fail
    refine (same_yes _ _ (M.map strB) _ HRJ.out HRX.out (by rw [List.length_map]; omega)).mono ?_
    rintro e w9 ⟨rfl, hb9⟩
    have HB := hid (HB.out.trans (hb9.mono HB.out.size))
    clear hb9
    go_wp2_with fail
    go_ret
    exact ⟨rfl, HB.out⟩
  · have hO : O = X ++ [[]] := by have := HEND.out; rwa [if_pos (by simp [isEnd, segWays, h1, h2])] at this
    have hOl : O.length = X.length + 1 := by rw [hO]; simp
    have H1 := hid h1
    have H2 := hid h2
    clear h1 h2
    go_wp2_with fail
    refine (dot_strB _ _ H1.out HX.out _).mono ?_
    rintro e w5 ⟨rfl, hb5⟩
    have HB := hid (HB.out.trans (hb5.mono HB.out.size))
    have HR5 := hid (HR4.out.below hb5)
    clear hb5
    obtain ⟨g4, off4, hA4, hcell4⟩ := HR5.out.cellAt (k := X.length) (by rw [List.length_map, hOl]; omega)
    subst hA4
    have hlast : (O.map strB)[X.length]'(by rw [List.length_map, hOl]; omega) = ⟨#[]⟩ := by
      rw [List.getElem_map]
      have : O[X.length]'(by rw [hOl]; omega) = [] := by simp [hO]
      rw [this]; rfl
    rw [hlast] at hcell4
    have hmO : X.length < O.length := by omega
    have hcX : X.length ≤ c4 := by omega
    have e1 : IntKind.i64.wrap ((O.length : Int) - 1) = (X.length : Int) := by rw [IntWalk.i64_in _ (by omega)]; omega
    have e0 : ((O.length : Int) == 0) = false := by rw [beq_eq_false_iff_ne]; omega
    have HR6 : Hid (ReadT _ (.slice (some ⟨g4, off4, none⟩) X.length c4) (X.map strB)) := hid (by
      have h0 := ReadT.cut (n := X.length) (l := O.map strB) (by rw [List.length_map]; exact HR5.out) (by rw [List.length_map]; omega)
      rw [← List.map_take] at h0
      rwa [show O.take X.length = X by rw [hO]; exact List.take_left] at h0)
    have HO9 := hid hO
    have HOL := hid hOl
    clear hlast hO hOl
    go_wp2_with fail
    refine (HPJ.out v _ (HV.out.below HB.out) (by omega)).mono ?_
    rintro e w7 ⟨v7, rfl, ho7, hb7⟩
    have HB := hid (HB.out.trans (hb7.mono HB.out.size))
    have HR7 := hid (HR6.out.below hb7)
    have HRJ := hid ho7.read
    clear ho7 hb7
    go_wp2_with fail
    refine (HPX.out X _ _ HR7.out (by omega)).mono ?_
    rintro e w8 ⟨v8, rfl, ho8, hb8⟩
    have HB := hid (HB.out.trans (hb8.mono HB.out.size))
    have HRJ := hid (HRJ.out.below hb8)
    rw [HMM.out] at ho8
    have HRX := hid ho8.read
    clear ho8 hb8
    go_wp2_with fail
    refine (same_yes _ _ (M.map strB) _ HRJ.out HRX.out (by rw [List.length_map]; omega)).mono ?_
    rintro e w9 ⟨rfl, hb9⟩
    have HB := hid (HB.out.trans (hb9.mono HB.out.size))
    clear hb9
    go_wp2_with fail
    go_ret
    exact ⟨rfl, HB.out⟩
end Go.Proofs.Ytmkgjleojfggcaa
