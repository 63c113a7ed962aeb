/-
  The walk of SegmentUp. Conditions: the arguments are as they can be handed over.
-/
import Derived.Test.YtmkgjleojfggcaaSegTellsW
set_option linter.all false
namespace Go.Proofs.Ytmkgjleojfggcaa
open Go.RowKit
theorem segs_alone {p : List UInt8} (h : (segs true p).length = 1) (sp : Bool) : segs sp p = [p] := by
  refine segs_one sp p fun c hc => ?_
  have h1 : isSl true c = false := by
    cases hs : segs true p with
    | nil => exact absurd hs (segs_ne true p)
    | cons q qs =>
      have hq : qs = [] := by rw [hs] at h; simpa using h
      subst hq
      have hp : p = q := by
        clear h
        cases p with
        | nil => have h' : ([[]] : List (List UInt8)) = [q] := hs; simpa using h'
        | cons a r =>
          have key : ∀ (l q : List UInt8), segs true l = [q] → l = q := by
            intro l
            induction l with
            | nil => intro q h; have h' : ([[]] : List (List UInt8)) = [q] := h; simpa using h'
            | cons a r ih =>
              intro q h
              unfold segs at h
              split at h
              · injection h with _ h2
                exact absurd h2 (segs_ne true r)
              · split at h
                · next hr => exact absurd hr (segs_ne true r)
                · next x xs hr =>
                  injection h with h1 h2
                  subst h2
                  rw [← h1, ih x hr]
          exact key _ q hs
      subst hp
      exact segs_no true p p (by rw [hs]; simp) c hc
  revert h1
  cases sp
  · simp [isSl]
    exact fun a _ => a
  · exact id
theorem cutA (p t : ByteArray) : (p ++ ⟨#[47, 46, 46, 47]⟩ ++ t).data.toList = p.data.toList ++ 47 :: ([46, 46] ++ 47 :: t.data.toList) := by simp [ByteArray.data_append]
theorem cutB (t : ByteArray) : ((⟨#[37, 50, 101, 47]⟩ : ByteArray) ++ t).data.toList = [37, 50, 101] ++ 47 :: t.data.toList := by simp [ByteArray.data_append]
theorem cutC (p t : ByteArray) : ((⟨#[46, 47]⟩ : ByteArray) ++ p ++ ⟨#[47, 46, 37, 50, 69, 47]⟩ ++ t).data.toList = [46] ++ 47 :: (p.data.toList ++ 47 :: ([46, 37, 50, 69] ++ 47 :: t.data.toList)) := by simp [ByteArray.data_append]
theorem seg_consts (sp : Bool) : segs sp [46, 46] = [[46, 46]] ∧ segs sp [37, 50, 101] = [[37, 50, 101]] ∧ segs sp [46] = [[46]] ∧ segs sp [46, 37, 50, 69] = [[46, 37, 50, 69]] := by cases sp <;> decide +kernel
theorem dot_consts : dotsL [46, 46] = true ∧ dotsL [37, 50, 101] = false ∧ dotL [37, 50, 101] = true ∧ dotsL [46] = false ∧ dotL [46] = true ∧ dotsL [46, 37, 50, 69] = true := by decide +kernel
theorem slashU (sp : Bool) : isSl sp 47 = true := by simp [isSl]
theorem upA (sp : Bool) (L : List (List UInt8)) (p t : List UInt8) (hp : segs sp p = [p]) (h1 : dotsL p = false) (h2 : dotL p = false) : parseS segWays false L (segs sp (p ++ 47 :: ([46, 46] ++ 47 :: t))) = parseS segWays false L (segs sp t) := by
  rw [segs_app _ _ _ _ (slashU sp), segs_app _ _ _ _ (slashU sp), hp, (seg_consts sp).1, ← List.append_assoc, parseS_app _ _ _ _ _ (segs_ne _ _)]
  rw [show [p] ++ [[46, 46]] = [p, [46, 46]] from rfl, runS_up segWays (out := L) (p := p) (d := [46, 46]) h1 h2 dot_consts.1]
theorem upB (sp : Bool) (L : List (List UInt8)) (t : List UInt8) : parseS segWays false L (segs sp ([37, 50, 101] ++ 47 :: t)) = parseS segWays false L (segs sp t) := by
  rw [segs_app _ _ _ _ (slashU sp), (seg_consts sp).2.1, parseS_app _ _ _ _ _ (segs_ne _ _), runS_dot segWays (out := L) (d := [37, 50, 101]) dot_consts.2.1 dot_consts.2.2.1]
theorem upC (sp : Bool) (L : List (List UInt8)) (p t : List UInt8) (hp : segs sp p = [p]) (h1 : dotsL p = false) (h2 : dotL p = false) : parseS segWays false L (segs sp ([46] ++ 47 :: (p ++ 47 :: ([46, 37, 50, 69] ++ 47 :: t)))) = parseS segWays false L (segs sp t) := by
  rw [segs_app _ _ _ _ (slashU sp), (seg_consts sp).2.2.1, parseS_app _ _ _ _ _ (segs_ne _ _), runS_dot segWays (out := L) (d := [46]) dot_consts.2.2.2.1 dot_consts.2.2.2.2.1]
  rw [segs_app _ _ _ _ (slashU sp), segs_app _ _ _ _ (slashU sp), hp, (seg_consts sp).2.2.2, ← List.append_assoc, parseS_app _ _ _ _ _ (segs_ne _ _)]
  rw [show [p] ++ [[46, 37, 50, 69]] = [p, [46, 37, 50, 69]] from rfl, runS_up segWays (out := L) (p := p) (d := [46, 37, 50, 69]) h1 h2 dot_consts.2.2.2.2.2]
set_option maxHeartbeats 8000000 in
set_option maxRecDepth 100000 in
theorem segmentUp_walk (s : ByteArray) (v : Value) (l : List ByteArray) (t u : ByteArray) (w : World) (hs : s.size ≤ maxLen) (hv : ReadT w v l) (hl : l.length ≤ maxLen) (hz : ∀ x ∈ l, x.size ≤ maxLen) (ht : t.size ≤ maxLen) (hu : u.size ≤ maxLen) :
    Calls Try.prog 17 #[.string s, v, .string t, .string u] w fun e w' => e = .returned (.bool true) ∧ Below w.heap.size w w' := by
  have hfw := fun w' (h : ReadT w' v l) => fewT_calls v l w' h hl hz
  obtain ⟨L, rfl⟩ := texts_strB l
  have HFW := hid hfw
  have HV := hid hv
  unfold maxLen at hs ht hu
  clear hfw hv hl hz
  go_enter Try.func17, Try.ntmps17
  go_wp2_with fail
  refine (segSmall_calls _).mono ?_
  rintro e w1 ⟨rfl, hb1⟩
  have HB := hid hb1
  clear hb1
  go_wp2_with fail
  refine (HFW.out w1 (HV.out.below HB.out)).mono ?_
  rintro e w2 ⟨b, rfl, hf, hb2⟩
  have HF := hid hf
  have HB := hid (HB.out.trans (hb2.mono HB.out.size))
  clear hf hb2
  by_cases h5 : s.size ≤ 50
  rotate_left
  · go_wp2_with fail
    go_ret
    exact ⟨rfl, HB.out⟩
  cases b
  · go_wp2_with fail
    go_ret
    exact ⟨rfl, HB.out⟩
  by_cases h3 : t.size ≤ 100
  rotate_left
  · go_wp2_with fail
    go_ret
    exact ⟨rfl, HB.out⟩
  by_cases h4 : u.size ≤ 300
  rotate_left
  · go_wp2_with fail
    go_ret
    exact ⟨rfl, HB.out⟩
  have hL : L.length ≤ 50 := by have := HF.out rfl; simpa using this
  clear HF HFW
  cases hf : (s.toList == [102, 105, 108, 101])
  rotate_left
  · go_wp2_with fail
    go_ret
    exact ⟨rfl, HB.out⟩
  have hfb : fileB s = false := hf
  have HFB := hid hfb
  clear hfb
  cases h1 : dotL t.data.toList
  rotate_left
  · have H1 := hid h1
    clear h1
    go_wp2_with fail
    refine (dot_const t true H1.out (by omega) _).mono ?_
    rintro e w3 ⟨rfl, hb3⟩
    have HB := hid (HB.out.trans (hb3.mono HB.out.size))
    clear hb3
    go_wp2_with fail
    go_ret
    exact ⟨rfl, HB.out⟩
  have H1 := hid h1
  clear h1
  go_wp2_with fail
  refine (dot_const t false H1.out (by omega) _).mono ?_
  rintro e w3 ⟨rfl, hb3⟩
  have HB := hid (HB.out.trans (hb3.mono HB.out.size))
  clear hb3
  go_wp2_with fail
  cases h2 : dotsL t.data.toList
  rotate_left
  · have H2 := hid h2
    clear h2
    refine (dots_const t true H2.out (by omega) _).mono ?_
    rintro e w4 ⟨rfl, hb4⟩
    have HB := hid (HB.out.trans (hb4.mono HB.out.size))
    clear hb4
    go_wp2_with fail
    go_ret
    exact ⟨rfl, HB.out⟩
  have H2 := hid h2
  clear h2
  refine (dots_const t false H2.out (by omega) _).mono ?_
  rintro e w4 ⟨rfl, hb4⟩
  have HB := hid (HB.out.trans (hb4.mono HB.out.size))
  clear hb4
  go_wp2_with fail
  refine (split_calls t true _ (by omega)).mono ?_
  rintro e w5 ⟨v5, rfl, ho5, hb5⟩
  obtain ⟨A5, c5, hv5, hc5⟩ := ho5.read.len
  rw [List.length_map] at hv5 hc5
  subst hv5
  have HB := hid (HB.out.trans (hb5.mono HB.out.size))
  clear ho5 hb5
  by_cases h6 : (segs true t.data.toList).length = 1
  rotate_left
  · have e6 : (((segs true t.data.toList).length : Int) != 1) = true := by simp [bne]; omega
    clear h6
    go_wp2_with fail
    go_ret
    exact ⟨rfl, HB.out⟩
  have hone := segs_alone h6 (special s)
  rw [h6]
  clear h6 hc5
  have hA := upA (special s) L _ u.data.toList hone H2.out H1.out
  have hB := upB (special s) L u.data.toList
  have hC := upC (special s) L _ u.data.toList hone H2.out H1.out
  rw [← cutA] at hA
  rw [← cutB] at hB
  rw [← cutC] at hC
  have z1 : (⟨#[47, 46, 46, 47]⟩ : ByteArray).size = 4 := rfl
  have z2 : (⟨#[37, 50, 101, 47]⟩ : ByteArray).size = 4 := rfl
  have z3 : (⟨#[46, 47]⟩ : ByteArray).size = 2 := rfl
  have z4 : (⟨#[47, 46, 37, 50, 69, 47]⟩ : ByteArray).size = 6 := rfl
  have p0 := fun v w hv hl => parse_calls s v L u w hv hl (by omega)
  have p1 := fun v w hv hl => parse_calls s v L (t ++ ⟨#[47, 46, 46, 47]⟩ ++ u) w hv hl (by rw [ByteArray.size_append, ByteArray.size_append, z1]; omega)
  have p2 := fun v w hv hl => parse_calls s v L ((⟨#[37, 50, 101, 47]⟩ : ByteArray) ++ u) w hv hl (by rw [ByteArray.size_append, z2]; omega)
  have p3 := fun v w hv hl => parse_calls s v L ((⟨#[46, 47]⟩ : ByteArray) ++ t ++ ⟨#[47, 46, 37, 50, 69, 47]⟩ ++ u) w hv hl (by rw [ByteArray.size_append, ByteArray.size_append, ByteArray.size_append, z3, z4]; omega)
  rw [HFB.out] at p0 p1 p2 p3
  rw [hA] at p1
  rw [hB] at p2
  rw [hC] at p3
  have hMl := parseS_len segWays false L (segs (special s) u.data.toList)
  have hQl := segs_len (special s) u.data.toList
  have hul : u.data.toList.length = u.size := by simp
  generalize parseS segWays false L (segs (special s) u.data.toList) = M at *
  have HP0 := hid p0
  have HP1 := hid p1
  have HP2 := hid p2
  have HP3 := hid p3
  have HM : Hid (M.length ≤ 1000) := hid (by omega)
  clear p0 p1 p2 p3 hA hB hC hMl hQl hul hone z1 z2 z3 z4
  go_wp2_with fail
  refine (HP0.out v _ (HV.out.below HB.out) (by omega)).mono ?_
  rintro e w6 ⟨v6, rfl, ho6, hb6⟩
  have HB := hid (HB.out.trans (hb6.mono HB.out.size))
  have HR := hid ho6.read
  clear ho6 hb6
  go_wp2_with fail
  refine (HP1.out v _ (HV.out.below HB.out) (by omega)).mono ?_
  rintro e x1 ⟨y1, rfl, ho, hb⟩
  have HB := hid (HB.out.trans (hb.mono HB.out.size))
  have HR := hid (HR.out.below hb)
  have HRJ := hid ho.read
  clear ho hb
  go_wp2_with fail
  refine (same_yes _ _ (M.map strB) _ HRJ.out HR.out (by rw [List.length_map]; have := HM.out; omega)).mono ?_
  rintro e z1 ⟨rfl, hb⟩
  have HB := hid (HB.out.trans (hb.mono HB.out.size))
  have HR := hid (HR.out.below hb)
  clear hb HRJ
  go_wp2_with fail
  refine (HP2.out v _ (HV.out.below HB.out) (by omega)).mono ?_
  rintro e x2 ⟨y2, rfl, ho, hb⟩
  have HB := hid (HB.out.trans (hb.mono HB.out.size))
  have HR := hid (HR.out.below hb)
  have HRJ := hid ho.read
  clear ho hb
  go_wp2_with fail
  refine (same_yes _ _ (M.map strB) _ HRJ.out HR.out (by rw [List.length_map]; have := HM.out; omega)).mono ?_
  rintro e z2 ⟨rfl, hb⟩
  have HB := hid (HB.out.trans (hb.mono HB.out.size))
  have HR := hid (HR.out.below hb)
  clear hb HRJ
  go_wp2_with fail
  refine (HP3.out v _ (HV.out.below HB.out) (by omega)).mono ?_
  rintro e x3 ⟨y3, rfl, ho, hb⟩
  have HB := hid (HB.out.trans (hb.mono HB.out.size))
  have HR := hid (HR.out.below hb)
  have HRJ := hid ho.read
  clear ho hb
  go_wp2_with fail
  refine (same_yes _ _ (M.map strB) _ HRJ.out HR.out (by rw [List.length_map]; have := HM.out; omega)).mono ?_
  rintro e z3 ⟨rfl, hb⟩
  have HB := hid (HB.out.trans (hb.mono HB.out.size))
  have HR := hid (HR.out.below hb)
  clear hb HRJ
  go_wp2_with fail
  go_ret
  exact ⟨rfl, HB.out⟩
end Go.Proofs.Ytmkgjleojfggcaa
