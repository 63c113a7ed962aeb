/-
  The small case of layer 16, and which paths are few. Conditions: as each theorem states.
-/
import Derived.Test.YtmkgjleojfggcaaSegParse
set_option linter.all false
namespace Go.Proofs.Ytmkgjleojfggcaa
open Go.RowKit
theorem ReadT.lit (w : World) (l : List ByteArray) : ReadT (w.alloc (.cells (l.map Value.string).toArray 9)) (.slice (some ⟨w.heap.size, 0, none⟩) l.length l.length) l := by
  refine .inr ⟨w.heap.size, 0, l.length, rfl, Nat.le_refl _, fun j hj => ?_⟩
  refine (World.cell?_alloc_mark w _ 9 (0, 0) (0 + j)).trans ?_
  simp [hj]
theorem parse_const (s : ByteArray) (l : List (List UInt8)) (t : ByteArray) (M : List ByteArray) (hM : (parseS segWays (fileB s) l (segs (special s) t.data.toList)).map strB = M) (v : Value) (w : World) (hv : ReadT w v (l.map strB)) (hl : l.length ≤ 1000) (ht : t.size ≤ 5000) :
    Calls Try.prog 53 #[.string s, v, .string t] w fun e w' => ∃ v', e = .returned v' ∧ OwnT w' w.heap.size v' M ∧ Below w.heap.size w w' := by
  subst hM
  exact parse_calls s v l t w hv hl ht
theorem split_const (s : ByteArray) (sp : Bool) (M : List ByteArray) (hM : (segs sp s.data.toList).map strB = M) (w : World) (hs : s.size ≤ 100000) :
    Calls Try.prog 55 #[.string s, .bool sp] w fun e w' => ∃ v, e = .returned v ∧ OwnT w' w.heap.size v M ∧ Below w.heap.size w w' := by
  subst hM
  exact split_calls s sp w hs
theorem same_yes (v x : Value) (l : List ByteArray) (w : World) (hv : ReadT w v l) (hx : ReadT w x l) (hl : l.length ≤ 100000) :
    Calls Try.prog 37 #[v, x] w fun e w' => e = .returned (.bool true) ∧ Below w.heap.size w w' := by
  refine (refSame_calls v x l l w hv hx hl hl).mono ?_
  rintro e w' ⟨rfl, hb⟩
  exact ⟨by simp, hb⟩
theorem sm_0 : (parseS segWays (fileB ⟨#[104, 116, 116, 112]⟩) [] (segs (special ⟨#[104, 116, 116, 112]⟩) (⟨#[97, 47, 46, 46, 47, 98, 47, 46]⟩ : ByteArray).data.toList)).map strB = [⟨#[98]⟩, ⟨#[]⟩] := by
  have h1 : fileB ⟨#[104, 116, 116, 112]⟩ = false := by simp [fileB, ByteArray.toList_eq]
  have h2 : special ⟨#[104, 116, 116, 112]⟩ = true := by simp [special, ByteArray.toList_eq]
  rw [h1, h2]
  have h3 : parseS segWays false [] (segs true [97, 47, 46, 46, 47, 98, 47, 46]) = [[98], []] := by decide +kernel
  exact congrArg (List.map strB) h3
theorem sm_1 : (parseS segWays (fileB ⟨#[102, 105, 108, 101]⟩) [[67, 58]] (segs (special ⟨#[102, 105, 108, 101]⟩) (⟨#[46, 46, 47, 120, 32, 121]⟩ : ByteArray).data.toList)).map strB = [⟨#[67, 58]⟩, ⟨#[120, 37, 50, 48, 121]⟩] := by
  have h1 : fileB ⟨#[102, 105, 108, 101]⟩ = true := by simp [fileB, ByteArray.toList_eq]
  have h2 : special ⟨#[102, 105, 108, 101]⟩ = true := by simp [special, ByteArray.toList_eq]
  rw [h1, h2]
  have h3 : parseS segWays true [[67, 58]] (segs true [46, 46, 47, 120, 32, 121]) = [[67, 58], [120, 37, 50, 48, 121]] := by decide +kernel
  exact congrArg (List.map strB) h3
theorem sm_2 : (parseS segWays (fileB ⟨#[102, 105, 108, 101]⟩) [] (segs (special ⟨#[102, 105, 108, 101]⟩) (⟨#[46, 47, 99, 124, 47, 46, 46]⟩ : ByteArray).data.toList)).map strB = [⟨#[99, 58]⟩, ⟨#[]⟩] := by
  have h1 : fileB ⟨#[102, 105, 108, 101]⟩ = true := by simp [fileB, ByteArray.toList_eq]
  have h2 : special ⟨#[102, 105, 108, 101]⟩ = true := by simp [special, ByteArray.toList_eq]
  rw [h1, h2]
  have h3 : parseS segWays true [] (segs true [46, 47, 99, 124, 47, 46, 46]) = [[99, 58], []] := by decide +kernel
  exact congrArg (List.map strB) h3
theorem sm_3 : (parseS segWays (fileB ⟨#[120]⟩) [[113]] (segs (special ⟨#[120]⟩) (⟨#[97, 92, 98, 47, 37, 50, 69, 37, 50, 101]⟩ : ByteArray).data.toList)).map strB = [⟨#[113]⟩, ⟨#[]⟩] := by
  have h1 : fileB ⟨#[120]⟩ = false := by simp [fileB, ByteArray.toList_eq]
  have h2 : special ⟨#[120]⟩ = false := by simp [special, ByteArray.toList_eq]
  rw [h1, h2]
  have h3 : parseS segWays false [[113]] (segs false [97, 92, 98, 47, 37, 50, 69, 37, 50, 101]) = [[113], []] := by decide +kernel
  exact congrArg (List.map strB) h3
theorem sm_4 : (segs true (⟨#[97, 92, 47, 98]⟩ : ByteArray).data.toList).map strB = [⟨#[97]⟩, ⟨#[]⟩, ⟨#[98]⟩] := by
  have h3 : segs true [97, 92, 47, 98] = [[97], [], [98]] := by decide +kernel
  exact congrArg (List.map strB) h3
theorem sm_5 : (segs false (⟨#[97, 92, 98]⟩ : ByteArray).data.toList).map strB = [⟨#[97, 92, 98]⟩] := by
  have h3 : segs false [97, 92, 98] = [[97, 92, 98]] := by decide +kernel
  exact congrArg (List.map strB) h3
theorem sm_6 : (parseS segWays (fileB ⟨#[120]⟩) [] (segs (special ⟨#[120]⟩) (⟨#[]⟩ : ByteArray).data.toList)).map strB = [⟨#[]⟩] := by
  have h1 : fileB ⟨#[120]⟩ = false := by simp [fileB, ByteArray.toList_eq]
  have h2 : special ⟨#[120]⟩ = false := by simp [special, ByteArray.toList_eq]
  rw [h1, h2]
  have h3 : parseS segWays false [] (segs false []) = [[]] := by decide +kernel
  exact congrArg (List.map strB) h3
set_option maxHeartbeats 4000000 in
set_option maxRecDepth 100000 in
theorem segSmall_calls (w : World) : Calls Try.prog 51 #[] w fun e w' => e = .returned (.bool true) ∧ Below w.heap.size w w' := by
  go_enter Try.func51, Try.ntmps51
  go_wp2_with fail
  refine (parse_const _ [] _ _ sm_0 _ _ (.inl ⟨rfl, rfl⟩) (by simp) (by decide)).mono ?_
  rintro e w1 ⟨v1, rfl, ho1, hb1⟩
  have HR1 := hid ho1.read
  have HB := hid hb1
  clear hb1 ho1
  go_wp2_with fail
  refine (parse_const _ [[67, 58]] _ _ sm_1 _ _ (by exact ReadT.one _ _) (by simp) (by decide)).mono ?_
  rintro e w2 ⟨v2, rfl, ho2, hb2⟩
  have hb2 := (alloc_below _ _).trans (hb2.mono (by simp))
  have HR2 := hid ho2.read
  have HR1 := hid (HR1.out.below hb2)
  have HB := hid (HB.out.trans (hb2.mono HB.out.size))
  clear hb2 ho2
  go_wp2_with fail
  refine (parse_const _ [] _ _ sm_2 _ _ (.inl ⟨rfl, rfl⟩) (by simp) (by decide)).mono ?_
  rintro e w3 ⟨v3, rfl, ho3, hb3⟩
  have HR3 := hid ho3.read
  have HR1 := hid (HR1.out.below hb3)
  have HR2 := hid (HR2.out.below hb3)
  have HB := hid (HB.out.trans (hb3.mono HB.out.size))
  clear hb3 ho3
  go_wp2_with fail
  refine (parse_const _ [[113]] _ _ sm_3 _ _ (by exact ReadT.one _ _) (by simp) (by decide)).mono ?_
  rintro e w4 ⟨v4, rfl, ho4, hb4⟩
  have hb4 := (alloc_below _ _).trans (hb4.mono (by simp))
  have HR4 := hid ho4.read
  have HR1 := hid (HR1.out.below hb4)
  have HR2 := hid (HR2.out.below hb4)
  have HR3 := hid (HR3.out.below hb4)
  have HB := hid (HB.out.trans (hb4.mono HB.out.size))
  clear hb4 ho4
  go_wp2_with fail
  refine (split_const _ _ _ sm_4 _ (by decide)).mono ?_
  rintro e w5 ⟨v5, rfl, ho5, hb5⟩
  have HR5 := hid ho5.read
  have HR1 := hid (HR1.out.below hb5)
  have HR2 := hid (HR2.out.below hb5)
  have HR3 := hid (HR3.out.below hb5)
  have HR4 := hid (HR4.out.below hb5)
  have HB := hid (HB.out.trans (hb5.mono HB.out.size))
  clear hb5 ho5
  go_wp2_with fail
  refine (split_const _ _ _ sm_5 _ (by decide)).mono ?_
  rintro e w6 ⟨v6, rfl, ho6, hb6⟩
  have HR6 := hid ho6.read
  have HR1 := hid (HR1.out.below hb6)
  have HR2 := hid (HR2.out.below hb6)
  have HR3 := hid (HR3.out.below hb6)
  have HR4 := hid (HR4.out.below hb6)
  have HR5 := hid (HR5.out.below hb6)
  have HB := hid (HB.out.trans (hb6.mono HB.out.size))
  clear hb6 ho6
  go_wp2_with fail
  refine (parse_const _ [] _ _ sm_6 _ _ (.inl ⟨rfl, rfl⟩) (by simp) (by decide)).mono ?_
  rintro e w7 ⟨v7, rfl, ho7, hb7⟩
  have HR7 := hid ho7.read
  have HR1 := hid (HR1.out.below hb7)
  have HR2 := hid (HR2.out.below hb7)
  have HR3 := hid (HR3.out.below hb7)
  have HR4 := hid (HR4.out.below hb7)
  have HR5 := hid (HR5.out.below hb7)
  have HR6 := hid (HR6.out.below hb7)
  have HB := hid (HB.out.trans (hb7.mono HB.out.size))
  clear hb7 ho7
  go_wp2_with fail
  refine (same_yes _ _ [⟨#[98]⟩, ⟨#[]⟩] _ (HR1.out.below (alloc_below _ _)) (by exact ReadT.lit _ [⟨#[98]⟩, ⟨#[]⟩]) (by simp)).mono ?_
  rintro e x1 ⟨rfl, hb⟩
  have hb := (alloc_below _ _).trans (hb.mono (by simp))
  have HR2 := hid (HR2.out.below hb)
  have HR3 := hid (HR3.out.below hb)
  have HR4 := hid (HR4.out.below hb)
  have HR5 := hid (HR5.out.below hb)
  have HR6 := hid (HR6.out.below hb)
  have HR7 := hid (HR7.out.below hb)
  have HB := hid (HB.out.trans (hb.mono HB.out.size))
  clear hb
  go_wp2_with fail
  refine (same_yes _ _ [⟨#[67, 58]⟩, ⟨#[120, 37, 50, 48, 121]⟩] _ (HR2.out.below (alloc_below _ _)) (by exact ReadT.lit _ [⟨#[67, 58]⟩, ⟨#[120, 37, 50, 48, 121]⟩]) (by simp)).mono ?_
  rintro e x2 ⟨rfl, hb⟩
  have hb := (alloc_below _ _).trans (hb.mono (by simp))
  have HR3 := hid (HR3.out.below hb)
  have HR4 := hid (HR4.out.below hb)
  have HR5 := hid (HR5.out.below hb)
  have HR6 := hid (HR6.out.below hb)
  have HR7 := hid (HR7.out.below hb)
  have HB := hid (HB.out.trans (hb.mono HB.out.size))
  clear hb
  go_wp2_with fail
  refine (same_yes _ _ [⟨#[99, 58]⟩, ⟨#[]⟩] _ (HR3.out.below (alloc_below _ _)) (by exact ReadT.lit _ [⟨#[99, 58]⟩, ⟨#[]⟩]) (by simp)).mono ?_
  rintro e x3 ⟨rfl, hb⟩
  have hb := (alloc_below _ _).trans (hb.mono (by simp))
  have HR4 := hid (HR4.out.below hb)
  have HR5 := hid (HR5.out.below hb)
  have HR6 := hid (HR6.out.below hb)
  have HR7 := hid (HR7.out.below hb)
  have HB := hid (HB.out.trans (hb.mono HB.out.size))
  clear hb
  go_wp2_with fail
  refine (same_yes _ _ [⟨#[113]⟩, ⟨#[]⟩] _ (HR4.out.below (alloc_below _ _)) (by exact ReadT.lit _ [⟨#[113]⟩, ⟨#[]⟩]) (by simp)).mono ?_
  rintro e x4 ⟨rfl, hb⟩
  have hb := (alloc_below _ _).trans (hb.mono (by simp))
  have HR5 := hid (HR5.out.below hb)
  have HR6 := hid (HR6.out.below hb)
  have HR7 := hid (HR7.out.below hb)
  have HB := hid (HB.out.trans (hb.mono HB.out.size))
  clear hb
  go_wp2_with fail
  refine (same_yes _ _ [⟨#[97]⟩, ⟨#[]⟩, ⟨#[98]⟩] _ (HR5.out.below (alloc_below _ _)) (by exact ReadT.lit _ [⟨#[97]⟩, ⟨#[]⟩, ⟨#[98]⟩]) (by simp)).mono ?_
  rintro e x5 ⟨rfl, hb⟩
  have hb := (alloc_below _ _).trans (hb.mono (by simp))
  have HR6 := hid (HR6.out.below hb)
  have HR7 := hid (HR7.out.below hb)
  have HB := hid (HB.out.trans (hb.mono HB.out.size))
  clear hb
  go_wp2_with fail
  refine (same_yes _ _ [⟨#[97, 92, 98]⟩] _ (HR6.out.below (alloc_below _ _)) (by exact ReadT.lit _ [⟨#[97, 92, 98]⟩]) (by simp)).mono ?_
  rintro e x6 ⟨rfl, hb⟩
  have hb := (alloc_below _ _).trans (hb.mono (by simp))
  have HR7 := hid (HR7.out.below hb)
  have HB := hid (HB.out.trans (hb.mono HB.out.size))
  clear hb
  go_wp2_with fail
  refine (same_yes _ _ [⟨#[]⟩] _ (HR7.out.below (alloc_below _ _)) (by exact ReadT.lit _ [⟨#[]⟩]) (by simp)).mono ?_
  rintro e x7 ⟨rfl, hb⟩
  have hb := (alloc_below _ _).trans (hb.mono (by simp))
  have HB := hid (HB.out.trans (hb.mono HB.out.size))
  clear hb
  go_wp2_with fail
  go_ret
  exact ⟨rfl, HB.out⟩
/-- what Few says -/
def FewT (l : List ByteArray) (w : World) (e : Ending) (w' : World) : Prop := ∃ b : Bool, e = .returned (.bool b) ∧ (b = true → l.length ≤ 50) ∧ Below w.heap.size w w'
set_option maxHeartbeats 4000000 in
theorem fewT_calls (v : Value) (l : List ByteArray) (w : World) (hv : ReadT w v l) (hl : l.length ≤ maxLen) (hs : ∀ s ∈ l, s.size ≤ maxLen) : Calls Try.prog 52 #[v] w (FewT l w) := by
  obtain ⟨A, c, rfl, hc⟩ := hv.len
  have HV := hid hv
  have HS := hid hs
  unfold maxLen at hl
  clear hv hs
  go_enter Try.func52, Try.ntmps52
  go_wp2_with fail
  go_loopw [3, 4] (fun n i wr => ∃ k : Nat, ∃ m : Nat, k ≤ 100 ∧ k ≤ l.length ∧ m ≤ k * 500 ∧ i = .int .i64 k ∧ n = .int .i64 m ∧ Below w.heap.size w wr) (fun _ i _ => 100 - (intOf i).toNat)
  case atStart => exact ⟨0, 0, by omega, Nat.zero_le _, by omega, rfl, rfl, Below.refl _ _⟩
  case round =>
    obtain ⟨k, m, hk1, hk2, hm, rfl, rfl, hbw⟩ := hrel
    by_cases hlt : k < l.length
    · by_cases h100 : k < 100
      · obtain ⟨g, off, rfl, hcell⟩ := (HV.out.below hbw).cellAt hlt
        have h5 := HS.out l[k] (List.getElem_mem hlt)
        unfold maxLen at h5
        generalize l[k] = x at *
        have HB := hid hbw
        clear hbw
        by_cases hx : x.size ≤ 500
        · go_wp2_with fail
          go_roundw
          case rel => exact ⟨k + 1, m + x.size, by omega, by omega, by omega, by go_num, by go_num, HB.out⟩
          case measure => simp [intOf]; omega
        · go_wp2_with fail
          go_ret
          exact ⟨false, rfl, (fun h => by cases h), HB.out⟩
      · have HB := hid hbw
        clear hbw
        have hq : ¬ l.length ≤ 50 := by omega
        go_wp2_with fail
        go_ret
        exact ⟨false, rfl, (fun h => by cases h), HB.out⟩
    · have HB := hid hbw
      clear hbw
      have hkl : k = l.length := by omega
      subst hkl
      cases e0 : decide ((l.length : Int) ≤ 50)
      · go_wp2_with fail
        go_ret
        exact ⟨false, rfl, (fun h => by cases h), HB.out⟩
      · have E0 := hid e0
        go_wp2_with fail
        go_ret
        exact ⟨_, rfl, (fun _ => by have := of_decide_eq_true E0.out; omega), HB.out⟩
end Go.Proofs.Ytmkgjleojfggcaa
