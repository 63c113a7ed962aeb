/-
  The walk of layer 12's small case. Conditions: none.
-/
import Derived.Test.YtmkgjleojfggcaaRecConst
import Derived.Test.YtmkgjleojfggcaaRecSame2
set_option linter.all false
namespace Go.Proofs.Ytmkgjleojfggcaa
open Go.RowKit
def urlU (a : ByteArray) (v : Value) (l : List ByteArray) : Url := ⟨a, ⟨#[]⟩, ⟨#[]⟩, 0, ⟨#[]⟩, 0, 0, 0, 0, 0, 0, 0, 0, 0, false, 0, false, ⟨#[]⟩, v, l, false, ⟨#[]⟩, false, ⟨#[]⟩⟩
theorem same_small (a c : ByteArray) (v x : Value) (l m : List ByteArray) (w : World) (hv : ReadT w v l) (hx : ReadT w x m) (b : Bool) (hl : l.length ≤ 100000) (hm : m.length ≤ 100000) (hs : (urlU a v l).same (urlU c x m) = b) :
    Calls Try.prog 39 #[.agg (urlV a v), .agg (urlV c x)] w fun e w' => e = .returned (.bool b) ∧ Below w.heap.size w w' := by
  subst hs
  exact same_calls (urlU a v l) (urlU c x m) w hv hx hl hm
set_option maxHeartbeats 40000000 in
set_option maxRecDepth 100000 in
theorem recSmall_calls (w : World) : Calls Try.prog 20 #[] w fun e w' => e = .returned (.bool true) ∧ Below w.heap.size w w' := by
  go_enter Try.func20, Try.ntmps20
  go_wp2_with fail
  refine (port_const _ _ _ port_1 _).mono ?_; rintro e w1 ⟨rfl, rfl⟩; go_wp2_with fail
  refine (port_const _ _ _ port_2 _).mono ?_; rintro e w1 ⟨rfl, rfl⟩; go_wp2_with fail
  refine (shorten_const _ _ _ short_1 _).mono ?_
  rintro e w1 ⟨A, c, rfl, hbe⟩
  go_wp2_with fail
  refine (shorten_const _ _ _ short_2 _).mono ?_
  rintro e w2 ⟨A2, c2, rfl, hb2⟩
  have hbe := hbe.trans (hb2.mono hbe.size)
  clear hb2
  go_upto_region 5 with (fail)
  apply wp_region_lit
  (refine wpList_yes rfl ?_; intro K hK; go_simp; refine hK _ _ ?_; clear hK K)
  refine wpList_build_any rfl _ _ rfl _ (.agg (urlV ⟨#[97]⟩ (.slice (some ⟨w2.heap.size, 0, none⟩) 1 1))) ?_ ?_
  · simp only [List.map_toArray, List.map_cons, List.map_nil]
    exact build_url ⟨#[97]⟩ (.slice (some ⟨w2.heap.size, 0, none⟩) 1 1) _ _ _ _ rfl
  refine wpList_alloc_url rfl rfl _ ?_
  refine wpList_store_new rfl _ _ _ rfl _ _ _ _ rfl ?_ rfl ?_ ?_ ?_ ?_
  · simp
  · kernel_rfl
  · rfl
  · kernel_rfl
  simp only [Act.put, List.setIfInBounds_toArray, List.set_cons_zero, List.set_cons_succ, World.size_alloc]
  apply wpList_nil
  go_upto_region 6 with (fail)
  apply wp_region_lit
  (refine wpList_yes rfl ?_; intro K hK; go_simp; refine hK _ _ ?_; clear hK K)
  refine wpList_build_any rfl _ _ rfl _ (.agg (urlV ⟨#[97]⟩ (.slice (some ⟨w2.heap.size + 1 + 1, 0, none⟩) 1 1))) ?_ ?_
  · simp only [List.map_toArray, List.map_cons, List.map_nil]
    exact build_url ⟨#[97]⟩ (.slice (some ⟨w2.heap.size + 1 + 1, 0, none⟩) 1 1) _ _ _ _ rfl
  refine wpList_alloc_url rfl rfl _ ?_
  refine wpList_store_new rfl _ _ _ rfl _ _ _ _ rfl ?_ rfl ?_ ?_ ?_ ?_
  · simp
  · kernel_rfl
  · rfl
  · kernel_rfl
  simp only [Act.put, List.setIfInBounds_toArray, List.set_cons_zero, List.set_cons_succ, World.size_alloc]
  apply wpList_nil
  go_upto_region 7 with (fail)
  obtain ⟨hc1, hc2, hs4, hb40⟩ := four_heap w2 (.cells #[.string ⟨#[98]⟩] 9) (.cells (urlV ⟨#[97]⟩ (.slice (some ⟨w2.heap.size, 0, none⟩) 1 1)) 33) (.cells #[.string ⟨#[99]⟩] 9) (.cells (urlV ⟨#[97]⟩ (.slice (some ⟨w2.heap.size + 1 + 1, 0, none⟩) 1 1)) 33)
  have hr1 : ReadT ((((w2.alloc (.cells #[.string ⟨#[98]⟩] 9)).alloc (.cells (urlV ⟨#[97]⟩ (.slice (some ⟨w2.heap.size, 0, none⟩) 1 1)) 33)).alloc (.cells #[.string ⟨#[99]⟩] 9)).alloc (.cells (urlV ⟨#[97]⟩ (.slice (some ⟨w2.heap.size + 1 + 1, 0, none⟩) 1 1)) 33)) (.slice (some ⟨w2.heap.size, 0, none⟩) 1 1) [⟨#[98]⟩] :=
    (ReadT.one w2 _).below (((alloc_below _ _).trans ((alloc_below _ _).mono (by simp))).trans ((alloc_below _ _).mono (by simp <;> omega)))
  have hr2 : ReadT ((((w2.alloc (.cells #[.string ⟨#[98]⟩] 9)).alloc (.cells (urlV ⟨#[97]⟩ (.slice (some ⟨w2.heap.size, 0, none⟩) 1 1)) 33)).alloc (.cells #[.string ⟨#[99]⟩] 9)).alloc (.cells (urlV ⟨#[97]⟩ (.slice (some ⟨w2.heap.size + 1 + 1, 0, none⟩) 1 1)) 33)) (.slice (some ⟨w2.heap.size + 1 + 1, 0, none⟩) 1 1) [⟨#[99]⟩] := by
    have := ReadT.one ((w2.alloc (.cells #[.string ⟨#[98]⟩] 9)).alloc (.cells (urlV ⟨#[97]⟩ (.slice (some ⟨w2.heap.size, 0, none⟩) 1 1)) 33)) ⟨#[99]⟩
    have h2 := this.below (alloc_below _ (.cells (urlV ⟨#[97]⟩ (.slice (some ⟨w2.heap.size + 1 + 1, 0, none⟩) 1 1)) 33))
    rwa [show ((w2.alloc (.cells #[.string ⟨#[98]⟩] 9)).alloc (.cells (urlV ⟨#[97]⟩ (.slice (some ⟨w2.heap.size, 0, none⟩) 1 1)) 33)).heap.size = w2.heap.size + 1 + 1 by simp] at h2
  have hb4 := hbe.trans (hb40.mono hbe.size)
  clear hb40
  generalize ((((w2.alloc (.cells #[.string ⟨#[98]⟩] 9)).alloc (.cells (urlV ⟨#[97]⟩ (.slice (some ⟨w2.heap.size, 0, none⟩) 1 1)) 33)).alloc (.cells #[.string ⟨#[99]⟩] 9)).alloc (.cells (urlV ⟨#[97]⟩ (.slice (some ⟨w2.heap.size + 1 + 1, 0, none⟩) 1 1)) 33)) = w4 at *
  have HB := hid hb4
  have HX := hid (Below.refl w4.heap.size w4)
  have HC1 := hid hc1
  have HC2 := hid hc2
  have HR1 := hid hr1
  have HR2 := hid hr2
  have HS4 := hid hs4
  clear hb4 hc1 hc2 hr1 hr2 hs4 hbe
  simp only [List.append_eq, List.cons_append, List.nil_append]
  apply wp_region_lit
  refine wpList_yes rfl ?_; intro K hK; go_simp; go_at_call 23
  refine (special_const _ true (by simp [special, ByteArray.toList_eq]) _).mono ?_
  rintro e w9 ⟨rfl, rfl⟩
  refine hK _ _ ?_
  clear hK K
  iterate 1 (refine wpList_yes rfl ?_; intro K hK; go_simp; refine hK _ _ ?_; clear hK K)
  refine wpList_yes rfl ?_; intro K hK; go_simp; go_at_call 23
  refine (special_const _ false (by simp [special, ByteArray.toList_eq]) _).mono ?_
  rintro e w9 ⟨rfl, rfl⟩
  refine hK _ _ ?_
  clear hK K
  iterate 3 (refine wpList_yes rfl ?_; intro K hK; go_simp; refine hK _ _ ?_; clear hK K)
  refine wpList_yes rfl ?_; intro K hK; go_simp; go_at_call 23
  refine (special_const _ false (by simp [special, ByteArray.toList_eq]) _).mono ?_
  rintro e w9 ⟨rfl, rfl⟩
  refine hK _ _ ?_
  clear hK K
  iterate 3 (refine wpList_yes rfl ?_; intro K hK; go_simp; refine hK _ _ ?_; clear hK K)
  iterate 4 (refine wpList_yes rfl ?_; intro K hK; go_simp; refine hK _ _ ?_; clear hK K)
  iterate 3 (refine wpList_yes rfl ?_; intro K hK; go_simp; refine hK _ _ ?_; clear hK K)
  iterate 4 (refine wpList_yes rfl ?_; intro K hK; go_simp; refine hK _ _ ?_; clear hK K)
  refine wpList_yes rfl ?_; intro K hK; go_simp; go_at_call 25
  refine (drive_const _ true (by decide +kernel) _).mono ?_
  rintro e w9 ⟨rfl, rfl⟩
  refine hK _ _ ?_
  clear hK K
  iterate 2 (refine wpList_yes rfl ?_; intro K hK; go_simp; refine hK _ _ ?_; clear hK K)
  refine wpList_yes rfl ?_; intro K hK; go_simp; go_at_call 27
  refine (normal_const _ false (by decide +kernel) _).mono ?_
  rintro e w9 ⟨rfl, rfl⟩
  refine hK _ _ ?_
  clear hK K
  iterate 3 (refine wpList_yes rfl ?_; intro K hK; go_simp; refine hK _ _ ?_; clear hK K)
  refine wpList_yes rfl ?_; intro K hK; go_simp; go_at_call 27
  refine (normal_const _ true (by decide +kernel) _).mono ?_
  rintro e w9 ⟨rfl, rfl⟩
  refine hK _ _ ?_
  clear hK K
  iterate 2 (refine wpList_yes rfl ?_; intro K hK; go_simp; refine hK _ _ ?_; clear hK K)
  refine wpList_yes rfl ?_; intro K hK; go_simp; go_at_call 29
  refine (starts_const _ true (by decide +kernel) _).mono ?_
  rintro e w9 ⟨rfl, rfl⟩
  refine hK _ _ ?_
  clear hK K
  iterate 2 (refine wpList_yes rfl ?_; intro K hK; go_simp; refine hK _ _ ?_; clear hK K)
  refine wpList_yes rfl ?_; intro K hK; go_simp; go_at_call 29
  refine (starts_const _ false (by decide +kernel) _).mono ?_
  rintro e w9 ⟨rfl, rfl⟩
  refine hK _ _ ?_
  clear hK K
  iterate 3 (refine wpList_yes rfl ?_; intro K hK; go_simp; refine hK _ _ ?_; clear hK K)
  refine wpList_yes rfl ?_; intro K hK; go_simp; go_at_call 25
  refine (drive_const _ false (by decide +kernel) _).mono ?_
  rintro e w9 ⟨rfl, rfl⟩
  refine hK _ _ ?_
  clear hK K
  iterate 3 (refine wpList_yes rfl ?_; intro K hK; go_simp; refine hK _ _ ?_; clear hK K)
  refine wpList_yes rfl ?_; intro K hK; go_simp; go_at_call 31
  refine (dot_const _ true (by decide +kernel) (by decide) _).mono ?_
  rintro e w9 ⟨rfl, hb9⟩
  refine hK _ _ ?_
  clear hK K
  replace HB := hid (HB.out.trans (hb9.mono HB.out.size))
  replace HX := hid (HX.out.trans (hb9.mono HX.out.size))
  clear hb9
  iterate 2 (refine wpList_yes rfl ?_; intro K hK; go_simp; refine hK _ _ ?_; clear hK K)
  refine wpList_yes rfl ?_; intro K hK; go_simp; go_at_call 31
  refine (dot_const _ false (by decide +kernel) (by decide) _).mono ?_
  rintro e w9 ⟨rfl, hb9⟩
  refine hK _ _ ?_
  clear hK K
  replace HB := hid (HB.out.trans (hb9.mono HB.out.size))
  replace HX := hid (HX.out.trans (hb9.mono HX.out.size))
  clear hb9
  iterate 3 (refine wpList_yes rfl ?_; intro K hK; go_simp; refine hK _ _ ?_; clear hK K)
  refine wpList_yes rfl ?_; intro K hK; go_simp; go_at_call 33
  refine (dots_const _ true (by decide +kernel) (by decide) _).mono ?_
  rintro e w9 ⟨rfl, hb9⟩
  refine hK _ _ ?_
  clear hK K
  replace HB := hid (HB.out.trans (hb9.mono HB.out.size))
  replace HX := hid (HX.out.trans (hb9.mono HX.out.size))
  clear hb9
  iterate 2 (refine wpList_yes rfl ?_; intro K hK; go_simp; refine hK _ _ ?_; clear hK K)
  refine wpList_yes rfl ?_; intro K hK; go_simp; go_at_call 33
  refine (dots_const _ false (by decide +kernel) (by decide) _).mono ?_
  rintro e w9 ⟨rfl, hb9⟩
  refine hK _ _ ?_
  clear hK K
  replace HB := hid (HB.out.trans (hb9.mono HB.out.size))
  replace HX := hid (HX.out.trans (hb9.mono HX.out.size))
  clear hb9
  iterate 3 (refine wpList_yes rfl ?_; intro K hK; go_simp; refine hK _ _ ?_; clear hK K)
  iterate 5 (refine wpList_yes rfl ?_; intro K hK; go_simp; refine hK _ _ ?_; clear hK K)
  iterate 5 (refine wpList_yes rfl ?_; intro K hK; go_simp; refine hK _ _ ?_; clear hK K)
  have H1 := (HX.out.block _ (by rw [HS4.out]; omega)).trans HC1.out
  have H2 := (HX.out.block _ (by rw [HS4.out]; omega)).trans HC2.out
  have R1 := hid (HR1.out.below HX.out)
  have R2 := hid (HR2.out.below HX.out)
  refine wpList_load_urlG rfl _ rfl _ _ _ rfl rfl H1 ?_
  simp only [Act.put, List.setIfInBounds_toArray, List.set_cons_zero, List.set_cons_succ]
  refine wpList_load_urlG rfl _ rfl _ _ _ rfl rfl H1 ?_
  simp only [Act.put, List.setIfInBounds_toArray, List.set_cons_zero, List.set_cons_succ]
  refine wpList_yes rfl ?_; intro K hK; go_simp; go_at_call 39
  refine (same_small _ _ _ _ _ _ _ R1.out R1.out true (by decide) (by decide) (by kernel_rfl)).mono ?_
  rintro e w9 ⟨rfl, hb9⟩
  refine hK _ _ ?_
  clear hK K
  replace HB := hid (HB.out.trans (hb9.mono HB.out.size))
  replace H1 := (hb9.block _ (by have h1 := HX.out.size; have h2 := HS4.out; omega)).trans H1
  replace H2 := (hb9.block _ (by have h1 := HX.out.size; have h2 := HS4.out; omega)).trans H2
  replace R1 := hid (R1.out.below hb9)
  replace R2 := hid (R2.out.below hb9)
  clear hb9
  iterate 2 (refine wpList_yes rfl ?_; intro K hK; go_simp; refine hK _ _ ?_; clear hK K)
  refine wpList_load_urlG rfl _ rfl _ _ _ rfl rfl H1 ?_
  simp only [Act.put, List.setIfInBounds_toArray, List.set_cons_zero, List.set_cons_succ]
  refine wpList_load_urlG rfl _ rfl _ _ _ rfl rfl H2 ?_
  simp only [Act.put, List.setIfInBounds_toArray, List.set_cons_zero, List.set_cons_succ]
  refine wpList_yes rfl ?_; intro K hK; go_simp; go_at_call 39
  refine (same_small _ _ _ _ _ _ _ R1.out R2.out false (by decide) (by decide) (by kernel_rfl)).mono ?_
  rintro e w9 ⟨rfl, hb9⟩
  refine hK _ _ ?_
  clear hK K
  replace HB := hid (HB.out.trans (hb9.mono HB.out.size))
  clear hb9 H1 H2
  iterate 3 (refine wpList_yes rfl ?_; intro K hK; go_simp; refine hK _ _ ?_; clear hK K)
  apply wpList_nil
  go_wp2_with fail
  go_ret
  exact ⟨rfl, HB.out⟩
end Go.Proofs.Ytmkgjleojfggcaa
