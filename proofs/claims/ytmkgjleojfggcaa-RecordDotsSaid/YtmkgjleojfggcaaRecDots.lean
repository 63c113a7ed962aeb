/-
  The walk of RecordDots. Conditions: none.
-/
import Derived.Test.YtmkgjleojfggcaaRecSmall2
import Derived.Test.YtmkgjleojfggcaaRecDotsL
set_option linter.all false
namespace Go.Proofs.Ytmkgjleojfggcaa
open Go.RowKit
theorem app_data (a b : ByteArray) : (a ++ b).data.toList = a.data.toList ++ b.data.toList := by simp
set_option maxHeartbeats 8000000 in
set_option maxRecDepth 100000 in
theorem rdots_1t (a b : ByteArray) (w : World) (ha : a.size ≤ 50) (hb0 : b.size ≤ 50) (hA : dotL a.data.toList = true) (hk : a.size = 1) (hE : dotL b.data.toList = true) :
    Calls Try.prog 6 #[.string a, .string b] w fun e w' => e = .returned (.bool true) ∧ Below w.heap.size w w' := by
    have hs : a.size ≤ 90000 := by omega
    have hs1 : a.size ≤ 100000 := by omega
    have hs2 : b.size ≤ 90000 := by omega
    have hab : (a ++ b).size ≤ 90000 := by simp; omega
    have hlen : a.data.toList.length = a.size := by simp
    have hlw : (⟨(lowL a.data.toList).toArray⟩ : ByteArray).size ≤ 90000 := by show (lowL a.data.toList).toArray.size ≤ _; simp [lowL]; omega
    have HA := hid hA
    have HLA := hid (show dotL (⟨(lowL a.data.toList).toArray⟩ : ByteArray).data.toList = true by simpa [dotL_low] using hA)
    have hls : dotsL (⟨(lowL a.data.toList).toArray⟩ : ByteArray).data.toList = dotsL a.data.toList := by simp [dotsL_low]
    have HE := hid hE
    have HAB := hid (show dotsL (a ++ b).data.toList = true by rw [app_data]; exact dots_app hA hE)
    clear hE
    have hS := dot_not_dots hA
    have HS := hid hS
    have HLS := hid (hls.trans hS)
    have HLen := hid hk
    have l1 : ((a.size : Int) == 1) = true := by rw [hk]; rfl
    have l2 : ((a.size : Int) != 1) = false := by rw [hk]; rfl
    have l3 : ((a.size : Int) != 3) = true := by rw [hk]; rfl
    have l4 : ((a.size : Int) == 3) = false := by rw [hk]; rfl
    clear hA hls hS hk
    clear hlen
    go_enter Try.func6, Try.ntmps6
    go_wp2_with fail
    refine (recSmall_calls _).mono ?_
    rintro e w1 ⟨rfl, hb⟩
    have HB := hid hb
    clear hb
    go_upto_region 4 with (fail)
    (try simp only [List.append_eq, List.cons_append, List.nil_append])
    apply wp_region_lit
    iterate 1 (refine wpList_yes rfl ?_; intro K hK; go_simp; refine hK _ _ ?_; clear hK K)
    refine wpList_yes rfl ?_; intro K hK; go_simp; go_at_call 31
    refine (dot_const a true HA.out hs _).mono ?_
    rintro e w9 ⟨rfl, hb9⟩
    refine hK _ _ ?_
    clear hK K
    replace HB := hid (HB.out.trans (hb9.mono HB.out.size))
    clear hb9
    iterate 2 (refine wpList_yes rfl ?_; intro K hK; go_simp; refine hK _ _ ?_; clear hK K)
    refine wpList_yes rfl ?_; intro K hK; go_simp; go_at_call 31
    refine (dot_const b true HE.out hs2 _).mono ?_
    rintro e w9 ⟨rfl, hb9⟩
    refine hK _ _ ?_
    clear hK K
    replace HB := hid (HB.out.trans (hb9.mono HB.out.size))
    clear hb9
    iterate 4 (refine wpList_yes rfl ?_; intro K hK; go_simp; refine hK _ _ ?_; clear hK K)
    refine wpList_yes rfl ?_; intro K hK; go_simp; rw [if_neg (by omega)]; refine hK _ _ ?_; clear hK K
    refine wpList_yes rfl ?_; intro K hK; go_simp; go_at_call 33
    refine (dots_const (a ++ b) true HAB.out hab _).mono ?_
    rintro e w9 ⟨rfl, hb9⟩
    refine hK _ _ ?_
    clear hK K
    replace HB := hid (HB.out.trans (hb9.mono HB.out.size))
    clear hb9
    iterate 4 (refine wpList_yes rfl ?_; intro K hK; go_simp; refine hK _ _ ?_; clear hK K)
    refine wpList_yes rfl ?_; intro K hK; go_simp; go_at_call 31
    refine (dot_const a true HA.out hs _).mono ?_
    rintro e w9 ⟨rfl, hb9⟩
    refine hK _ _ ?_
    clear hK K
    replace HB := hid (HB.out.trans (hb9.mono HB.out.size))
    clear hb9
    iterate 2 (refine wpList_yes rfl ?_; intro K hK; go_simp; refine hK _ _ ?_; clear hK K)
    refine wpList_yes rfl ?_; intro K hK; go_simp; go_at_call 33
    refine (dots_const a _ HS.out hs _).mono ?_
    rintro e w9 ⟨rfl, hb9⟩
    refine hK _ _ ?_
    clear hK K
    replace HB := hid (HB.out.trans (hb9.mono HB.out.size))
    clear hb9
    iterate 4 (refine wpList_yes rfl ?_; intro K hK; go_simp; refine hK _ _ ?_; clear hK K)
    refine wpList_yes rfl ?_; intro K hK; go_simp; go_at_call 31
    refine (dot_const a true HA.out hs _).mono ?_
    rintro e w9 ⟨rfl, hb9⟩
    refine hK _ _ ?_
    clear hK K
    replace HB := hid (HB.out.trans (hb9.mono HB.out.size))
    clear hb9
    iterate 6 (refine wpList_yes rfl ?_; intro K hK; go_simp; refine hK _ _ ?_; clear hK K)
    go_skip
    iterate 2 (refine wpList_yes rfl ?_; intro K hK; go_simp; refine hK _ _ ?_; clear hK K)
    apply wpList_nil
    go_upto_region 6 with (fail)
    (try simp only [List.append_eq, List.cons_append, List.nil_append])
    apply wp_region_lit
    iterate 3 (refine wpList_yes rfl ?_; intro K hK; go_simp; refine hK _ _ ?_; clear hK K)
    refine wpList_yes rfl ?_; intro K hK; go_simp; go_at_call 41
    refine (lower_calls a _ hs1).mono ?_
    rintro e w9 ⟨rfl, hb9⟩
    refine hK _ _ ?_
    clear hK K
    replace HB := hid (HB.out.trans (hb9.mono HB.out.size))
    clear hb9
    refine wpList_yes rfl ?_; intro K hK; go_simp; go_at_call 31
    refine (dot_const ⟨(lowL a.data.toList).toArray⟩ true HLA.out hlw _).mono ?_
    rintro e w9 ⟨rfl, hb9⟩
    refine hK _ _ ?_
    clear hK K
    replace HB := hid (HB.out.trans (hb9.mono HB.out.size))
    clear hb9
    iterate 1 (refine wpList_yes rfl ?_; intro K hK; go_simp; refine hK _ _ ?_; clear hK K)
    refine wpList_yes rfl ?_; intro K hK; go_simp; go_at_call 31
    refine (dot_const a true HA.out hs _).mono ?_
    rintro e w9 ⟨rfl, hb9⟩
    refine hK _ _ ?_
    clear hK K
    replace HB := hid (HB.out.trans (hb9.mono HB.out.size))
    clear hb9
    iterate 4 (refine wpList_yes rfl ?_; intro K hK; go_simp; refine hK _ _ ?_; clear hK K)
    refine wpList_yes rfl ?_; intro K hK; go_simp; go_at_call 41
    refine (lower_calls a _ hs1).mono ?_
    rintro e w9 ⟨rfl, hb9⟩
    refine hK _ _ ?_
    clear hK K
    replace HB := hid (HB.out.trans (hb9.mono HB.out.size))
    clear hb9
    refine wpList_yes rfl ?_; intro K hK; go_simp; go_at_call 33
    refine (dots_const ⟨(lowL a.data.toList).toArray⟩ _ HLS.out hlw _).mono ?_
    rintro e w9 ⟨rfl, hb9⟩
    refine hK _ _ ?_
    clear hK K
    replace HB := hid (HB.out.trans (hb9.mono HB.out.size))
    clear hb9
    iterate 1 (refine wpList_yes rfl ?_; intro K hK; go_simp; refine hK _ _ ?_; clear hK K)
    refine wpList_yes rfl ?_; intro K hK; go_simp; go_at_call 33
    refine (dots_const a _ HS.out hs _).mono ?_
    rintro e w9 ⟨rfl, hb9⟩
    refine hK _ _ ?_
    clear hK K
    replace HB := hid (HB.out.trans (hb9.mono HB.out.size))
    clear hb9
    iterate 4 (refine wpList_yes rfl ?_; intro K hK; go_simp; refine hK _ _ ?_; clear hK K)
    refine wpList_yes rfl ?_; intro K hK; go_simp; go_at_call 33
    refine (dots_const a _ HS.out hs _).mono ?_
    rintro e w9 ⟨rfl, hb9⟩
    refine hK _ _ ?_
    clear hK K
    replace HB := hid (HB.out.trans (hb9.mono HB.out.size))
    clear hb9
    iterate 2 (refine wpList_yes rfl ?_; intro K hK; go_simp; refine hK _ _ ?_; clear hK K)
    go_skip
    iterate 2 (refine wpList_yes rfl ?_; intro K hK; go_simp; refine hK _ _ ?_; clear hK K)
    go_skip
    iterate 3 (refine wpList_yes rfl ?_; intro K hK; go_simp; refine hK _ _ ?_; clear hK K)
    apply wpList_nil
    go_wp2_with fail
    go_ret
    exact ⟨rfl, HB.out⟩
set_option maxHeartbeats 8000000 in
set_option maxRecDepth 100000 in
theorem rdots_1f (a b : ByteArray) (w : World) (ha : a.size ≤ 50) (hb0 : b.size ≤ 50) (hA : dotL a.data.toList = true) (hk : a.size = 1) (hE : dotL b.data.toList = false) :
    Calls Try.prog 6 #[.string a, .string b] w fun e w' => e = .returned (.bool true) ∧ Below w.heap.size w w' := by
    have hs : a.size ≤ 90000 := by omega
    have hs1 : a.size ≤ 100000 := by omega
    have hs2 : b.size ≤ 90000 := by omega
    have hab : (a ++ b).size ≤ 90000 := by simp; omega
    have hlen : a.data.toList.length = a.size := by simp
    have hlw : (⟨(lowL a.data.toList).toArray⟩ : ByteArray).size ≤ 90000 := by show (lowL a.data.toList).toArray.size ≤ _; simp [lowL]; omega
    have HA := hid hA
    have HLA := hid (show dotL (⟨(lowL a.data.toList).toArray⟩ : ByteArray).data.toList = true by simpa [dotL_low] using hA)
    have hls : dotsL (⟨(lowL a.data.toList).toArray⟩ : ByteArray).data.toList = dotsL a.data.toList := by simp [dotsL_low]
    have HE := hid hE
    clear hE
    have hS := dot_not_dots hA
    have HS := hid hS
    have HLS := hid (hls.trans hS)
    have HLen := hid hk
    have l1 : ((a.size : Int) == 1) = true := by rw [hk]; rfl
    have l2 : ((a.size : Int) != 1) = false := by rw [hk]; rfl
    have l3 : ((a.size : Int) != 3) = true := by rw [hk]; rfl
    have l4 : ((a.size : Int) == 3) = false := by rw [hk]; rfl
    clear hA hls hS hk
    clear hlen
    go_enter Try.func6, Try.ntmps6
    go_wp2_with fail
    refine (recSmall_calls _).mono ?_
    rintro e w1 ⟨rfl, hb⟩
    have HB := hid hb
    clear hb
    go_upto_region 4 with (fail)
    (try simp only [List.append_eq, List.cons_append, List.nil_append])
    apply wp_region_lit
    iterate 1 (refine wpList_yes rfl ?_; intro K hK; go_simp; refine hK _ _ ?_; clear hK K)
    refine wpList_yes rfl ?_; intro K hK; go_simp; go_at_call 31
    refine (dot_const a true HA.out hs _).mono ?_
    rintro e w9 ⟨rfl, hb9⟩
    refine hK _ _ ?_
    clear hK K
    replace HB := hid (HB.out.trans (hb9.mono HB.out.size))
    clear hb9
    iterate 2 (refine wpList_yes rfl ?_; intro K hK; go_simp; refine hK _ _ ?_; clear hK K)
    refine wpList_yes rfl ?_; intro K hK; go_simp; go_at_call 31
    refine (dot_const b false HE.out hs2 _).mono ?_
    rintro e w9 ⟨rfl, hb9⟩
    refine hK _ _ ?_
    clear hK K
    replace HB := hid (HB.out.trans (hb9.mono HB.out.size))
    clear hb9
    iterate 2 (refine wpList_yes rfl ?_; intro K hK; go_simp; refine hK _ _ ?_; clear hK K)
    go_skip
    iterate 3 (refine wpList_yes rfl ?_; intro K hK; go_simp; refine hK _ _ ?_; clear hK K)
    refine wpList_yes rfl ?_; intro K hK; go_simp; go_at_call 31
    refine (dot_const a true HA.out hs _).mono ?_
    rintro e w9 ⟨rfl, hb9⟩
    refine hK _ _ ?_
    clear hK K
    replace HB := hid (HB.out.trans (hb9.mono HB.out.size))
    clear hb9
    iterate 2 (refine wpList_yes rfl ?_; intro K hK; go_simp; refine hK _ _ ?_; clear hK K)
    refine wpList_yes rfl ?_; intro K hK; go_simp; go_at_call 33
    refine (dots_const a _ HS.out hs _).mono ?_
    rintro e w9 ⟨rfl, hb9⟩
    refine hK _ _ ?_
    clear hK K
    replace HB := hid (HB.out.trans (hb9.mono HB.out.size))
    clear hb9
    iterate 4 (refine wpList_yes rfl ?_; intro K hK; go_simp; refine hK _ _ ?_; clear hK K)
    refine wpList_yes rfl ?_; intro K hK; go_simp; go_at_call 31
    refine (dot_const a true HA.out hs _).mono ?_
    rintro e w9 ⟨rfl, hb9⟩
    refine hK _ _ ?_
    clear hK K
    replace HB := hid (HB.out.trans (hb9.mono HB.out.size))
    clear hb9
    iterate 6 (refine wpList_yes rfl ?_; intro K hK; go_simp; refine hK _ _ ?_; clear hK K)
    go_skip
    iterate 2 (refine wpList_yes rfl ?_; intro K hK; go_simp; refine hK _ _ ?_; clear hK K)
    apply wpList_nil
    go_upto_region 6 with (fail)
    (try simp only [List.append_eq, List.cons_append, List.nil_append])
    apply wp_region_lit
    iterate 3 (refine wpList_yes rfl ?_; intro K hK; go_simp; refine hK _ _ ?_; clear hK K)
    refine wpList_yes rfl ?_; intro K hK; go_simp; go_at_call 41
    refine (lower_calls a _ hs1).mono ?_
    rintro e w9 ⟨rfl, hb9⟩
    refine hK _ _ ?_
    clear hK K
    replace HB := hid (HB.out.trans (hb9.mono HB.out.size))
    clear hb9
    refine wpList_yes rfl ?_; intro K hK; go_simp; go_at_call 31
    refine (dot_const ⟨(lowL a.data.toList).toArray⟩ true HLA.out hlw _).mono ?_
    rintro e w9 ⟨rfl, hb9⟩
    refine hK _ _ ?_
    clear hK K
    replace HB := hid (HB.out.trans (hb9.mono HB.out.size))
    clear hb9
    iterate 1 (refine wpList_yes rfl ?_; intro K hK; go_simp; refine hK _ _ ?_; clear hK K)
    refine wpList_yes rfl ?_; intro K hK; go_simp; go_at_call 31
    refine (dot_const a true HA.out hs _).mono ?_
    rintro e w9 ⟨rfl, hb9⟩
    refine hK _ _ ?_
    clear hK K
    replace HB := hid (HB.out.trans (hb9.mono HB.out.size))
    clear hb9
    iterate 4 (refine wpList_yes rfl ?_; intro K hK; go_simp; refine hK _ _ ?_; clear hK K)
    refine wpList_yes rfl ?_; intro K hK; go_simp; go_at_call 41
    refine (lower_calls a _ hs1).mono ?_
    rintro e w9 ⟨rfl, hb9⟩
    refine hK _ _ ?_
    clear hK K
    replace HB := hid (HB.out.trans (hb9.mono HB.out.size))
    clear hb9
    refine wpList_yes rfl ?_; intro K hK; go_simp; go_at_call 33
    refine (dots_const ⟨(lowL a.data.toList).toArray⟩ _ HLS.out hlw _).mono ?_
    rintro e w9 ⟨rfl, hb9⟩
    refine hK _ _ ?_
    clear hK K
    replace HB := hid (HB.out.trans (hb9.mono HB.out.size))
    clear hb9
    iterate 1 (refine wpList_yes rfl ?_; intro K hK; go_simp; refine hK _ _ ?_; clear hK K)
    refine wpList_yes rfl ?_; intro K hK; go_simp; go_at_call 33
    refine (dots_const a _ HS.out hs _).mono ?_
    rintro e w9 ⟨rfl, hb9⟩
    refine hK _ _ ?_
    clear hK K
    replace HB := hid (HB.out.trans (hb9.mono HB.out.size))
    clear hb9
    iterate 4 (refine wpList_yes rfl ?_; intro K hK; go_simp; refine hK _ _ ?_; clear hK K)
    refine wpList_yes rfl ?_; intro K hK; go_simp; go_at_call 33
    refine (dots_const a _ HS.out hs _).mono ?_
    rintro e w9 ⟨rfl, hb9⟩
    refine hK _ _ ?_
    clear hK K
    replace HB := hid (HB.out.trans (hb9.mono HB.out.size))
    clear hb9
    iterate 2 (refine wpList_yes rfl ?_; intro K hK; go_simp; refine hK _ _ ?_; clear hK K)
    go_skip
    iterate 2 (refine wpList_yes rfl ?_; intro K hK; go_simp; refine hK _ _ ?_; clear hK K)
    go_skip
    iterate 3 (refine wpList_yes rfl ?_; intro K hK; go_simp; refine hK _ _ ?_; clear hK K)
    apply wpList_nil
    go_wp2_with fail
    go_ret
    exact ⟨rfl, HB.out⟩
set_option maxHeartbeats 8000000 in
set_option maxRecDepth 100000 in
theorem rdots_3t (a b : ByteArray) (w : World) (ha : a.size ≤ 50) (hb0 : b.size ≤ 50) (hA : dotL a.data.toList = true) (hk : a.size = 3) (hE : dotL b.data.toList = true) :
    Calls Try.prog 6 #[.string a, .string b] w fun e w' => e = .returned (.bool true) ∧ Below w.heap.size w w' := by
    have hs : a.size ≤ 90000 := by omega
    have hs1 : a.size ≤ 100000 := by omega
    have hs2 : b.size ≤ 90000 := by omega
    have hab : (a ++ b).size ≤ 90000 := by simp; omega
    have hlen : a.data.toList.length = a.size := by simp
    have hlw : (⟨(lowL a.data.toList).toArray⟩ : ByteArray).size ≤ 90000 := by show (lowL a.data.toList).toArray.size ≤ _; simp [lowL]; omega
    have HA := hid hA
    have HLA := hid (show dotL (⟨(lowL a.data.toList).toArray⟩ : ByteArray).data.toList = true by simpa [dotL_low] using hA)
    have hls : dotsL (⟨(lowL a.data.toList).toArray⟩ : ByteArray).data.toList = dotsL a.data.toList := by simp [dotsL_low]
    have HE := hid hE
    have HAB := hid (show dotsL (a ++ b).data.toList = true by rw [app_data]; exact dots_app hA hE)
    clear hE
    have hS := dot_not_dots hA
    have HS := hid hS
    have HLS := hid (hls.trans hS)
    have HLen := hid hk
    have l1 : ((a.size : Int) == 3) = true := by rw [hk]; rfl
    have l2 : ((a.size : Int) != 3) = false := by rw [hk]; rfl
    have l3 : ((a.size : Int) != 1) = true := by rw [hk]; rfl
    have l4 : ((a.size : Int) == 1) = false := by rw [hk]; rfl
    clear hA hls hS hk
    clear hlen
    go_enter Try.func6, Try.ntmps6
    go_wp2_with fail
    refine (recSmall_calls _).mono ?_
    rintro e w1 ⟨rfl, hb⟩
    have HB := hid hb
    clear hb
    go_upto_region 4 with (fail)
    (try simp only [List.append_eq, List.cons_append, List.nil_append])
    apply wp_region_lit
    iterate 1 (refine wpList_yes rfl ?_; intro K hK; go_simp; refine hK _ _ ?_; clear hK K)
    refine wpList_yes rfl ?_; intro K hK; go_simp; go_at_call 31
    refine (dot_const a true HA.out hs _).mono ?_
    rintro e w9 ⟨rfl, hb9⟩
    refine hK _ _ ?_
    clear hK K
    replace HB := hid (HB.out.trans (hb9.mono HB.out.size))
    clear hb9
    iterate 2 (refine wpList_yes rfl ?_; intro K hK; go_simp; refine hK _ _ ?_; clear hK K)
    refine wpList_yes rfl ?_; intro K hK; go_simp; go_at_call 31
    refine (dot_const b true HE.out hs2 _).mono ?_
    rintro e w9 ⟨rfl, hb9⟩
    refine hK _ _ ?_
    clear hK K
    replace HB := hid (HB.out.trans (hb9.mono HB.out.size))
    clear hb9
    iterate 4 (refine wpList_yes rfl ?_; intro K hK; go_simp; refine hK _ _ ?_; clear hK K)
    refine wpList_yes rfl ?_; intro K hK; go_simp; rw [if_neg (by omega)]; refine hK _ _ ?_; clear hK K
    refine wpList_yes rfl ?_; intro K hK; go_simp; go_at_call 33
    refine (dots_const (a ++ b) true HAB.out hab _).mono ?_
    rintro e w9 ⟨rfl, hb9⟩
    refine hK _ _ ?_
    clear hK K
    replace HB := hid (HB.out.trans (hb9.mono HB.out.size))
    clear hb9
    iterate 4 (refine wpList_yes rfl ?_; intro K hK; go_simp; refine hK _ _ ?_; clear hK K)
    refine wpList_yes rfl ?_; intro K hK; go_simp; go_at_call 31
    refine (dot_const a true HA.out hs _).mono ?_
    rintro e w9 ⟨rfl, hb9⟩
    refine hK _ _ ?_
    clear hK K
    replace HB := hid (HB.out.trans (hb9.mono HB.out.size))
    clear hb9
    iterate 2 (refine wpList_yes rfl ?_; intro K hK; go_simp; refine hK _ _ ?_; clear hK K)
    refine wpList_yes rfl ?_; intro K hK; go_simp; go_at_call 33
    refine (dots_const a _ HS.out hs _).mono ?_
    rintro e w9 ⟨rfl, hb9⟩
    refine hK _ _ ?_
    clear hK K
    replace HB := hid (HB.out.trans (hb9.mono HB.out.size))
    clear hb9
    iterate 4 (refine wpList_yes rfl ?_; intro K hK; go_simp; refine hK _ _ ?_; clear hK K)
    refine wpList_yes rfl ?_; intro K hK; go_simp; go_at_call 31
    refine (dot_const a true HA.out hs _).mono ?_
    rintro e w9 ⟨rfl, hb9⟩
    refine hK _ _ ?_
    clear hK K
    replace HB := hid (HB.out.trans (hb9.mono HB.out.size))
    clear hb9
    iterate 11 (refine wpList_yes rfl ?_; intro K hK; go_simp; refine hK _ _ ?_; clear hK K)
    apply wpList_nil
    go_upto_region 6 with (fail)
    (try simp only [List.append_eq, List.cons_append, List.nil_append])
    apply wp_region_lit
    iterate 3 (refine wpList_yes rfl ?_; intro K hK; go_simp; refine hK _ _ ?_; clear hK K)
    refine wpList_yes rfl ?_; intro K hK; go_simp; go_at_call 41
    refine (lower_calls a _ hs1).mono ?_
    rintro e w9 ⟨rfl, hb9⟩
    refine hK _ _ ?_
    clear hK K
    replace HB := hid (HB.out.trans (hb9.mono HB.out.size))
    clear hb9
    refine wpList_yes rfl ?_; intro K hK; go_simp; go_at_call 31
    refine (dot_const ⟨(lowL a.data.toList).toArray⟩ true HLA.out hlw _).mono ?_
    rintro e w9 ⟨rfl, hb9⟩
    refine hK _ _ ?_
    clear hK K
    replace HB := hid (HB.out.trans (hb9.mono HB.out.size))
    clear hb9
    iterate 1 (refine wpList_yes rfl ?_; intro K hK; go_simp; refine hK _ _ ?_; clear hK K)
    refine wpList_yes rfl ?_; intro K hK; go_simp; go_at_call 31
    refine (dot_const a true HA.out hs _).mono ?_
    rintro e w9 ⟨rfl, hb9⟩
    refine hK _ _ ?_
    clear hK K
    replace HB := hid (HB.out.trans (hb9.mono HB.out.size))
    clear hb9
    iterate 4 (refine wpList_yes rfl ?_; intro K hK; go_simp; refine hK _ _ ?_; clear hK K)
    refine wpList_yes rfl ?_; intro K hK; go_simp; go_at_call 41
    refine (lower_calls a _ hs1).mono ?_
    rintro e w9 ⟨rfl, hb9⟩
    refine hK _ _ ?_
    clear hK K
    replace HB := hid (HB.out.trans (hb9.mono HB.out.size))
    clear hb9
    refine wpList_yes rfl ?_; intro K hK; go_simp; go_at_call 33
    refine (dots_const ⟨(lowL a.data.toList).toArray⟩ _ HLS.out hlw _).mono ?_
    rintro e w9 ⟨rfl, hb9⟩
    refine hK _ _ ?_
    clear hK K
    replace HB := hid (HB.out.trans (hb9.mono HB.out.size))
    clear hb9
    iterate 1 (refine wpList_yes rfl ?_; intro K hK; go_simp; refine hK _ _ ?_; clear hK K)
    refine wpList_yes rfl ?_; intro K hK; go_simp; go_at_call 33
    refine (dots_const a _ HS.out hs _).mono ?_
    rintro e w9 ⟨rfl, hb9⟩
    refine hK _ _ ?_
    clear hK K
    replace HB := hid (HB.out.trans (hb9.mono HB.out.size))
    clear hb9
    iterate 4 (refine wpList_yes rfl ?_; intro K hK; go_simp; refine hK _ _ ?_; clear hK K)
    refine wpList_yes rfl ?_; intro K hK; go_simp; go_at_call 33
    refine (dots_const a _ HS.out hs _).mono ?_
    rintro e w9 ⟨rfl, hb9⟩
    refine hK _ _ ?_
    clear hK K
    replace HB := hid (HB.out.trans (hb9.mono HB.out.size))
    clear hb9
    iterate 2 (refine wpList_yes rfl ?_; intro K hK; go_simp; refine hK _ _ ?_; clear hK K)
    go_skip
    iterate 2 (refine wpList_yes rfl ?_; intro K hK; go_simp; refine hK _ _ ?_; clear hK K)
    go_skip
    iterate 3 (refine wpList_yes rfl ?_; intro K hK; go_simp; refine hK _ _ ?_; clear hK K)
    apply wpList_nil
    go_wp2_with fail
    go_ret
    exact ⟨rfl, HB.out⟩
set_option maxHeartbeats 8000000 in
set_option maxRecDepth 100000 in
theorem rdots_3f (a b : ByteArray) (w : World) (ha : a.size ≤ 50) (hb0 : b.size ≤ 50) (hA : dotL a.data.toList = true) (hk : a.size = 3) (hE : dotL b.data.toList = false) :
    Calls Try.prog 6 #[.string a, .string b] w fun e w' => e = .returned (.bool true) ∧ Below w.heap.size w w' := by
    have hs : a.size ≤ 90000 := by omega
    have hs1 : a.size ≤ 100000 := by omega
    have hs2 : b.size ≤ 90000 := by omega
    have hab : (a ++ b).size ≤ 90000 := by simp; omega
    have hlen : a.data.toList.length = a.size := by simp
    have hlw : (⟨(lowL a.data.toList).toArray⟩ : ByteArray).size ≤ 90000 := by show (lowL a.data.toList).toArray.size ≤ _; simp [lowL]; omega
    have HA := hid hA
    have HLA := hid (show dotL (⟨(lowL a.data.toList).toArray⟩ : ByteArray).data.toList = true by simpa [dotL_low] using hA)
    have hls : dotsL (⟨(lowL a.data.toList).toArray⟩ : ByteArray).data.toList = dotsL a.data.toList := by simp [dotsL_low]
    have HE := hid hE
    clear hE
    have hS := dot_not_dots hA
    have HS := hid hS
    have HLS := hid (hls.trans hS)
    have HLen := hid hk
    have l1 : ((a.size : Int) == 3) = true := by rw [hk]; rfl
    have l2 : ((a.size : Int) != 3) = false := by rw [hk]; rfl
    have l3 : ((a.size : Int) != 1) = true := by rw [hk]; rfl
    have l4 : ((a.size : Int) == 1) = false := by rw [hk]; rfl
    clear hA hls hS hk
    clear hlen
    go_enter Try.func6, Try.ntmps6
    go_wp2_with fail
    refine (recSmall_calls _).mono ?_
    rintro e w1 ⟨rfl, hb⟩
    have HB := hid hb
    clear hb
    go_upto_region 4 with (fail)
    (try simp only [List.append_eq, List.cons_append, List.nil_append])
    apply wp_region_lit
    iterate 1 (refine wpList_yes rfl ?_; intro K hK; go_simp; refine hK _ _ ?_; clear hK K)
    refine wpList_yes rfl ?_; intro K hK; go_simp; go_at_call 31
    refine (dot_const a true HA.out hs _).mono ?_
    rintro e w9 ⟨rfl, hb9⟩
    refine hK _ _ ?_
    clear hK K
    replace HB := hid (HB.out.trans (hb9.mono HB.out.size))
    clear hb9
    iterate 2 (refine wpList_yes rfl ?_; intro K hK; go_simp; refine hK _ _ ?_; clear hK K)
    refine wpList_yes rfl ?_; intro K hK; go_simp; go_at_call 31
    refine (dot_const b false HE.out hs2 _).mono ?_
    rintro e w9 ⟨rfl, hb9⟩
    refine hK _ _ ?_
    clear hK K
    replace HB := hid (HB.out.trans (hb9.mono HB.out.size))
    clear hb9
    iterate 2 (refine wpList_yes rfl ?_; intro K hK; go_simp; refine hK _ _ ?_; clear hK K)
    go_skip
    iterate 3 (refine wpList_yes rfl ?_; intro K hK; go_simp; refine hK _ _ ?_; clear hK K)
    refine wpList_yes rfl ?_; intro K hK; go_simp; go_at_call 31
    refine (dot_const a true HA.out hs _).mono ?_
    rintro e w9 ⟨rfl, hb9⟩
    refine hK _ _ ?_
    clear hK K
    replace HB := hid (HB.out.trans (hb9.mono HB.out.size))
    clear hb9
    iterate 2 (refine wpList_yes rfl ?_; intro K hK; go_simp; refine hK _ _ ?_; clear hK K)
    refine wpList_yes rfl ?_; intro K hK; go_simp; go_at_call 33
    refine (dots_const a _ HS.out hs _).mono ?_
    rintro e w9 ⟨rfl, hb9⟩
    refine hK _ _ ?_
    clear hK K
    replace HB := hid (HB.out.trans (hb9.mono HB.out.size))
    clear hb9
    iterate 4 (refine wpList_yes rfl ?_; intro K hK; go_simp; refine hK _ _ ?_; clear hK K)
    refine wpList_yes rfl ?_; intro K hK; go_simp; go_at_call 31
    refine (dot_const a true HA.out hs _).mono ?_
    rintro e w9 ⟨rfl, hb9⟩
    refine hK _ _ ?_
    clear hK K
    replace HB := hid (HB.out.trans (hb9.mono HB.out.size))
    clear hb9
    iterate 11 (refine wpList_yes rfl ?_; intro K hK; go_simp; refine hK _ _ ?_; clear hK K)
    apply wpList_nil
    go_upto_region 6 with (fail)
    (try simp only [List.append_eq, List.cons_append, List.nil_append])
    apply wp_region_lit
    iterate 3 (refine wpList_yes rfl ?_; intro K hK; go_simp; refine hK _ _ ?_; clear hK K)
    refine wpList_yes rfl ?_; intro K hK; go_simp; go_at_call 41
    refine (lower_calls a _ hs1).mono ?_
    rintro e w9 ⟨rfl, hb9⟩
    refine hK _ _ ?_
    clear hK K
    replace HB := hid (HB.out.trans (hb9.mono HB.out.size))
    clear hb9
    refine wpList_yes rfl ?_; intro K hK; go_simp; go_at_call 31
    refine (dot_const ⟨(lowL a.data.toList).toArray⟩ true HLA.out hlw _).mono ?_
    rintro e w9 ⟨rfl, hb9⟩
    refine hK _ _ ?_
    clear hK K
    replace HB := hid (HB.out.trans (hb9.mono HB.out.size))
    clear hb9
    iterate 1 (refine wpList_yes rfl ?_; intro K hK; go_simp; refine hK _ _ ?_; clear hK K)
    refine wpList_yes rfl ?_; intro K hK; go_simp; go_at_call 31
    refine (dot_const a true HA.out hs _).mono ?_
    rintro e w9 ⟨rfl, hb9⟩
    refine hK _ _ ?_
    clear hK K
    replace HB := hid (HB.out.trans (hb9.mono HB.out.size))
    clear hb9
    iterate 4 (refine wpList_yes rfl ?_; intro K hK; go_simp; refine hK _ _ ?_; clear hK K)
    refine wpList_yes rfl ?_; intro K hK; go_simp; go_at_call 41
    refine (lower_calls a _ hs1).mono ?_
    rintro e w9 ⟨rfl, hb9⟩
    refine hK _ _ ?_
    clear hK K
    replace HB := hid (HB.out.trans (hb9.mono HB.out.size))
    clear hb9
    refine wpList_yes rfl ?_; intro K hK; go_simp; go_at_call 33
    refine (dots_const ⟨(lowL a.data.toList).toArray⟩ _ HLS.out hlw _).mono ?_
    rintro e w9 ⟨rfl, hb9⟩
    refine hK _ _ ?_
    clear hK K
    replace HB := hid (HB.out.trans (hb9.mono HB.out.size))
    clear hb9
    iterate 1 (refine wpList_yes rfl ?_; intro K hK; go_simp; refine hK _ _ ?_; clear hK K)
    refine wpList_yes rfl ?_; intro K hK; go_simp; go_at_call 33
    refine (dots_const a _ HS.out hs _).mono ?_
    rintro e w9 ⟨rfl, hb9⟩
    refine hK _ _ ?_
    clear hK K
    replace HB := hid (HB.out.trans (hb9.mono HB.out.size))
    clear hb9
    iterate 4 (refine wpList_yes rfl ?_; intro K hK; go_simp; refine hK _ _ ?_; clear hK K)
    refine wpList_yes rfl ?_; intro K hK; go_simp; go_at_call 33
    refine (dots_const a _ HS.out hs _).mono ?_
    rintro e w9 ⟨rfl, hb9⟩
    refine hK _ _ ?_
    clear hK K
    replace HB := hid (HB.out.trans (hb9.mono HB.out.size))
    clear hb9
    iterate 2 (refine wpList_yes rfl ?_; intro K hK; go_simp; refine hK _ _ ?_; clear hK K)
    go_skip
    iterate 2 (refine wpList_yes rfl ?_; intro K hK; go_simp; refine hK _ _ ?_; clear hK K)
    go_skip
    iterate 3 (refine wpList_yes rfl ?_; intro K hK; go_simp; refine hK _ _ ?_; clear hK K)
    apply wpList_nil
    go_wp2_with fail
    go_ret
    exact ⟨rfl, HB.out⟩
set_option maxHeartbeats 8000000 in
set_option maxRecDepth 100000 in
theorem rdots_n (a b : ByteArray) (w : World) (ha : a.size ≤ 50) (hb0 : b.size ≤ 50) (hA : dotL a.data.toList = false) (hS : dotsL a.data.toList = false) :
    Calls Try.prog 6 #[.string a, .string b] w fun e w' => e = .returned (.bool true) ∧ Below w.heap.size w w' := by
    have hs : a.size ≤ 90000 := by omega
    have hs1 : a.size ≤ 100000 := by omega
    have hs2 : b.size ≤ 90000 := by omega
    have hab : (a ++ b).size ≤ 90000 := by simp; omega
    have hlen : a.data.toList.length = a.size := by simp
    have hlw : (⟨(lowL a.data.toList).toArray⟩ : ByteArray).size ≤ 90000 := by show (lowL a.data.toList).toArray.size ≤ _; simp [lowL]; omega
    have HA := hid hA
    have HLA := hid (show dotL (⟨(lowL a.data.toList).toArray⟩ : ByteArray).data.toList = false by simpa [dotL_low] using hA)
    have hls : dotsL (⟨(lowL a.data.toList).toArray⟩ : ByteArray).data.toList = dotsL a.data.toList := by simp [dotsL_low]
    have HS := hid hS
    have HLS := hid (hls.trans hS)
    clear hA hls hS
    clear hlen
    go_enter Try.func6, Try.ntmps6
    go_wp2_with fail
    refine (recSmall_calls _).mono ?_
    rintro e w1 ⟨rfl, hb⟩
    have HB := hid hb
    clear hb
    go_upto_region 4 with (fail)
    (try simp only [List.append_eq, List.cons_append, List.nil_append])
    apply wp_region_lit
    iterate 1 (refine wpList_yes rfl ?_; intro K hK; go_simp; refine hK _ _ ?_; clear hK K)
    refine wpList_yes rfl ?_; intro K hK; go_simp; go_at_call 31
    refine (dot_const a false HA.out hs _).mono ?_
    rintro e w9 ⟨rfl, hb9⟩
    refine hK _ _ ?_
    clear hK K
    replace HB := hid (HB.out.trans (hb9.mono HB.out.size))
    clear hb9
    iterate 1 (refine wpList_yes rfl ?_; intro K hK; go_simp; refine hK _ _ ?_; clear hK K)
    go_skip
    iterate 2 (refine wpList_yes rfl ?_; intro K hK; go_simp; refine hK _ _ ?_; clear hK K)
    go_skip
    iterate 3 (refine wpList_yes rfl ?_; intro K hK; go_simp; refine hK _ _ ?_; clear hK K)
    refine wpList_yes rfl ?_; intro K hK; go_simp; go_at_call 31
    refine (dot_const a false HA.out hs _).mono ?_
    rintro e w9 ⟨rfl, hb9⟩
    refine hK _ _ ?_
    clear hK K
    replace HB := hid (HB.out.trans (hb9.mono HB.out.size))
    clear hb9
    iterate 1 (refine wpList_yes rfl ?_; intro K hK; go_simp; refine hK _ _ ?_; clear hK K)
    go_skip
    iterate 4 (refine wpList_yes rfl ?_; intro K hK; go_simp; refine hK _ _ ?_; clear hK K)
    refine wpList_yes rfl ?_; intro K hK; go_simp; go_at_call 31
    refine (dot_const a false HA.out hs _).mono ?_
    rintro e w9 ⟨rfl, hb9⟩
    refine hK _ _ ?_
    clear hK K
    replace HB := hid (HB.out.trans (hb9.mono HB.out.size))
    clear hb9
    iterate 1 (refine wpList_yes rfl ?_; intro K hK; go_simp; refine hK _ _ ?_; clear hK K)
    go_skip
    iterate 2 (refine wpList_yes rfl ?_; intro K hK; go_simp; refine hK _ _ ?_; clear hK K)
    go_skip
    iterate 2 (refine wpList_yes rfl ?_; intro K hK; go_simp; refine hK _ _ ?_; clear hK K)
    apply wpList_nil
    go_upto_region 6 with (fail)
    (try simp only [List.append_eq, List.cons_append, List.nil_append])
    apply wp_region_lit
    iterate 3 (refine wpList_yes rfl ?_; intro K hK; go_simp; refine hK _ _ ?_; clear hK K)
    refine wpList_yes rfl ?_; intro K hK; go_simp; go_at_call 41
    refine (lower_calls a _ hs1).mono ?_
    rintro e w9 ⟨rfl, hb9⟩
    refine hK _ _ ?_
    clear hK K
    replace HB := hid (HB.out.trans (hb9.mono HB.out.size))
    clear hb9
    refine wpList_yes rfl ?_; intro K hK; go_simp; go_at_call 31
    refine (dot_const ⟨(lowL a.data.toList).toArray⟩ false HLA.out hlw _).mono ?_
    rintro e w9 ⟨rfl, hb9⟩
    refine hK _ _ ?_
    clear hK K
    replace HB := hid (HB.out.trans (hb9.mono HB.out.size))
    clear hb9
    iterate 1 (refine wpList_yes rfl ?_; intro K hK; go_simp; refine hK _ _ ?_; clear hK K)
    refine wpList_yes rfl ?_; intro K hK; go_simp; go_at_call 31
    refine (dot_const a false HA.out hs _).mono ?_
    rintro e w9 ⟨rfl, hb9⟩
    refine hK _ _ ?_
    clear hK K
    replace HB := hid (HB.out.trans (hb9.mono HB.out.size))
    clear hb9
    iterate 4 (refine wpList_yes rfl ?_; intro K hK; go_simp; refine hK _ _ ?_; clear hK K)
    refine wpList_yes rfl ?_; intro K hK; go_simp; go_at_call 41
    refine (lower_calls a _ hs1).mono ?_
    rintro e w9 ⟨rfl, hb9⟩
    refine hK _ _ ?_
    clear hK K
    replace HB := hid (HB.out.trans (hb9.mono HB.out.size))
    clear hb9
    refine wpList_yes rfl ?_; intro K hK; go_simp; go_at_call 33
    refine (dots_const ⟨(lowL a.data.toList).toArray⟩ _ HLS.out hlw _).mono ?_
    rintro e w9 ⟨rfl, hb9⟩
    refine hK _ _ ?_
    clear hK K
    replace HB := hid (HB.out.trans (hb9.mono HB.out.size))
    clear hb9
    iterate 1 (refine wpList_yes rfl ?_; intro K hK; go_simp; refine hK _ _ ?_; clear hK K)
    refine wpList_yes rfl ?_; intro K hK; go_simp; go_at_call 33
    refine (dots_const a _ HS.out hs _).mono ?_
    rintro e w9 ⟨rfl, hb9⟩
    refine hK _ _ ?_
    clear hK K
    replace HB := hid (HB.out.trans (hb9.mono HB.out.size))
    clear hb9
    iterate 4 (refine wpList_yes rfl ?_; intro K hK; go_simp; refine hK _ _ ?_; clear hK K)
    refine wpList_yes rfl ?_; intro K hK; go_simp; go_at_call 33
    refine (dots_const a _ HS.out hs _).mono ?_
    rintro e w9 ⟨rfl, hb9⟩
    refine hK _ _ ?_
    clear hK K
    replace HB := hid (HB.out.trans (hb9.mono HB.out.size))
    clear hb9
    iterate 2 (refine wpList_yes rfl ?_; intro K hK; go_simp; refine hK _ _ ?_; clear hK K)
    go_skip
    iterate 2 (refine wpList_yes rfl ?_; intro K hK; go_simp; refine hK _ _ ?_; clear hK K)
    go_skip
    iterate 3 (refine wpList_yes rfl ?_; intro K hK; go_simp; refine hK _ _ ?_; clear hK K)
    apply wpList_nil
    go_wp2_with fail
    go_ret
    exact ⟨rfl, HB.out⟩
set_option maxHeartbeats 8000000 in
set_option maxRecDepth 100000 in
theorem rdots_p1 (a b : ByteArray) (w : World) (ha : a.size ≤ 50) (hb0 : b.size ≤ 50) (hA : dotL a.data.toList = false) (hS : dotsL a.data.toList = true) (hl : 1 < a.size) (ht : dotL (a.data.toList.take 1) = true) (hd : dotL (a.data.toList.drop 1) = true) :
    Calls Try.prog 6 #[.string a, .string b] w fun e w' => e = .returned (.bool true) ∧ Below w.heap.size w w' := by
    have hs : a.size ≤ 90000 := by omega
    have hs1 : a.size ≤ 100000 := by omega
    have hs2 : b.size ≤ 90000 := by omega
    have hab : (a ++ b).size ≤ 90000 := by simp; omega
    have hlen : a.data.toList.length = a.size := by simp
    have hlw : (⟨(lowL a.data.toList).toArray⟩ : ByteArray).size ≤ 90000 := by show (lowL a.data.toList).toArray.size ≤ _; simp [lowL]; omega
    have HA := hid hA
    have HLA := hid (show dotL (⟨(lowL a.data.toList).toArray⟩ : ByteArray).data.toList = false by simpa [dotL_low] using hA)
    have hls : dotsL (⟨(lowL a.data.toList).toArray⟩ : ByteArray).data.toList = dotsL a.data.toList := by simp [dotsL_low]
    have HS := hid hS
    have HLS := hid (hls.trans hS)
    have b1 : 1 ≤ a.size := by omega
    have b5 : (1 : Int) ≤ (a.size : Int) := by omega
    have b2 : decide ((1 : Int) ≤ (a.size : Int)) = true := by simp; omega
    have HT1 := hid (show dotL (a.extract 0 1).data.toList = true by rw [ext_list]; simpa using ht)
    have ht1 : (a.extract 0 1).size ≤ 90000 := by simp; omega
    have HD1 := hid (show dotL (a.extract 1 a.size).data.toList = true by rw [ext_drop]; exact hd)
    have hd1 : (a.extract 1 a.size).size ≤ 90000 := by simp; omega
    clear hA hls hS ht hd
    clear hlen
    go_enter Try.func6, Try.ntmps6
    go_wp2_with fail
    refine (recSmall_calls _).mono ?_
    rintro e w1 ⟨rfl, hb⟩
    have HB := hid hb
    clear hb
    go_upto_region 4 with (fail)
    (try simp only [List.append_eq, List.cons_append, List.nil_append])
    apply wp_region_lit
    iterate 1 (refine wpList_yes rfl ?_; intro K hK; go_simp; refine hK _ _ ?_; clear hK K)
    refine wpList_yes rfl ?_; intro K hK; go_simp; go_at_call 31
    refine (dot_const a false HA.out hs _).mono ?_
    rintro e w9 ⟨rfl, hb9⟩
    refine hK _ _ ?_
    clear hK K
    replace HB := hid (HB.out.trans (hb9.mono HB.out.size))
    clear hb9
    iterate 1 (refine wpList_yes rfl ?_; intro K hK; go_simp; refine hK _ _ ?_; clear hK K)
    go_skip
    iterate 2 (refine wpList_yes rfl ?_; intro K hK; go_simp; refine hK _ _ ?_; clear hK K)
    go_skip
    iterate 3 (refine wpList_yes rfl ?_; intro K hK; go_simp; refine hK _ _ ?_; clear hK K)
    refine wpList_yes rfl ?_; intro K hK; go_simp; go_at_call 31
    refine (dot_const a false HA.out hs _).mono ?_
    rintro e w9 ⟨rfl, hb9⟩
    refine hK _ _ ?_
    clear hK K
    replace HB := hid (HB.out.trans (hb9.mono HB.out.size))
    clear hb9
    iterate 1 (refine wpList_yes rfl ?_; intro K hK; go_simp; refine hK _ _ ?_; clear hK K)
    go_skip
    iterate 4 (refine wpList_yes rfl ?_; intro K hK; go_simp; refine hK _ _ ?_; clear hK K)
    refine wpList_yes rfl ?_; intro K hK; go_simp; go_at_call 31
    refine (dot_const a false HA.out hs _).mono ?_
    rintro e w9 ⟨rfl, hb9⟩
    refine hK _ _ ?_
    clear hK K
    replace HB := hid (HB.out.trans (hb9.mono HB.out.size))
    clear hb9
    iterate 1 (refine wpList_yes rfl ?_; intro K hK; go_simp; refine hK _ _ ?_; clear hK K)
    go_skip
    iterate 2 (refine wpList_yes rfl ?_; intro K hK; go_simp; refine hK _ _ ?_; clear hK K)
    go_skip
    iterate 2 (refine wpList_yes rfl ?_; intro K hK; go_simp; refine hK _ _ ?_; clear hK K)
    apply wpList_nil
    go_upto_region 6 with (fail)
    (try simp only [List.append_eq, List.cons_append, List.nil_append])
    apply wp_region_lit
    iterate 3 (refine wpList_yes rfl ?_; intro K hK; go_simp; refine hK _ _ ?_; clear hK K)
    refine wpList_yes rfl ?_; intro K hK; go_simp; go_at_call 41
    refine (lower_calls a _ hs1).mono ?_
    rintro e w9 ⟨rfl, hb9⟩
    refine hK _ _ ?_
    clear hK K
    replace HB := hid (HB.out.trans (hb9.mono HB.out.size))
    clear hb9
    refine wpList_yes rfl ?_; intro K hK; go_simp; go_at_call 31
    refine (dot_const ⟨(lowL a.data.toList).toArray⟩ false HLA.out hlw _).mono ?_
    rintro e w9 ⟨rfl, hb9⟩
    refine hK _ _ ?_
    clear hK K
    replace HB := hid (HB.out.trans (hb9.mono HB.out.size))
    clear hb9
    iterate 1 (refine wpList_yes rfl ?_; intro K hK; go_simp; refine hK _ _ ?_; clear hK K)
    refine wpList_yes rfl ?_; intro K hK; go_simp; go_at_call 31
    refine (dot_const a false HA.out hs _).mono ?_
    rintro e w9 ⟨rfl, hb9⟩
    refine hK _ _ ?_
    clear hK K
    replace HB := hid (HB.out.trans (hb9.mono HB.out.size))
    clear hb9
    iterate 4 (refine wpList_yes rfl ?_; intro K hK; go_simp; refine hK _ _ ?_; clear hK K)
    refine wpList_yes rfl ?_; intro K hK; go_simp; go_at_call 41
    refine (lower_calls a _ hs1).mono ?_
    rintro e w9 ⟨rfl, hb9⟩
    refine hK _ _ ?_
    clear hK K
    replace HB := hid (HB.out.trans (hb9.mono HB.out.size))
    clear hb9
    refine wpList_yes rfl ?_; intro K hK; go_simp; go_at_call 33
    refine (dots_const ⟨(lowL a.data.toList).toArray⟩ _ HLS.out hlw _).mono ?_
    rintro e w9 ⟨rfl, hb9⟩
    refine hK _ _ ?_
    clear hK K
    replace HB := hid (HB.out.trans (hb9.mono HB.out.size))
    clear hb9
    iterate 1 (refine wpList_yes rfl ?_; intro K hK; go_simp; refine hK _ _ ?_; clear hK K)
    refine wpList_yes rfl ?_; intro K hK; go_simp; go_at_call 33
    refine (dots_const a _ HS.out hs _).mono ?_
    rintro e w9 ⟨rfl, hb9⟩
    refine hK _ _ ?_
    clear hK K
    replace HB := hid (HB.out.trans (hb9.mono HB.out.size))
    clear hb9
    iterate 4 (refine wpList_yes rfl ?_; intro K hK; go_simp; refine hK _ _ ?_; clear hK K)
    refine wpList_yes rfl ?_; intro K hK; go_simp; go_at_call 33
    refine (dots_const a _ HS.out hs _).mono ?_
    rintro e w9 ⟨rfl, hb9⟩
    refine hK _ _ ?_
    clear hK K
    replace HB := hid (HB.out.trans (hb9.mono HB.out.size))
    clear hb9
    iterate 8 (refine wpList_yes rfl ?_; intro K hK; go_simp; refine hK _ _ ?_; clear hK K)
    refine wpList_yes rfl ?_; intro K hK; go_simp; go_at_call 31
    refine (dot_const _ _ HT1.out ht1 _).mono ?_
    rintro e w9 ⟨rfl, hb9⟩
    refine hK _ _ ?_
    clear hK K
    replace HB := hid (HB.out.trans (hb9.mono HB.out.size))
    clear hb9
    iterate 4 (refine wpList_yes rfl ?_; intro K hK; go_simp; refine hK _ _ ?_; clear hK K)
    refine wpList_yes rfl ?_; intro K hK; go_simp; go_at_call 31
    refine (dot_const _ _ HD1.out hd1 _).mono ?_
    rintro e w9 ⟨rfl, hb9⟩
    refine hK _ _ ?_
    clear hK K
    replace HB := hid (HB.out.trans (hb9.mono HB.out.size))
    clear hb9
    iterate 3 (refine wpList_yes rfl ?_; intro K hK; go_simp; refine hK _ _ ?_; clear hK K)
    go_skip
    iterate 3 (refine wpList_yes rfl ?_; intro K hK; go_simp; refine hK _ _ ?_; clear hK K)
    apply wpList_nil
    go_wp2_with fail
    go_ret
    exact ⟨rfl, HB.out⟩
set_option maxHeartbeats 8000000 in
set_option maxRecDepth 100000 in
theorem rdots_p3 (a b : ByteArray) (w : World) (ha : a.size ≤ 50) (hb0 : b.size ≤ 50) (hA : dotL a.data.toList = false) (hS : dotsL a.data.toList = true) (hl : 3 < a.size) (ht : dotL (a.data.toList.take 1) = false) (ht3 : dotL (a.data.toList.take 3) = true) (hd : dotL (a.data.toList.drop 3) = true) :
    Calls Try.prog 6 #[.string a, .string b] w fun e w' => e = .returned (.bool true) ∧ Below w.heap.size w w' := by
    have hs : a.size ≤ 90000 := by omega
    have hs1 : a.size ≤ 100000 := by omega
    have hs2 : b.size ≤ 90000 := by omega
    have hab : (a ++ b).size ≤ 90000 := by simp; omega
    have hlen : a.data.toList.length = a.size := by simp
    have hlw : (⟨(lowL a.data.toList).toArray⟩ : ByteArray).size ≤ 90000 := by show (lowL a.data.toList).toArray.size ≤ _; simp [lowL]; omega
    have HA := hid hA
    have HLA := hid (show dotL (⟨(lowL a.data.toList).toArray⟩ : ByteArray).data.toList = false by simpa [dotL_low] using hA)
    have hls : dotsL (⟨(lowL a.data.toList).toArray⟩ : ByteArray).data.toList = dotsL a.data.toList := by simp [dotsL_low]
    have HS := hid hS
    have HLS := hid (hls.trans hS)
    have b1 : 1 ≤ a.size := by omega
    have b5 : (1 : Int) ≤ (a.size : Int) := by omega
    have b2 : decide ((1 : Int) ≤ (a.size : Int)) = true := by simp; omega
    have HT1 := hid (show dotL (a.extract 0 1).data.toList = false by rw [ext_list]; simpa using ht)
    have ht1 : (a.extract 0 1).size ≤ 90000 := by simp; omega
    have b3 : 3 ≤ a.size := by omega
    have b6 : (3 : Int) ≤ (a.size : Int) := by omega
    have b4 : decide ((3 : Int) ≤ (a.size : Int)) = true := by simp; omega
    have HT3 := hid (show dotL (a.extract 0 3).data.toList = true by rw [ext_list]; simpa using ht3)
    have HD3 := hid (show dotL (a.extract 3 a.size).data.toList = true by rw [ext_drop]; exact hd)
    have ht3' : (a.extract 0 3).size ≤ 90000 := by simp; omega
    have hd3 : (a.extract 3 a.size).size ≤ 90000 := by simp; omega
    clear hA hls hS ht ht3 hd
    have ht3 := ht3' 
    clear hlen
    go_enter Try.func6, Try.ntmps6
    go_wp2_with fail
    refine (recSmall_calls _).mono ?_
    rintro e w1 ⟨rfl, hb⟩
    have HB := hid hb
    clear hb
    go_upto_region 4 with (fail)
    (try simp only [List.append_eq, List.cons_append, List.nil_append])
    apply wp_region_lit
    iterate 1 (refine wpList_yes rfl ?_; intro K hK; go_simp; refine hK _ _ ?_; clear hK K)
    refine wpList_yes rfl ?_; intro K hK; go_simp; go_at_call 31
    refine (dot_const a false HA.out hs _).mono ?_
    rintro e w9 ⟨rfl, hb9⟩
    refine hK _ _ ?_
    clear hK K
    replace HB := hid (HB.out.trans (hb9.mono HB.out.size))
    clear hb9
    iterate 1 (refine wpList_yes rfl ?_; intro K hK; go_simp; refine hK _ _ ?_; clear hK K)
    go_skip
    iterate 2 (refine wpList_yes rfl ?_; intro K hK; go_simp; refine hK _ _ ?_; clear hK K)
    go_skip
    iterate 3 (refine wpList_yes rfl ?_; intro K hK; go_simp; refine hK _ _ ?_; clear hK K)
    refine wpList_yes rfl ?_; intro K hK; go_simp; go_at_call 31
    refine (dot_const a false HA.out hs _).mono ?_
    rintro e w9 ⟨rfl, hb9⟩
    refine hK _ _ ?_
    clear hK K
    replace HB := hid (HB.out.trans (hb9.mono HB.out.size))
    clear hb9
    iterate 1 (refine wpList_yes rfl ?_; intro K hK; go_simp; refine hK _ _ ?_; clear hK K)
    go_skip
    iterate 4 (refine wpList_yes rfl ?_; intro K hK; go_simp; refine hK _ _ ?_; clear hK K)
    refine wpList_yes rfl ?_; intro K hK; go_simp; go_at_call 31
    refine (dot_const a false HA.out hs _).mono ?_
    rintro e w9 ⟨rfl, hb9⟩
    refine hK _ _ ?_
    clear hK K
    replace HB := hid (HB.out.trans (hb9.mono HB.out.size))
    clear hb9
    iterate 1 (refine wpList_yes rfl ?_; intro K hK; go_simp; refine hK _ _ ?_; clear hK K)
    go_skip
    iterate 2 (refine wpList_yes rfl ?_; intro K hK; go_simp; refine hK _ _ ?_; clear hK K)
    go_skip
    iterate 2 (refine wpList_yes rfl ?_; intro K hK; go_simp; refine hK _ _ ?_; clear hK K)
    apply wpList_nil
    go_upto_region 6 with (fail)
    (try simp only [List.append_eq, List.cons_append, List.nil_append])
    apply wp_region_lit
    iterate 3 (refine wpList_yes rfl ?_; intro K hK; go_simp; refine hK _ _ ?_; clear hK K)
    refine wpList_yes rfl ?_; intro K hK; go_simp; go_at_call 41
    refine (lower_calls a _ hs1).mono ?_
    rintro e w9 ⟨rfl, hb9⟩
    refine hK _ _ ?_
    clear hK K
    replace HB := hid (HB.out.trans (hb9.mono HB.out.size))
    clear hb9
    refine wpList_yes rfl ?_; intro K hK; go_simp; go_at_call 31
    refine (dot_const ⟨(lowL a.data.toList).toArray⟩ false HLA.out hlw _).mono ?_
    rintro e w9 ⟨rfl, hb9⟩
    refine hK _ _ ?_
    clear hK K
    replace HB := hid (HB.out.trans (hb9.mono HB.out.size))
    clear hb9
    iterate 1 (refine wpList_yes rfl ?_; intro K hK; go_simp; refine hK _ _ ?_; clear hK K)
    refine wpList_yes rfl ?_; intro K hK; go_simp; go_at_call 31
    refine (dot_const a false HA.out hs _).mono ?_
    rintro e w9 ⟨rfl, hb9⟩
    refine hK _ _ ?_
    clear hK K
    replace HB := hid (HB.out.trans (hb9.mono HB.out.size))
    clear hb9
    iterate 4 (refine wpList_yes rfl ?_; intro K hK; go_simp; refine hK _ _ ?_; clear hK K)
    refine wpList_yes rfl ?_; intro K hK; go_simp; go_at_call 41
    refine (lower_calls a _ hs1).mono ?_
    rintro e w9 ⟨rfl, hb9⟩
    refine hK _ _ ?_
    clear hK K
    replace HB := hid (HB.out.trans (hb9.mono HB.out.size))
    clear hb9
    refine wpList_yes rfl ?_; intro K hK; go_simp; go_at_call 33
    refine (dots_const ⟨(lowL a.data.toList).toArray⟩ _ HLS.out hlw _).mono ?_
    rintro e w9 ⟨rfl, hb9⟩
    refine hK _ _ ?_
    clear hK K
    replace HB := hid (HB.out.trans (hb9.mono HB.out.size))
    clear hb9
    iterate 1 (refine wpList_yes rfl ?_; intro K hK; go_simp; refine hK _ _ ?_; clear hK K)
    refine wpList_yes rfl ?_; intro K hK; go_simp; go_at_call 33
    refine (dots_const a _ HS.out hs _).mono ?_
    rintro e w9 ⟨rfl, hb9⟩
    refine hK _ _ ?_
    clear hK K
    replace HB := hid (HB.out.trans (hb9.mono HB.out.size))
    clear hb9
    iterate 4 (refine wpList_yes rfl ?_; intro K hK; go_simp; refine hK _ _ ?_; clear hK K)
    refine wpList_yes rfl ?_; intro K hK; go_simp; go_at_call 33
    refine (dots_const a _ HS.out hs _).mono ?_
    rintro e w9 ⟨rfl, hb9⟩
    refine hK _ _ ?_
    clear hK K
    replace HB := hid (HB.out.trans (hb9.mono HB.out.size))
    clear hb9
    iterate 8 (refine wpList_yes rfl ?_; intro K hK; go_simp; refine hK _ _ ?_; clear hK K)
    refine wpList_yes rfl ?_; intro K hK; go_simp; go_at_call 31
    refine (dot_const _ _ HT1.out ht1 _).mono ?_
    rintro e w9 ⟨rfl, hb9⟩
    refine hK _ _ ?_
    clear hK K
    replace HB := hid (HB.out.trans (hb9.mono HB.out.size))
    clear hb9
    iterate 2 (refine wpList_yes rfl ?_; intro K hK; go_simp; refine hK _ _ ?_; clear hK K)
    go_skip
    iterate 9 (refine wpList_yes rfl ?_; intro K hK; go_simp; refine hK _ _ ?_; clear hK K)
    refine wpList_yes rfl ?_; intro K hK; go_simp; go_at_call 31
    refine (dot_const _ _ HT3.out ht3 _).mono ?_
    rintro e w9 ⟨rfl, hb9⟩
    refine hK _ _ ?_
    clear hK K
    replace HB := hid (HB.out.trans (hb9.mono HB.out.size))
    clear hb9
    iterate 4 (refine wpList_yes rfl ?_; intro K hK; go_simp; refine hK _ _ ?_; clear hK K)
    refine wpList_yes rfl ?_; intro K hK; go_simp; go_at_call 31
    refine (dot_const _ _ HD3.out hd3 _).mono ?_
    rintro e w9 ⟨rfl, hb9⟩
    refine hK _ _ ?_
    clear hK K
    replace HB := hid (HB.out.trans (hb9.mono HB.out.size))
    clear hb9
    iterate 4 (refine wpList_yes rfl ?_; intro K hK; go_simp; refine hK _ _ ?_; clear hK K)
    apply wpList_nil
    go_wp2_with fail
    go_ret
    exact ⟨rfl, HB.out⟩
set_option maxHeartbeats 8000000 in
theorem recDots_calls (a b : ByteArray) (w : World) (hma : a.size ≤ maxLen) (hmb : b.size ≤ maxLen) :
    Calls Try.prog 6 #[.string a, .string b] w fun e w' => e = .returned (.bool true) ∧ Below w.heap.size w w' := by
  have hlen : a.data.toList.length = a.size := by simp
  by_cases ha : a.size ≤ 50
  · by_cases hb : b.size ≤ 50
    · cases hA : dotL a.data.toList
      · cases hS : dotsL a.data.toList
        · exact rdots_n a b w ha hb hA hS
        · rcases dots_parts hS with ⟨h1, h2, h3⟩ | ⟨h1, h2, h3, h4⟩
          · exact rdots_p1 a b w ha hb hA hS (by omega) h2 h3
          · exact rdots_p3 a b w ha hb hA hS (by omega) h2 h3 h4
      · have hl := isDot_len (l := a.data.toList) (by rw [← dotL_eq]; exact hA)
        rw [hlen] at hl
        rcases hl with h | h
        · cases hE : dotL b.data.toList
          · exact rdots_1f a b w ha hb hA h hE
          · exact rdots_1t a b w ha hb hA h hE
        · cases hE : dotL b.data.toList
          · exact rdots_3f a b w ha hb hA h hE
          · exact rdots_3t a b w ha hb hA h hE
    · unfold maxLen at hma hmb
      go_enter Try.func6, Try.ntmps6
      go_wp2_with fail
      refine (recSmall_calls _).mono ?_
      rintro e w1 ⟨rfl, hb⟩
      go_wp2_with fail
      go_ret
      exact ⟨rfl, hb⟩
  · unfold maxLen at hma hmb
    go_enter Try.func6, Try.ntmps6
    go_wp2_with fail
    refine (recSmall_calls _).mono ?_
    rintro e w1 ⟨rfl, hb⟩
    go_wp2_with fail
    go_ret
    exact ⟨rfl, hb⟩
end Go.Proofs.Ytmkgjleojfggcaa
