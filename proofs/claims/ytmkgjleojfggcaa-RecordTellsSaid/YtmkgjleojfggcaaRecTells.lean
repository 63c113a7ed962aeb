/-
  The walk of RecordTells. Conditions: none.
-/
import Derived.Test.YtmkgjleojfggcaaRecSmall2
set_option linter.all false
namespace Go.Proofs.Ytmkgjleojfggcaa
open Go.RowKit
theorem refDotL_calls (s : ByteArray) (w : World) :
    Calls Try.prog 32 #[.string s] w fun e w' => e = .returned (.bool (dotL s.data.toList)) ∧ w = w' := by
  rw [dotL_eq]
  exact refDot_calls s w
set_option maxHeartbeats 8000000 in
set_option maxRecDepth 100000 in
theorem recTells_calls (s : ByteArray) (w : World) (hm : s.size ≤ maxLen) :
    Calls Try.prog 3 #[.string s] w fun e w' => e = .returned (.bool true) ∧ Below w.heap.size w w' := by
  by_cases hl : s.size ≤ 100
  · have hs : s.size ≤ 90000 := by omega
    go_enter Try.func3, Try.ntmps3
    go_wp2_with fail
    refine (recSmall_calls _).mono ?_
    rintro e w1 ⟨rfl, hb⟩
    have HB := hid hb
    clear hb
    go_wp2_with fail
    refine (port_calls s _).mono ?_; rintro e w2 ⟨rfl, rfl⟩; go_wp2_with fail
    refine (refPort_calls s _).mono ?_; rintro e w2 ⟨rfl, rfl⟩
    go_upto_region 6 with (fail)
    (try simp only [List.append_eq, List.cons_append, List.nil_append])
    apply wp_region_lit
    iterate 13 (refine wpList_yes rfl ?_; intro K hK; go_simp; refine hK _ _ ?_; clear hK K)
    refine wpList_yes rfl ?_; intro K hK; go_simp; go_at_call 23
    refine (special_calls s _).mono ?_
    rintro e w9 ⟨rfl, rfl⟩
    refine hK _ _ ?_
    clear hK K
    iterate 1 (refine wpList_yes rfl ?_; intro K hK; go_simp; refine hK _ _ ?_; clear hK K)
    refine wpList_yes rfl ?_; intro K hK; go_simp; go_at_call 24
    refine (refSpecial_calls s _).mono ?_
    rintro e w9 ⟨rfl, rfl⟩
    refine hK _ _ ?_
    clear hK K
    iterate 4 (refine wpList_yes rfl ?_; intro K hK; go_simp; refine hK _ _ ?_; clear hK K)
    refine wpList_yes rfl ?_; intro K hK; go_simp; go_at_call 25
    refine (drive_calls s _).mono ?_
    rintro e w9 ⟨rfl, rfl⟩
    refine hK _ _ ?_
    clear hK K
    iterate 1 (refine wpList_yes rfl ?_; intro K hK; go_simp; refine hK _ _ ?_; clear hK K)
    refine wpList_yes rfl ?_; intro K hK; go_simp; go_at_call 26
    refine (refDrive_calls s _).mono ?_
    rintro e w9 ⟨rfl, rfl⟩
    refine hK _ _ ?_
    clear hK K
    iterate 4 (refine wpList_yes rfl ?_; intro K hK; go_simp; refine hK _ _ ?_; clear hK K)
    refine wpList_yes rfl ?_; intro K hK; go_simp; go_at_call 27
    refine (normal_calls s _).mono ?_
    rintro e w9 ⟨rfl, rfl⟩
    refine hK _ _ ?_
    clear hK K
    iterate 1 (refine wpList_yes rfl ?_; intro K hK; go_simp; refine hK _ _ ?_; clear hK K)
    refine wpList_yes rfl ?_; intro K hK; go_simp; go_at_call 28
    refine (refNormal_calls s _).mono ?_
    rintro e w9 ⟨rfl, rfl⟩
    refine hK _ _ ?_
    clear hK K
    iterate 4 (refine wpList_yes rfl ?_; intro K hK; go_simp; refine hK _ _ ?_; clear hK K)
    refine wpList_yes rfl ?_; intro K hK; go_simp; go_at_call 29
    refine (starts_calls s _).mono ?_
    rintro e w9 ⟨rfl, rfl⟩
    refine hK _ _ ?_
    clear hK K
    iterate 1 (refine wpList_yes rfl ?_; intro K hK; go_simp; refine hK _ _ ?_; clear hK K)
    refine wpList_yes rfl ?_; intro K hK; go_simp; go_at_call 30
    refine (refStarts_calls s _).mono ?_
    rintro e w9 ⟨rfl, rfl⟩
    refine hK _ _ ?_
    clear hK K
    iterate 4 (refine wpList_yes rfl ?_; intro K hK; go_simp; refine hK _ _ ?_; clear hK K)
    refine wpList_yes rfl ?_; intro K hK; go_simp; go_at_call 31
    refine (dot_calls s _ hs).mono ?_
    rintro e w9 ⟨rfl, hb9⟩
    refine hK _ _ ?_
    clear hK K
    replace HB := hid (HB.out.trans (hb9.mono HB.out.size))
    clear hb9
    iterate 1 (refine wpList_yes rfl ?_; intro K hK; go_simp; refine hK _ _ ?_; clear hK K)
    refine wpList_yes rfl ?_; intro K hK; go_simp; go_at_call 32
    refine (refDotL_calls s _).mono ?_
    rintro e w9 ⟨rfl, rfl⟩
    refine hK _ _ ?_
    clear hK K
    iterate 4 (refine wpList_yes rfl ?_; intro K hK; go_simp; refine hK _ _ ?_; clear hK K)
    refine wpList_yes rfl ?_; intro K hK; go_simp; go_at_call 33
    refine (dots_calls s _ hs).mono ?_
    rintro e w9 ⟨rfl, hb9⟩
    refine hK _ _ ?_
    clear hK K
    replace HB := hid (HB.out.trans (hb9.mono HB.out.size))
    clear hb9
    iterate 1 (refine wpList_yes rfl ?_; intro K hK; go_simp; refine hK _ _ ?_; clear hK K)
    refine wpList_yes rfl ?_; intro K hK; go_simp; go_at_call 34
    refine (refDots_calls s _ hs).mono ?_
    rintro e w9 ⟨rfl, rfl⟩
    refine hK _ _ ?_
    clear hK K
    iterate 3 (refine wpList_yes rfl ?_; intro K hK; go_simp; refine hK _ _ ?_; clear hK K)
    apply wpList_nil
    go_wp2_with fail
    go_ret
    exact ⟨rfl, HB.out⟩
  · unfold maxLen at hm
    go_enter Try.func3, Try.ntmps3
    go_wp2_with fail
    refine (recSmall_calls _).mono ?_
    rintro e w1 ⟨rfl, hb⟩
    go_wp2_with fail
    go_ret
    exact ⟨rfl, hb⟩
end Go.Proofs.Ytmkgjleojfggcaa
