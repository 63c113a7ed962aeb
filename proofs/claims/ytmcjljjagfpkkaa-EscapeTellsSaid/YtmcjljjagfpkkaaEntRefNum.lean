/-
  The contract of the document's Number. Conditions: the number is one of 64 bits.
-/
import Derived.Test.YtmcjljjagfpkkaaEntNumber
set_option linter.all false
namespace Go.Proofs.Ytmcjljjagfpkkaa
open Go.RowKit
set_option maxHeartbeats 4000000 in
set_option maxRecDepth 100000 in
theorem refNumber_calls (n : Int) (w : World) :
    Calls Try.prog 17 #[.int .i64 n] w fun e w' => e = .returned (.string (strB (numberL n))) ∧ Below w.heap.size w w' := by
  unfold numberL
  by_cases h0 : n = 0
  · subst h0
    rw [if_pos rfl, sigL_str]
    go_enter Try.func17, Try.ntmps17
    go_wp2_with fail
    refine (refSign_calls 65533 w).mono ?_
    rintro e w1 ⟨rfl, hb1⟩
    have HB := hid hb1
    clear hb1
    go_wp2_with fail
    go_ret
    exact ⟨rfl, HB.out⟩
  · rw [if_neg h0, sigL_str]
    have d0 : (n == 0) = false := by rw [beq_eq_false_iff_ne]; exact h0
    by_cases h1 : 128 ≤ n
    · by_cases h2 : n ≤ 159
      · obtain ⟨j, hj⟩ : ∃ j : Nat, n = (j : Int) + 128 := ⟨(n - 128).toNat, by omega⟩
        subst hj
        have hs : shownL ((j : Int) + 128) = showsL.getD j 0 := by
          unfold shownL
          rw [if_pos ⟨h1, h2⟩]
          congr 1
          omega
        have hj32 : j < 32 := by omega
        have hW : IntKind.i64.wrap ((j : Int) + 128 - 128) = (j : Int) := by rw [IntWalk.i64_in _ (by omega)]; omega
        have hW2 : (j : Int) + 128 - 128 = (j : Int) := by omega
        have d1 : decide ((128 : Int) ≤ (j : Int) + 128) = true := decide_eq_true h1
        have d2 : decide ((j : Int) + 128 ≤ 159) = true := decide_eq_true h2
        rw [hs]
        clear h1 h2 hs h0
        go_enter Try.func17, Try.ntmps17
        go_upto_region 4 with (fail)
        apply wp_region_lit
        refine wpList_yes rfl ?_; intro K hK; go_simp; refine hK _ _ ?_; clear hK K
        refine wpList_yes rfl ?_; intro K hK; go_simp; refine hK _ _ ?_; clear hK K
        apply wpList_nil
        have hcell := (World.cell?_alloc_mark w showTab 3 (0, 0) j).trans (showTab_get j hj32)
        have HB := hid (alloc_belowE w (.cells showTab 3))
        unfold showTab at hcell HB
        generalize w.alloc (.cells #[.int .i64 8364, .int .i64 129, .int .i64 8218, .int .i64 402, .int .i64 8222, .int .i64 8230, .int .i64 8224, .int .i64 8225, .int .i64 710, .int .i64 8240, .int .i64 352, .int .i64 8249, .int .i64 338, .int .i64 141, .int .i64 381, .int .i64 143, .int .i64 144, .int .i64 8216, .int .i64 8217, .int .i64 8220, .int .i64 8221, .int .i64 8226, .int .i64 8211, .int .i64 8212, .int .i64 732, .int .i64 8482, .int .i64 353, .int .i64 8250, .int .i64 339, .int .i64 157, .int .i64 382, .int .i64 376] 3) = w1 at *
        go_wp2_with fail
        refine (refSign_calls _ w1).mono ?_
        rintro e w2 ⟨rfl, hb2⟩
        have HB := hid (HB.out.trans (hb2.mono HB.out.size))
        clear hb2
        go_wp2_with fail
        go_ret
        exact ⟨rfl, HB.out⟩
      · have hs : shownL n = n := by unfold shownL; rw [if_neg (by omega)]
        have d1 : decide (128 ≤ n) = true := decide_eq_true h1
        have d2 : decide (n ≤ 159) = false := decide_eq_false h2
        rw [hs]
        clear h1 h2 hs h0
        go_enter Try.func17, Try.ntmps17
        go_wp2_with fail
        refine (refSign_calls n w).mono ?_
        rintro e w1 ⟨rfl, hb1⟩
        have HB := hid hb1
        clear hb1
        go_wp2_with fail
        go_ret
        exact ⟨rfl, HB.out⟩
    · have hs : shownL n = n := by unfold shownL; rw [if_neg (by omega)]
      have d1 : decide (128 ≤ n) = false := decide_eq_false h1
      rw [hs]
      clear h1 hs h0
      go_enter Try.func17, Try.ntmps17
      go_wp2_with fail
      refine (refSign_calls n w).mono ?_
      rintro e w1 ⟨rfl, hb1⟩
      have HB := hid hb1
      clear hb1
      go_wp2_with fail
      go_ret
      exact ⟨rfl, HB.out⟩
end Go.Proofs.Ytmcjljjagfpkkaa
