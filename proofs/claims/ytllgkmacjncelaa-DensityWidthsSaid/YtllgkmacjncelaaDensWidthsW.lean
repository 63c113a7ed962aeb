/-
  The walk of DensityWidths. Conditions: none but what the theorem says.
-/
import Derived.Test.YtllgkmacjncelaaDensSmall
import Derived.Test.YtllgkmacjncelaaRoundDiv2
set_option linter.all false
namespace Go.Proofs.Ytllgkmacjncelaa
open Go.RowKit
set_option maxHeartbeats 4000000 in
set_option maxRecDepth 4000 in
theorem widths_calls (a b : Int) (s t : Nat) (w : World) (ha : a < 2 ^ 63) (hb63 : b < 2 ^ 63) (hs64 : s < 2 ^ 64) (ht64 : t < 2 ^ 64) :
    Calls Try.prog 7 #[.int .i64 a, .int .i64 b, .float .f64 s, .float .f64 t] w fun e w' => e = .returned (.bool true) ∧ Below w.heap.size w w' := by
  have o1 := ord_lt
  have o2 := ord_gt
  have o3 := ord_eq
  have o4 := ord_ge
  have o5 := ord_le
  by_cases h1 : 0 ≤ a
  · by_cases h2 : a ≤ b
    · cases h3 : fGe s 0
      · go_enter Try.func7, Try.ntmps7
        go_wp2_with fail
        refine (densSmall_calls _).mono ?_
        rintro e w1 ⟨rfl, hb⟩
        go_wp2_with fail
        go_ret
        exact ⟨rfl, hb⟩
      · cases h4 : fGe t s
        · go_enter Try.func7, Try.ntmps7
          go_wp2_with fail
          refine (densSmall_calls _).mono ?_
          rintro e w1 ⟨rfl, hb⟩
          go_wp2_with fail
          go_ret
          exact ⟨rfl, hb⟩
        · have hlaw := widths_law a b s t h1 h2 hb63 hs64 ht64 h3 h4
          have dt : fGe t 0 = true := by
            have h0' : fNaN 0 = false := by decide +kernel
            have r0 : rk 0 = 0 := by decide +kernel
            have h3' := h3
            have h4' := h4
            rw [fGe_eq, h0', r0] at h3'
            rw [fGe_eq] at h4' ⊢
            rw [h0', r0]
            cases e1 : fNaN t
            · cases e2 : fNaN s
              · rw [e2] at h3' h4'
                rw [e1] at h4'
                have k1 : 0 ≤ rk s := by simpa using h3'
                have k2 : rk s ≤ rk t := by simpa using h4'
                simp; omega
              · rw [e2] at h3'; simp at h3'
            · rw [e1] at h4'; simp at h4'
          have d1 := fun (h : fEq s 0 = false) => of_div a s h1 ha hs64 h3 h
          have d2 := fun (h : fEq s 0 = false) => of_div b s (by omega) hb63 hs64 h3 h
          have d3 := fun (h : fEq t 0 = false) => of_div b t (by omega) hb63 ht64 dt h
          have D := hid (And.intro d1 (And.intro d2 d3))
          clear d1 d2 d3 dt
          have f5 := fl_5
          obtain ⟨x, hx⟩ : ∃ x, ofF false 0 true a s = x := ⟨_, rfl⟩
          obtain ⟨y, hy⟩ : ∃ y, ofF false 0 true b s = y := ⟨_, rfl⟩
          obtain ⟨z, hz⟩ : ∃ z, ofF false 0 true b t = z := ⟨_, rfl⟩
          rw [hx, hy, hz] at hlaw
          obtain ⟨l1, l2, l3⟩ := hlaw
          have HX := hid hx
          have HY := hid hy
          have HZ := hid hz
          clear hx hy hz
          go_enter Try.func7, Try.ntmps7
          go_wp2_with fail
          refine (densSmall_calls _).mono ?_
          rintro e w1 ⟨rfl, hb⟩
          go_wp2_with fail
          refine (of_const _ _ _ _ _ _ HX.out (fun _ _ _ _ h => D.out.1 h) _).mono ?_
          rintro e w2 ⟨rfl, hb2⟩
          have hb := hb.trans (hb2.mono hb.size)
          clear hb2
          go_wp2_with fail
          refine (of_const _ _ _ _ _ _ HY.out (fun _ _ _ _ h => D.out.2.1 h) _).mono ?_
          rintro e w3 ⟨rfl, hb2⟩
          have hb := hb.trans (hb2.mono hb.size)
          clear hb2
          go_wp2_with fail
          refine (of_const _ _ _ _ _ _ HZ.out (fun _ _ _ _ h => D.out.2.2 h) _).mono ?_
          rintro e w4 ⟨rfl, hb2⟩
          have hb := hb.trans (hb2.mono hb.size)
          clear hb2
          go_wp2_with fail
          refine (of_const false 0 false a s 4607182418800017408 rfl (fun _ h => by cases h) _).mono ?_
          rintro e w5 ⟨rfl, hb2⟩
          have hb := hb.trans (hb2.mono hb.size)
          clear hb2
          go_wp2_with fail
          go_ret
          exact ⟨rfl, hb⟩
    · go_enter Try.func7, Try.ntmps7
      go_wp2_with fail
      refine (densSmall_calls _).mono ?_
      rintro e w1 ⟨rfl, hb⟩
      go_wp2_with fail
      go_ret
      exact ⟨rfl, hb⟩
  · go_enter Try.func7, Try.ntmps7
    go_wp2_with fail
    refine (densSmall_calls _).mono ?_
    rintro e w1 ⟨rfl, hb⟩
    go_wp2_with fail
    go_ret
    exact ⟨rfl, hb⟩
end Go.Proofs.Ytllgkmacjncelaa
