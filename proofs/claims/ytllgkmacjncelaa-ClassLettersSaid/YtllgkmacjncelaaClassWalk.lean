/-
  The walks of the small cases and of ClassKinds: they return true. Conditions: none but that texts are texts.
-/
import Derived.Test.YtllgkmacjncelaaRefKind
set_option linter.all false
namespace Go.Proofs.Ytllgkmacjncelaa
open Go.RowKit

theorem kind_const (a b : List UInt8) (w : World) (v : Int) (h : kindOf (lowL a) (lowL b) = v) (ha : a.length ≤ 1000) (hb : b.length ≤ 1000) :
    Calls Try.prog 10 #[.string ⟨a.toArray⟩, .string ⟨b.toArray⟩] w fun e w' => e = .returned (.int .i64 v) ∧ Below w.heap.size w w' := by
  refine (kind_calls ⟨a.toArray⟩ ⟨b.toArray⟩ w (by show a.toArray.size ≤ _; simp; omega) (by show b.toArray.size ≤ _; simp; omega)).mono ?_
  rintro e w' ⟨rfl, hb⟩
  refine ⟨?_, hb⟩
  simp [h]

theorem small_calls (w : World) : Calls Try.prog 9 #[] w fun e w' => e = .returned (.bool true) ∧ Below w.heap.size w w' := by
  go_enter Try.func9, Try.ntmps9
  go_wp2_with fail
  refine (kind_const _ _ _ 2 (by decide +kernel) (by decide) (by decide)).mono ?_
  rintro e w1 ⟨rfl, h1⟩
  go_wp2_with fail
  refine (kind_const _ _ _ 1 (by decide +kernel) (by decide) (by decide)).mono ?_
  rintro e w2 ⟨rfl, h2⟩
  have h2 := h1.trans (h2.mono h1.size)
  clear h1
  go_wp2_with fail
  refine (kind_const _ _ _ 3 (by decide +kernel) (by decide) (by decide)).mono ?_
  rintro e w3 ⟨rfl, h3⟩
  have h3 := h2.trans (h3.mono h2.size)
  clear h2
  go_wp2_with fail
  refine (kind_const _ _ _ 0 (by decide +kernel) (by decide) (by decide)).mono ?_
  rintro e w4 ⟨rfl, h4⟩
  have h4 := h3.trans (h4.mono h3.size)
  clear h3
  go_wp2_with fail
  refine (kind_const _ _ _ 0 (by decide +kernel) (by decide) (by decide)).mono ?_
  rintro e w5 ⟨rfl, h5⟩
  have h5 := h4.trans (h5.mono h4.size)
  clear h4
  go_wp2
  go_ret
  exact ⟨rfl, h5⟩

theorem classKinds_walk (s t : ByteArray) (w : World) (hs : s.size ≤ maxLen) (ht : t.size ≤ maxLen) :
    Calls Try.prog 3 #[.string s, .string t] w fun e w' => e = .returned (.bool true) ∧ Below w.heap.size w w' := by
  unfold maxLen at hs ht
  by_cases h1 : 50 < s.size
  · go_enter Try.func3, Try.ntmps3
    go_wp2_with fail
    refine (small_calls _).mono ?_
    rintro e w1 ⟨rfl, hb1⟩
    go_wp2
    go_ret
    exact ⟨rfl, hb1⟩
  · by_cases h2 : 50 < t.size
    · go_enter Try.func3, Try.ntmps3
      go_wp2_with fail
      refine (small_calls _).mono ?_
      rintro e w1 ⟨rfl, hb1⟩
      go_wp2
      go_ret
      exact ⟨rfl, hb1⟩
    · go_enter Try.func3, Try.ntmps3
      go_wp2_with fail
      refine (small_calls _).mono ?_
      rintro e w1 ⟨rfl, hb1⟩
      go_wp2_with fail
      refine (kind_calls s t _ (by omega) (by omega)).mono ?_
      rintro e w2 ⟨rfl, hb2⟩
      have hb2 := hb1.trans (hb2.mono hb1.size)
      clear hb1
      go_wp2_with fail
      refine (refKind_calls s t _ (by omega) (by omega)).mono ?_
      rintro e w3 ⟨rfl, hb3⟩
      have hb3 := hb2.trans (hb3.mono hb2.size)
      clear hb2
      go_wp2
      go_ret
      exact ⟨by simp, hb3⟩
end Go.Proofs.Ytllgkmacjncelaa
