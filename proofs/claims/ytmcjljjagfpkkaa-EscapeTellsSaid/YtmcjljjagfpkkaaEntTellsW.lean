/-
  The walks of EntityTells and EntityDecodes. Conditions: the arguments are as they can be handed over.
-/
import Derived.Test.YtmcjljjagfpkkaaEntRefDecode
set_option linter.all false
namespace Go.Proofs.Ytmcjljjagfpkkaa
open Go.RowKit
theorem refDecode_of (s x : ByteArray) (h : strB (decE s.data.toList) = x) (hs : s.size ≤ 20000) (w : World) :
    Calls Try.prog 19 #[.string s] w fun e w' => e = .returned (.string x) ∧ Below w.heap.size w w' := by
  subst h
  exact refDecode_calls s w hs
theorem i64_bd {n : Int} (h : (Lit.int .i64 n).wf = true) : -9223372036854775808 ≤ n ∧ n ≤ 9223372036854775807 := by
  simp [Lit.wf, IntKind.min, IntKind.max, IntKind.bits, IntKind.signed] at h
  omega
set_option maxHeartbeats 8000000 in
set_option maxRecDepth 100000 in
theorem entityTells_walk (s : ByteArray) (n : Int) (w : World) (hs : s.size ≤ maxLen) (hn : (Lit.int .i64 n).wf = true) :
    Calls Try.prog 3 #[.string s, .int .i64 n] w fun e w' => e = .returned (.bool true) ∧ Below w.heap.size w w' := by
  obtain ⟨n1, n2⟩ := i64_bd hn
  have HN1 := hid (fun w => number_calls n w n1 n2)
  have HN2 := hid (fun w => refNumber_calls n w)
  unfold maxLen at hs
  clear hn n1 n2
  go_enter Try.func3, Try.ntmps3
  go_wp2_with fail
  refine (entSmall_calls _).mono ?_
  rintro e w1 ⟨rfl, hb1⟩
  have HB := hid hb1
  clear hb1
  by_cases ha3 : s.size ≤ 100
  rotate_left
  · go_wp2_with fail
    go_ret
    exact ⟨rfl, HB.out⟩
  have A := hid (fun w => named_calls s w (by omega))
  have B := hid (fun w => refNamed_calls s w (by omega))
  unfold tellV at A B
  generalize (namedL s.data.toList).isSome = o at *
  generalize strB ((namedL s.data.toList).getD []) = x at *
  generalize strB (numberL n) = y at *
  cases o
  all_goals
    go_wp2_with fail
    refine (A.out _).mono ?_
    rintro e w2 ⟨rfl, hb2⟩
    have HB := hid (HB.out.trans (hb2.mono HB.out.size))
    clear hb2
    go_wp2_with fail
    refine (B.out _).mono ?_
    rintro e w3 ⟨rfl, hb3⟩
    have HB := hid (HB.out.trans (hb3.mono HB.out.size))
    clear hb3
    go_wp2_with fail
    refine (HN1.out _).mono ?_
    rintro e w4 ⟨rfl, hb4⟩
    have HB := hid (HB.out.trans (hb4.mono HB.out.size))
    clear hb4
    go_wp2_with fail
    refine (HN2.out _).mono ?_
    rintro e w5 ⟨rfl, hb5⟩
    have HB := hid (HB.out.trans (hb5.mono HB.out.size))
    clear hb5
    go_wp2_with fail
    go_ret
    exact ⟨rfl, HB.out⟩
set_option maxHeartbeats 8000000 in
set_option maxRecDepth 100000 in
theorem entityDecodes_walk (s : ByteArray) (w : World) (hs : s.size ≤ maxLen) :
    Calls Try.prog 4 #[.string s] w fun e w' => e = .returned (.bool true) ∧ Below w.heap.size w w' := by
  unfold maxLen at hs
  go_enter Try.func4, Try.ntmps4
  go_wp2_with fail
  refine (entSmall_calls _).mono ?_
  rintro e w1 ⟨rfl, hb1⟩
  have HB := hid hb1
  clear hb1
  by_cases ha3 : s.size ≤ 500
  rotate_left
  · go_wp2_with fail
    go_ret
    exact ⟨rfl, HB.out⟩
  have A := hid (fun w => decode_of s _ rfl (by omega) w)
  have B := hid (fun w => refDecode_of s _ rfl (by omega) w)
  have hz := decE_size s
  have hd : decide ((strB (decE s.data.toList)).size ≤ s.size) = true := decide_eq_true hz
  generalize strB (decE s.data.toList) = x at *
  go_wp2_with fail
  refine (A.out _).mono ?_
  rintro e w2 ⟨rfl, hb2⟩
  have HB := hid (HB.out.trans (hb2.mono HB.out.size))
  clear hb2
  go_wp2_with fail
  refine (B.out _).mono ?_
  rintro e w3 ⟨rfl, hb3⟩
  have HB := hid (HB.out.trans (hb3.mono HB.out.size))
  clear hb3
  go_wp2_with fail
  go_ret
  exact ⟨rfl, HB.out⟩
end Go.Proofs.Ytmcjljjagfpkkaa
