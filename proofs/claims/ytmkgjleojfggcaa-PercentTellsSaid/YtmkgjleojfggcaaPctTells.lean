/-
  The walks of layer 3's small cases and of PercentTells. Conditions: none but that the text is one.
-/
import Derived.Test.YtmkgjleojfggcaaRefPctEnc
import Derived.Test.YtmkgjleojfggcaaRefPctDec
set_option linter.all false
namespace Go.Proofs.Ytmkgjleojfggcaa
open Go.RowKit

theorem below_then {w a b : World} (h : Below w.heap.size w a) (k : Below a.heap.size a b) : Below w.heap.size w b := h.trans (k.mono h.size)

theorem in_const (set : Int) (n : Int) (c : UInt8) (b : Bool) (hn : n = (c.toNat : Int)) (h : inSet set c = b) (w : World) :
    Calls Try.prog 43 #[.int .i64 set, .int .u8 n] w fun e w' => e = .returned (.bool b) ∧ w = w' := by
  subst hn h
  exact in_calls set c w

set_option maxHeartbeats 1000000 in
theorem pctSmall_calls (w : World) : Calls Try.prog 42 #[] w fun e w' => e = .returned (.bool true) ∧ Below w.heap.size w w' := by
  have he : encL 4 [97, 32, 195, 164, 37] = [97, 37, 50, 48, 37, 67, 51, 37, 65, 52, 37] := by decide +kernel
  have hd : decL [37, 50, 53, 52, 49, 37, 52, 37, 122, 122, 37, 97, 65] = [37, 52, 49, 37, 52, 37, 122, 122, 170] := by decide +kernel
  have HE := hid he
  have HD := hid hd
  clear he hd
  go_enter Try.func42, Try.ntmps42
  go_wp2_with fail
  refine (in_const 0 _ 127 true rfl (by decide +kernel) _).mono ?_; rintro e w1 ⟨rfl, rfl⟩; go_wp2_with fail
  refine (in_const 0 _ 32 false rfl (by decide +kernel) _).mono ?_; rintro e w1 ⟨rfl, rfl⟩; go_wp2_with fail
  refine (in_const 1 _ 96 true rfl (by decide +kernel) _).mono ?_; rintro e w1 ⟨rfl, rfl⟩; go_wp2_with fail
  refine (in_const 2 _ 96 false rfl (by decide +kernel) _).mono ?_; rintro e w1 ⟨rfl, rfl⟩; go_wp2_with fail
  refine (in_const 2 _ 35 true rfl (by decide +kernel) _).mono ?_; rintro e w1 ⟨rfl, rfl⟩; go_wp2_with fail
  refine (in_const 3 _ 39 true rfl (by decide +kernel) _).mono ?_; rintro e w1 ⟨rfl, rfl⟩; go_wp2_with fail
  refine (in_const 4 _ 39 false rfl (by decide +kernel) _).mono ?_; rintro e w1 ⟨rfl, rfl⟩; go_wp2_with fail
  refine (in_const 4 _ 94 true rfl (by decide +kernel) _).mono ?_; rintro e w1 ⟨rfl, rfl⟩; go_wp2_with fail
  refine (in_const 5 _ 124 true rfl (by decide +kernel) _).mono ?_; rintro e w1 ⟨rfl, rfl⟩; go_wp2_with fail
  refine (in_const 6 _ 37 true rfl (by decide +kernel) _).mono ?_; rintro e w1 ⟨rfl, rfl⟩; go_wp2_with fail
  refine (in_const 7 _ 32 false rfl (by decide +kernel) _).mono ?_; rintro e w1 ⟨rfl, rfl⟩; go_wp2_with fail
  refine (encode_calls _ 4 _ (by decide)).mono ?_
  rintro e w2 ⟨rfl, hb2⟩
  simp only []
  rw [HE.out]
  go_wp2_with fail
  refine (decode_calls _ _ (by decide)).mono ?_
  rintro e w3 ⟨v, rfl, ho, hb3⟩
  simp only [] at ho
  rw [HD.out] at ho
  have hb3 := hb2.trans (hb3.mono hb2.size)
  have hc := run_string_own ho
  go_wp2_with fail
  go_ret
  exact ⟨rfl, hb3⟩

set_option maxHeartbeats 4000000 in
theorem percentTells_core (set : Int) (c : UInt8) (s : ByteArray) (w : World) (hs : s.size ≤ 1000) :
    Calls Try.prog 8 #[.int .i64 set, .int .u8 (c.toNat : Int), .string s] w fun e w' => e = .returned (.bool true) ∧ Below w.heap.size w w' := by
  have hs5 : s.size ≤ 5000 := by omega
  have hs6 : s.size ≤ 100000 := by omega
  go_enter Try.func8, Try.ntmps8
  go_wp2_with fail
  refine (pctSmall_calls _).mono ?_
  rintro e w1 ⟨rfl, hb1⟩
  go_wp2_with fail
  clear hs
  go_region_law (first
    | (go_simp; go_at_call 43; refine (in_calls _ _ _).mono ?_; rintro e w2 ⟨rfl, rfl⟩)
    | (go_simp; go_at_call 44; refine (refIn_calls _ _ _).mono ?_; rintro e w2 ⟨rfl, rfl⟩)
    | (go_simp; go_at_call 45; refine (encode_calls _ _ _ hs5).mono ?_; rintro e w2 ⟨rfl, hb2⟩)
    | (go_simp; go_at_call 46; refine (refEncode_calls _ _ _ hs5).mono ?_; rintro e w3 ⟨rfl, hb3⟩)
    | (go_simp; go_at_call 47; refine (decode_calls _ _ hs6).mono ?_; rintro e w4 ⟨v4, rfl, ho4, hb4⟩; have hd4 := run_string_own ho4)
    | (go_simp; go_at_call 48; refine (refDecode_calls _ _ hs6).mono ?_; rintro e w5 ⟨v5, rfl, ho5, hb5⟩; have hd5 := run_string_own ho5; have hd4' := run_string_own (ho4.below hb5)))
  all_goals
    have hbe := below_then (below_then (below_then (below_then hb1.drew hb2) hb3) hb4) hb5
    go_wp2_with fail
    go_ret
    exact ⟨rfl, hbe⟩

theorem percentTells_walk (set : Int) (n : Int) (s : ByteArray) (w : World) (_hset : (Lit.int .i64 set).wf = true) (hn : (Lit.int .u8 n).wf = true) (hs : s.size ≤ maxLen) :
    Calls Try.prog 8 #[.int .i64 set, .int .u8 n, .string s] w fun e w' => e = .returned (.bool true) ∧ Below w.heap.size w w' := by
  obtain ⟨c, rfl⟩ := u8_of hn
  unfold maxLen at hs
  by_cases h1 : 1000 < s.size
  · go_enter Try.func8, Try.ntmps8
    go_wp2_with fail
    refine (pctSmall_calls _).mono ?_
    rintro e w1 ⟨rfl, hb1⟩
    go_wp2_with fail
    go_ret
    exact ⟨rfl, hb1⟩
  · exact percentTells_core set c s w (by omega)
end Go.Proofs.Ytmkgjleojfggcaa
