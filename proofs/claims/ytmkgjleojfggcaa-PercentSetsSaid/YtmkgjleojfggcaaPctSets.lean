/-
  The walk of PercentSets: it returns true. Conditions: none.
-/
import Derived.Test.YtmkgjleojfggcaaPctTells
set_option linter.all false
namespace Go.Proofs.Ytmkgjleojfggcaa
open Go.RowKit
def tab (c : UInt8) : Nat → Array Value
  | 0 => #[.bool false, .bool false, .bool false, .bool false, .bool false, .bool false, .bool false]
  | 1 => #[.bool (inSet 0 c), .bool false, .bool false, .bool false, .bool false, .bool false, .bool false]
  | 2 => #[.bool (inSet 0 c), .bool (inSet 1 c), .bool false, .bool false, .bool false, .bool false, .bool false]
  | 3 => #[.bool (inSet 0 c), .bool (inSet 1 c), .bool (inSet 2 c), .bool false, .bool false, .bool false, .bool false]
  | 4 => #[.bool (inSet 0 c), .bool (inSet 1 c), .bool (inSet 2 c), .bool (inSet 3 c), .bool false, .bool false, .bool false]
  | 5 => #[.bool (inSet 0 c), .bool (inSet 1 c), .bool (inSet 2 c), .bool (inSet 3 c), .bool (inSet 4 c), .bool false, .bool false]
  | 6 => #[.bool (inSet 0 c), .bool (inSet 1 c), .bool (inSet 2 c), .bool (inSet 3 c), .bool (inSet 4 c), .bool (inSet 5 c), .bool false]
  | _ => #[.bool (inSet 0 c), .bool (inSet 1 c), .bool (inSet 2 c), .bool (inSet 3 c), .bool (inSet 4 c), .bool (inSet 5 c), .bool (inSet 6 c)]

def bits (c : UInt8) : List Bool := [inSet 0 c, inSet 1 c, inSet 2 c, inSet 3 c, inSet 4 c, inSet 5 c, inSet 6 c]
def np (c : UInt8) : Bool := isLetter c == false && (digit c 10 == -1 && (((c.toNat : Int) == 45) == false && (((c.toNat : Int) == 46) == false && (((c.toNat : Int) == 95) == false && ((c.toNat : Int) == 126) == false))))
def setsOk (c : UInt8) : Bool := ((bits c == [true, true, true, true, true, true, true] && np c) || ((bits c == [false, true, true, true, true, true, true] && (decide (c.toNat < 128) && np c)) || ((bits c == [false, false, false, false, false, false, false] && decide (c.toNat < 128)) || ((bits c == [false, false, true, true, true, true, true] && (decide (c.toNat < 128) && np c)) || ((bits c == [false, false, false, false, false, false, true] && (decide (c.toNat < 128) && np c)) || ((bits c == [false, false, false, true, false, false, false] && (decide (c.toNat < 128) && np c)) || ((bits c == [false, false, false, false, false, true, true] && (decide (c.toNat < 128) && np c)) || ((bits c == [false, false, false, false, true, true, true] && (decide (c.toNat < 128) && np c)) || (bits c == [false, true, false, false, true, true, true] && (decide (c.toNat < 128) && np c))))))))))
theorem sets_fin : ∀ i : Fin 256, setsOk (UInt8.ofNat i.val) = true := by decide +kernel
theorem sets_cases (c : UInt8) :
    (inSet 0 c = true ∧ inSet 1 c = true ∧ inSet 2 c = true ∧ inSet 3 c = true ∧ inSet 4 c = true ∧ inSet 5 c = true ∧ inSet 6 c = true ∧ isLetter c = false ∧ digit c 10 = -1 ∧ ((c.toNat : Int) == 45) = false ∧ ((c.toNat : Int) == 46) = false ∧ ((c.toNat : Int) == 95) = false ∧ ((c.toNat : Int) == 126) = false) ∨
    (inSet 0 c = false ∧ inSet 1 c = true ∧ inSet 2 c = true ∧ inSet 3 c = true ∧ inSet 4 c = true ∧ inSet 5 c = true ∧ inSet 6 c = true ∧ c.toNat < 128 ∧ isLetter c = false ∧ digit c 10 = -1 ∧ ((c.toNat : Int) == 45) = false ∧ ((c.toNat : Int) == 46) = false ∧ ((c.toNat : Int) == 95) = false ∧ ((c.toNat : Int) == 126) = false) ∨
    (inSet 0 c = false ∧ inSet 1 c = false ∧ inSet 2 c = false ∧ inSet 3 c = false ∧ inSet 4 c = false ∧ inSet 5 c = false ∧ inSet 6 c = false ∧ c.toNat < 128) ∨
    (inSet 0 c = false ∧ inSet 1 c = false ∧ inSet 2 c = true ∧ inSet 3 c = true ∧ inSet 4 c = true ∧ inSet 5 c = true ∧ inSet 6 c = true ∧ c.toNat < 128 ∧ isLetter c = false ∧ digit c 10 = -1 ∧ ((c.toNat : Int) == 45) = false ∧ ((c.toNat : Int) == 46) = false ∧ ((c.toNat : Int) == 95) = false ∧ ((c.toNat : Int) == 126) = false) ∨
    (inSet 0 c = false ∧ inSet 1 c = false ∧ inSet 2 c = false ∧ inSet 3 c = false ∧ inSet 4 c = false ∧ inSet 5 c = false ∧ inSet 6 c = true ∧ c.toNat < 128 ∧ isLetter c = false ∧ digit c 10 = -1 ∧ ((c.toNat : Int) == 45) = false ∧ ((c.toNat : Int) == 46) = false ∧ ((c.toNat : Int) == 95) = false ∧ ((c.toNat : Int) == 126) = false) ∨
    (inSet 0 c = false ∧ inSet 1 c = false ∧ inSet 2 c = false ∧ inSet 3 c = true ∧ inSet 4 c = false ∧ inSet 5 c = false ∧ inSet 6 c = false ∧ c.toNat < 128 ∧ isLetter c = false ∧ digit c 10 = -1 ∧ ((c.toNat : Int) == 45) = false ∧ ((c.toNat : Int) == 46) = false ∧ ((c.toNat : Int) == 95) = false ∧ ((c.toNat : Int) == 126) = false) ∨
    (inSet 0 c = false ∧ inSet 1 c = false ∧ inSet 2 c = false ∧ inSet 3 c = false ∧ inSet 4 c = false ∧ inSet 5 c = true ∧ inSet 6 c = true ∧ c.toNat < 128 ∧ isLetter c = false ∧ digit c 10 = -1 ∧ ((c.toNat : Int) == 45) = false ∧ ((c.toNat : Int) == 46) = false ∧ ((c.toNat : Int) == 95) = false ∧ ((c.toNat : Int) == 126) = false) ∨
    (inSet 0 c = false ∧ inSet 1 c = false ∧ inSet 2 c = false ∧ inSet 3 c = false ∧ inSet 4 c = true ∧ inSet 5 c = true ∧ inSet 6 c = true ∧ c.toNat < 128 ∧ isLetter c = false ∧ digit c 10 = -1 ∧ ((c.toNat : Int) == 45) = false ∧ ((c.toNat : Int) == 46) = false ∧ ((c.toNat : Int) == 95) = false ∧ ((c.toNat : Int) == 126) = false) ∨
    (inSet 0 c = false ∧ inSet 1 c = true ∧ inSet 2 c = false ∧ inSet 3 c = false ∧ inSet 4 c = true ∧ inSet 5 c = true ∧ inSet 6 c = true ∧ c.toNat < 128 ∧ isLetter c = false ∧ digit c 10 = -1 ∧ ((c.toNat : Int) == 45) = false ∧ ((c.toNat : Int) == 46) = false ∧ ((c.toNat : Int) == 95) = false ∧ ((c.toNat : Int) == 126) = false) := by
  have h := sets_fin ⟨c.toNat, c.toNat_lt⟩
  rw [show UInt8.ofNat (⟨c.toNat, c.toNat_lt⟩ : Fin 256).val = c by simp] at h
  unfold setsOk bits np at h
  simp only [Bool.or_eq_true, Bool.and_eq_true, beq_iff_eq, List.cons.injEq, and_true, and_assoc, decide_eq_true_eq] at h
  exact h

theorem or_all {k : Nat} (h : k ≤ 7) : k = 0 ∨ k = 1 ∨ k = 2 ∨ k = 3 ∨ k = 4 ∨ k = 5 ∨ k = 6 ∨ k = 7 := by omega

set_option maxHeartbeats 8000000 in
theorem percentSets_core (c : UInt8) (w : World) :
    Calls Try.prog 13 #[.int .u8 (c.toNat : Int)] w fun e w' => e = .returned (.bool true) ∧ Below w.heap.size w w' := by
  have hall := hid (sets_cases c)
  have hlt : c.toNat < 256 := c.toNat_lt
  have hdl := digit_bd c 10 (by decide)
  go_enter Try.func13, Try.ntmps13
  go_wp2_with fail
  refine (pctSmall_calls _).mono ?_
  rintro e w1 ⟨rfl, hb1⟩
  go_wp2_with fail
  go_loopw [5] (fun i wr => ∃ (k : Nat), k ≤ 7 ∧ i = .int .i64 k ∧ wr = w1.alloc (.cells (tab c k) 52)) (fun i _ => 7 - (intOf i).toNat)
  case atStart => exact ⟨0, by omega, rfl, rfl⟩
  case round =>
    obtain ⟨k, hk, rfl, rfl⟩ := hrel
    have hbn : Below w.heap.size w (w1.alloc (.cells (tab c 7) 52)) := hb1.alloc hb1.size _
    rcases or_all hk with rfl | rfl | rfl | rfl | rfl | rfl | rfl | rfl
    · simp only [tab]
      go_wp2_with fail
      refine (in_calls _ _ _).mono ?_
      rintro e w2 ⟨rfl, rfl⟩
      go_wp2_with fail
      go_roundw
      case rel => exact ⟨1, by omega, rfl, rfl⟩
      case measure => simp [intOf]
    · simp only [tab]
      go_wp2_with fail
      refine (in_calls _ _ _).mono ?_
      rintro e w2 ⟨rfl, rfl⟩
      go_wp2_with fail
      go_roundw
      case rel => exact ⟨2, by omega, rfl, rfl⟩
      case measure => simp [intOf]
    · simp only [tab]
      go_wp2_with fail
      refine (in_calls _ _ _).mono ?_
      rintro e w2 ⟨rfl, rfl⟩
      go_wp2_with fail
      go_roundw
      case rel => exact ⟨3, by omega, rfl, rfl⟩
      case measure => simp [intOf]
    · simp only [tab]
      go_wp2_with fail
      refine (in_calls _ _ _).mono ?_
      rintro e w2 ⟨rfl, rfl⟩
      go_wp2_with fail
      go_roundw
      case rel => exact ⟨4, by omega, rfl, rfl⟩
      case measure => simp [intOf]
    · simp only [tab]
      go_wp2_with fail
      refine (in_calls _ _ _).mono ?_
      rintro e w2 ⟨rfl, rfl⟩
      go_wp2_with fail
      go_roundw
      case rel => exact ⟨5, by omega, rfl, rfl⟩
      case measure => simp [intOf]
    · simp only [tab]
      go_wp2_with fail
      refine (in_calls _ _ _).mono ?_
      rintro e w2 ⟨rfl, rfl⟩
      go_wp2_with fail
      go_roundw
      case rel => exact ⟨6, by omega, rfl, rfl⟩
      case measure => simp [intOf]
    · simp only [tab]
      go_wp2_with fail
      refine (in_calls _ _ _).mono ?_
      rintro e w2 ⟨rfl, rfl⟩
      go_wp2_with fail
      go_roundw
      case rel => exact ⟨7, by omega, rfl, rfl⟩
      case measure => simp [intOf]
    · simp only [tab] at hbn ⊢
      rcases hall.out with ⟨f0, f1, f2, f3, f4, f5, f6, hL, hD, h1, h2, h3, h4⟩ | ⟨f0, f1, f2, f3, f4, f5, f6, h128, hL, hD, h1, h2, h3, h4⟩ | ⟨f0, f1, f2, f3, f4, f5, f6, h128⟩ | ⟨f0, f1, f2, f3, f4, f5, f6, h128, hL, hD, h1, h2, h3, h4⟩ | ⟨f0, f1, f2, f3, f4, f5, f6, h128, hL, hD, h1, h2, h3, h4⟩ | ⟨f0, f1, f2, f3, f4, f5, f6, h128, hL, hD, h1, h2, h3, h4⟩ | ⟨f0, f1, f2, f3, f4, f5, f6, h128, hL, hD, h1, h2, h3, h4⟩ | ⟨f0, f1, f2, f3, f4, f5, f6, h128, hL, hD, h1, h2, h3, h4⟩ | ⟨f0, f1, f2, f3, f4, f5, f6, h128, hL, hD, h1, h2, h3, h4⟩
      · simp only [f0, f1, f2, f3, f4, f5, f6] at hbn ⊢
        clear f0 f1 f2 f3 f4 f5 f6 hall
        go_wp2_with (first | (go_at_call 50; refine (letter_calls c _).mono ?_; rintro e w2 ⟨rfl, rfl⟩; rw [hL]) | (go_at_call 49; refine (digit_calls c 10 (by decide) (by decide) _).mono ?_; rintro e w2 ⟨rfl, rfl⟩; rw [hD]))
        all_goals go_ret
        all_goals exact ⟨ret_bool (by simp), hbn⟩
      · simp only [f0, f1, f2, f3, f4, f5, f6] at hbn ⊢
        clear f0 f1 f2 f3 f4 f5 f6 hall
        go_wp2_with (first | (go_at_call 50; refine (letter_calls c _).mono ?_; rintro e w2 ⟨rfl, rfl⟩; rw [hL]) | (go_at_call 49; refine (digit_calls c 10 (by decide) (by decide) _).mono ?_; rintro e w2 ⟨rfl, rfl⟩; rw [hD]))
        all_goals go_ret
        all_goals exact ⟨ret_bool (by simp), hbn⟩
      · simp only [f0, f1, f2, f3, f4, f5, f6] at hbn ⊢
        clear f0 f1 f2 f3 f4 f5 f6 hall
        go_wp2_with (first | (go_at_call 50; refine (letter_calls c _).mono ?_; rintro e w2 ⟨rfl, rfl⟩) | (go_at_call 49; refine (digit_calls c 10 (by decide) (by decide) _).mono ?_; rintro e w2 ⟨rfl, rfl⟩))
        all_goals go_ret
        all_goals exact ⟨ret_bool (by simp), hbn⟩
      · simp only [f0, f1, f2, f3, f4, f5, f6] at hbn ⊢
        clear f0 f1 f2 f3 f4 f5 f6 hall
        go_wp2_with (first | (go_at_call 50; refine (letter_calls c _).mono ?_; rintro e w2 ⟨rfl, rfl⟩; rw [hL]) | (go_at_call 49; refine (digit_calls c 10 (by decide) (by decide) _).mono ?_; rintro e w2 ⟨rfl, rfl⟩; rw [hD]))
        all_goals go_ret
        all_goals exact ⟨ret_bool (by simp), hbn⟩
      · simp only [f0, f1, f2, f3, f4, f5, f6] at hbn ⊢
        clear f0 f1 f2 f3 f4 f5 f6 hall
        go_wp2_with (first | (go_at_call 50; refine (letter_calls c _).mono ?_; rintro e w2 ⟨rfl, rfl⟩; rw [hL]) | (go_at_call 49; refine (digit_calls c 10 (by decide) (by decide) _).mono ?_; rintro e w2 ⟨rfl, rfl⟩; rw [hD]))
        all_goals go_ret
        all_goals exact ⟨ret_bool (by simp), hbn⟩
      · simp only [f0, f1, f2, f3, f4, f5, f6] at hbn ⊢
        clear f0 f1 f2 f3 f4 f5 f6 hall
        go_wp2_with (first | (go_at_call 50; refine (letter_calls c _).mono ?_; rintro e w2 ⟨rfl, rfl⟩; rw [hL]) | (go_at_call 49; refine (digit_calls c 10 (by decide) (by decide) _).mono ?_; rintro e w2 ⟨rfl, rfl⟩; rw [hD]))
        all_goals go_ret
        all_goals exact ⟨ret_bool (by simp), hbn⟩
      · simp only [f0, f1, f2, f3, f4, f5, f6] at hbn ⊢
        clear f0 f1 f2 f3 f4 f5 f6 hall
        go_wp2_with (first | (go_at_call 50; refine (letter_calls c _).mono ?_; rintro e w2 ⟨rfl, rfl⟩; rw [hL]) | (go_at_call 49; refine (digit_calls c 10 (by decide) (by decide) _).mono ?_; rintro e w2 ⟨rfl, rfl⟩; rw [hD]))
        all_goals go_ret
        all_goals exact ⟨ret_bool (by simp), hbn⟩
      · simp only [f0, f1, f2, f3, f4, f5, f6] at hbn ⊢
        clear f0 f1 f2 f3 f4 f5 f6 hall
        go_wp2_with (first | (go_at_call 50; refine (letter_calls c _).mono ?_; rintro e w2 ⟨rfl, rfl⟩; rw [hL]) | (go_at_call 49; refine (digit_calls c 10 (by decide) (by decide) _).mono ?_; rintro e w2 ⟨rfl, rfl⟩; rw [hD]))
        all_goals go_ret
        all_goals exact ⟨ret_bool (by simp), hbn⟩
      · simp only [f0, f1, f2, f3, f4, f5, f6] at hbn ⊢
        clear f0 f1 f2 f3 f4 f5 f6 hall
        go_wp2_with (first | (go_at_call 50; refine (letter_calls c _).mono ?_; rintro e w2 ⟨rfl, rfl⟩; rw [hL]) | (go_at_call 49; refine (digit_calls c 10 (by decide) (by decide) _).mono ?_; rintro e w2 ⟨rfl, rfl⟩; rw [hD]))
        all_goals go_ret
        all_goals exact ⟨ret_bool (by simp), hbn⟩

theorem percentSets_walk (n : Int) (w : World) (hn : (Lit.int .u8 n).wf = true) :
    Calls Try.prog 13 #[.int .u8 n] w fun e w' => e = .returned (.bool true) ∧ Below w.heap.size w w' := by
  obtain ⟨c, rfl⟩ := u8_of hn
  exact percentSets_core c w
end Go.Proofs.Ytmkgjleojfggcaa
