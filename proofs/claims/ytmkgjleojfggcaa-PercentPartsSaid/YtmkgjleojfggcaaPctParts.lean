/-
  The walk of PercentParts: it returns true. Conditions: none but that the texts are texts.
-/
import Derived.Test.YtmkgjleojfggcaaPctBack
import Derived.Test.YtmkgjleojfggcaaSeqNd
set_option linter.all false
namespace Go.Proofs.Ytmkgjleojfggcaa
open Go.RowKit

theorem app_list (a b : ByteArray) : (a ++ b).data.toList = a.data.toList ++ b.data.toList := by simp
theorem app_str (x y : List UInt8) : (⟨(x ++ y).toArray⟩ : ByteArray) = (⟨x.toArray⟩ : ByteArray) ++ ⟨y.toArray⟩ := by
  apply ByteArray.ext
  simp
theorem enc_app (a b : ByteArray) (set : Int) (w : World) (h : (a ++ b).size ≤ 5000) :
    Calls Try.prog 45 #[.string (a ++ b), .int .i64 set] w fun e w' => e = .returned (.string ((⟨(encL set a.data.toList).toArray⟩ : ByteArray) ++ ⟨(encL set b.data.toList).toArray⟩)) ∧ Below w.heap.size w w' := by
  refine (encode_calls (a ++ b) set w h).mono ?_
  rintro e w' ⟨rfl, hb⟩
  refine ⟨?_, hb⟩
  rw [app_list, encL_append, app_str]
theorem dec_app (a b : ByteArray) (w : World) (h : (a ++ b).size ≤ 5000) (hab : decL (a.data.toList ++ b.data.toList) = decL a.data.toList ++ decL b.data.toList) :
    Calls Try.prog 47 #[.string (a ++ b)] w fun e w' => ∃ v, e = .returned v ∧ OwnB w' w.heap.size v (decL a.data.toList ++ decL b.data.toList) ∧ Below w.heap.size w w' := by
  refine (decode_calls (a ++ b) w (by omega)).mono ?_
  rintro e w' ⟨v, rfl, ho, hb⟩
  rw [app_list, hab] at ho
  exact ⟨v, rfl, ho, hb⟩

set_option maxHeartbeats 4000000 in
theorem parts_1 (a b : ByteArray) (set : Int) (w : World) (hsa : a.size ≤ 500) (hsb : b.size ≤ 500) (h1 : 1 ≤ a.size) (hx : (((a[a.size - 1]).toNat : Int) == 37) = true) :
    Calls Try.prog 11 #[.string a, .string b, .int .i64 set] w fun e w' => e = .returned (.bool true) ∧ Below w.heap.size w w' := by
      have hab : (a ++ b).size ≤ 5000 := by simp; omega
      have ha5 : a.size ≤ 5000 := by omega
      have hb5 : b.size ≤ 5000 := by omega
      have ha6 : a.size ≤ 100000 := by omega
      have hb6' : b.size ≤ 100000 := by omega
      have z1 : ({ data := (encL set a.data.toList).toArray } : ByteArray).size ≤ 1500 := by have := encL_len set a.data.toList; show (encL set a.data.toList).toArray.size ≤ _; simp at this ⊢; omega
      have z2 : ({ data := (encL set b.data.toList).toArray } : ByteArray).size ≤ 1500 := by have := encL_len set b.data.toList; show (encL set b.data.toList).toArray.size ≤ _; simp at this ⊢; omega
      have z3 : ({ data := (decL a.data.toList).toArray } : ByteArray).size ≤ 1500 := by have := decL_len a.data.toList; show (decL a.data.toList).toArray.size ≤ _; simp at this ⊢; omega
      have z4 : ({ data := (decL b.data.toList).toArray } : ByteArray).size ≤ 1500 := by have := decL_len b.data.toList; show (decL b.data.toList).toArray.size ≤ _; simp at this ⊢; omega
      have y1 := encL_len set a.data.toList
      have y2 := encL_len set b.data.toList
      have y3 := decL_len a.data.toList
      have y4 := decL_len b.data.toList
      have y5 : a.data.toList.length = a.size := by simp
      have y6 : b.data.toList.length = b.size := by simp
      go_enter Try.func11, Try.ntmps11
      go_wp2_with fail
      refine (pctSmall_calls _).mono ?_
      rintro e w1 ⟨rfl, hb1⟩
      go_wp2_with fail
      refine (enc_app a b set _ hab).mono ?_
      rintro e w2 ⟨rfl, hb2⟩
      have hb2 := below_then hb1 hb2
      go_wp2_with fail
      refine (encode_calls a set _ (by omega)).mono ?_
      rintro e w3 ⟨rfl, hb3⟩
      have hb3 := below_then hb2 hb3
      go_wp2_with fail
      refine (encode_calls b set _ (by omega)).mono ?_
      rintro e w4 ⟨rfl, hb4⟩
      have hb4 := below_then hb3 hb4
      go_wp2_with fail
      go_ret
      exact ⟨rfl, hb4⟩

set_option maxHeartbeats 4000000 in
theorem parts_2 (a b : ByteArray) (set : Int) (w : World) (hsa : a.size ≤ 500) (hsb : b.size ≤ 500) (h1 : 2 ≤ a.size) (hx : (((a[a.size - 1]).toNat : Int) == 37) = false) (hy : (((a[a.size - 2]).toNat : Int) == 37) = true) :
    Calls Try.prog 11 #[.string a, .string b, .int .i64 set] w fun e w' => e = .returned (.bool true) ∧ Below w.heap.size w w' := by
      have hab : (a ++ b).size ≤ 5000 := by simp; omega
      have ha5 : a.size ≤ 5000 := by omega
      have hb5 : b.size ≤ 5000 := by omega
      have ha6 : a.size ≤ 100000 := by omega
      have hb6' : b.size ≤ 100000 := by omega
      have z1 : ({ data := (encL set a.data.toList).toArray } : ByteArray).size ≤ 1500 := by have := encL_len set a.data.toList; show (encL set a.data.toList).toArray.size ≤ _; simp at this ⊢; omega
      have z2 : ({ data := (encL set b.data.toList).toArray } : ByteArray).size ≤ 1500 := by have := encL_len set b.data.toList; show (encL set b.data.toList).toArray.size ≤ _; simp at this ⊢; omega
      have z3 : ({ data := (decL a.data.toList).toArray } : ByteArray).size ≤ 1500 := by have := decL_len a.data.toList; show (decL a.data.toList).toArray.size ≤ _; simp at this ⊢; omega
      have z4 : ({ data := (decL b.data.toList).toArray } : ByteArray).size ≤ 1500 := by have := decL_len b.data.toList; show (decL b.data.toList).toArray.size ≤ _; simp at this ⊢; omega
      have y1 := encL_len set a.data.toList
      have y2 := encL_len set b.data.toList
      have y3 := decL_len a.data.toList
      have y4 := decL_len b.data.toList
      have y5 : a.data.toList.length = a.size := by simp
      have y6 : b.data.toList.length = b.size := by simp
      go_enter Try.func11, Try.ntmps11
      go_wp2_with fail
      refine (pctSmall_calls _).mono ?_
      rintro e w1 ⟨rfl, hb1⟩
      go_wp2_with fail
      refine (enc_app a b set _ hab).mono ?_
      rintro e w2 ⟨rfl, hb2⟩
      have hb2 := below_then hb1 hb2
      go_wp2_with fail
      refine (encode_calls a set _ (by omega)).mono ?_
      rintro e w3 ⟨rfl, hb3⟩
      have hb3 := below_then hb2 hb3
      go_wp2_with fail
      refine (encode_calls b set _ (by omega)).mono ?_
      rintro e w4 ⟨rfl, hb4⟩
      have hb4 := below_then hb3 hb4
      go_wp2_with fail
      go_ret
      exact ⟨rfl, hb4⟩

set_option maxHeartbeats 4000000 in
theorem parts_3 (a b : ByteArray) (set : Int) (w : World) (hsa : a.size ≤ 500) (hsb : b.size ≤ 500) (h1 : a.size < 1) (HAB : Hid (decL (a.data.toList ++ b.data.toList) = decL a.data.toList ++ decL b.data.toList)) :
    Calls Try.prog 11 #[.string a, .string b, .int .i64 set] w fun e w' => e = .returned (.bool true) ∧ Below w.heap.size w w' := by
      have hab : (a ++ b).size ≤ 5000 := by simp; omega
      have ha5 : a.size ≤ 5000 := by omega
      have hb5 : b.size ≤ 5000 := by omega
      have ha6 : a.size ≤ 100000 := by omega
      have hb6' : b.size ≤ 100000 := by omega
      have z1 : ({ data := (encL set a.data.toList).toArray } : ByteArray).size ≤ 1500 := by have := encL_len set a.data.toList; show (encL set a.data.toList).toArray.size ≤ _; simp at this ⊢; omega
      have z2 : ({ data := (encL set b.data.toList).toArray } : ByteArray).size ≤ 1500 := by have := encL_len set b.data.toList; show (encL set b.data.toList).toArray.size ≤ _; simp at this ⊢; omega
      have z3 : ({ data := (decL a.data.toList).toArray } : ByteArray).size ≤ 1500 := by have := decL_len a.data.toList; show (decL a.data.toList).toArray.size ≤ _; simp at this ⊢; omega
      have z4 : ({ data := (decL b.data.toList).toArray } : ByteArray).size ≤ 1500 := by have := decL_len b.data.toList; show (decL b.data.toList).toArray.size ≤ _; simp at this ⊢; omega
      have y1 := encL_len set a.data.toList
      have y2 := encL_len set b.data.toList
      have y3 := decL_len a.data.toList
      have y4 := decL_len b.data.toList
      have y5 : a.data.toList.length = a.size := by simp
      have y6 : b.data.toList.length = b.size := by simp
      go_enter Try.func11, Try.ntmps11
      go_wp2_with fail
      refine (pctSmall_calls _).mono ?_
      rintro e w1 ⟨rfl, hb1⟩
      go_wp2_with fail
      apply region_nd Grow [.val _, .val _, .val _, .val _, .val _, .val _, .val _, .val _, .val _, .val _, .val _, .val _, .val _, .val _, .val _, .val _, .val _, .val _, .val _, .val _, .any (fun v w => OwnB w 0 v (decL a.data.toList ++ decL b.data.toList)), .val _, .val _, .any (fun v w => OwnB w 0 v (decL a.data.toList)), .val _, .val _, .any (fun v w => OwnB w 0 v (decL b.data.toList)), .val _, .val _, .val _, .val _, .val _] (by kernel_rfl) (by kernel_rfl) grow_moves
      simp only []
      repeat (first
        | (refine SeqNd.any (t := _) rfl rfl (fun v x y h hb => OwnB.below h hb) ?_ fun u => ?_
           · intro W hW hF K hK; go_simp; go_at_call 47; first
             | ((with_reducible refine (dec_app a b _ hab HAB.out).mono ?_); rintro e w5 ⟨v5, rfl, ho5, hb5'⟩; exact hK _ _ hb5' (ho5.mono (Nat.zero_le _)))
             | ((with_reducible refine (decode_calls a _ ha6).mono ?_); rintro e w6 ⟨v6, rfl, ho6, hb6⟩; exact hK _ _ hb6 (ho6.mono (Nat.zero_le _)))
             | ((with_reducible refine (decode_calls b _ hb6').mono ?_); rintro e w6 ⟨v6, rfl, ho6, hb6⟩; exact hK _ _ hb6 (ho6.mono (Nat.zero_le _)))
           simp only [Act.put, List.setIfInBounds_toArray, List.set_cons_zero, List.set_cons_succ])
        | (apply SeqNd.val; · rfl
           · intro W hW hF K hK; go_simp; first | exact hK _ (Below.refl _ _) | (rw [if_neg (by omega)]; exact hK _ (Below.refl _ _))
           simp only [Act.put, List.setIfInBounds_toArray, List.set_cons_zero, List.set_cons_succ])
        | (apply SeqNd.val; · rfl
           · intro W hW hF K hK; have hd := run_string_own (hF.1 (by rfl)); (try rw [app_str] at hd); go_simp; exact hK _ (Below.refl _ _)
           simp only [Act.put, List.setIfInBounds_toArray, List.set_cons_zero, List.set_cons_succ])
        | (apply SeqNd.val; · rfl
           · intro W hW hF K hK; go_simp; go_at_call 45; first
             | ((with_reducible refine (enc_app a b set _ hab).mono ?_); rintro e w2 ⟨rfl, hb2⟩; exact hK _ hb2)
             | ((with_reducible refine (encode_calls a set _ ha5).mono ?_); rintro e w3 ⟨rfl, hb3⟩; exact hK _ hb3)
             | ((with_reducible refine (encode_calls b set _ hb5).mono ?_); rintro e w4 ⟨rfl, hb4⟩; exact hK _ hb4)
           simp only [Act.put, List.setIfInBounds_toArray, List.set_cons_zero, List.set_cons_succ]))
      refine SeqNd.nil ?_
      intro w9 hb9 _
      have hbe := below_then hb1.drew hb9
      go_wp2_with fail
      go_ret
      exact ⟨rfl, hbe⟩

set_option maxHeartbeats 4000000 in
theorem parts_4 (a b : ByteArray) (set : Int) (w : World) (hsa : a.size ≤ 500) (hsb : b.size ≤ 500) (h1 : 1 ≤ a.size) (h2 : a.size < 2) (hx : (((a[a.size - 1]).toNat : Int) == 37) = false) (HAB : Hid (decL (a.data.toList ++ b.data.toList) = decL a.data.toList ++ decL b.data.toList)) :
    Calls Try.prog 11 #[.string a, .string b, .int .i64 set] w fun e w' => e = .returned (.bool true) ∧ Below w.heap.size w w' := by
      have hab : (a ++ b).size ≤ 5000 := by simp; omega
      have ha5 : a.size ≤ 5000 := by omega
      have hb5 : b.size ≤ 5000 := by omega
      have ha6 : a.size ≤ 100000 := by omega
      have hb6' : b.size ≤ 100000 := by omega
      have z1 : ({ data := (encL set a.data.toList).toArray } : ByteArray).size ≤ 1500 := by have := encL_len set a.data.toList; show (encL set a.data.toList).toArray.size ≤ _; simp at this ⊢; omega
      have z2 : ({ data := (encL set b.data.toList).toArray } : ByteArray).size ≤ 1500 := by have := encL_len set b.data.toList; show (encL set b.data.toList).toArray.size ≤ _; simp at this ⊢; omega
      have z3 : ({ data := (decL a.data.toList).toArray } : ByteArray).size ≤ 1500 := by have := decL_len a.data.toList; show (decL a.data.toList).toArray.size ≤ _; simp at this ⊢; omega
      have z4 : ({ data := (decL b.data.toList).toArray } : ByteArray).size ≤ 1500 := by have := decL_len b.data.toList; show (decL b.data.toList).toArray.size ≤ _; simp at this ⊢; omega
      have y1 := encL_len set a.data.toList
      have y2 := encL_len set b.data.toList
      have y3 := decL_len a.data.toList
      have y4 := decL_len b.data.toList
      have y5 : a.data.toList.length = a.size := by simp
      have y6 : b.data.toList.length = b.size := by simp
      go_enter Try.func11, Try.ntmps11
      go_wp2_with fail
      refine (pctSmall_calls _).mono ?_
      rintro e w1 ⟨rfl, hb1⟩
      go_wp2_with fail
      apply region_nd Grow [.val _, .val _, .val _, .val _, .val _, .val _, .val _, .val _, .val _, .val _, .val _, .val _, .val _, .val _, .val _, .val _, .val _, .val _, .val _, .val _, .any (fun v w => OwnB w 0 v (decL a.data.toList ++ decL b.data.toList)), .val _, .val _, .any (fun v w => OwnB w 0 v (decL a.data.toList)), .val _, .val _, .any (fun v w => OwnB w 0 v (decL b.data.toList)), .val _, .val _, .val _, .val _, .val _] (by kernel_rfl) (by kernel_rfl) grow_moves
      simp only []
      repeat (first
        | (refine SeqNd.any (t := _) rfl rfl (fun v x y h hb => OwnB.below h hb) ?_ fun u => ?_
           · intro W hW hF K hK; go_simp; go_at_call 47; first
             | ((with_reducible refine (dec_app a b _ hab HAB.out).mono ?_); rintro e w5 ⟨v5, rfl, ho5, hb5'⟩; exact hK _ _ hb5' (ho5.mono (Nat.zero_le _)))
             | ((with_reducible refine (decode_calls a _ ha6).mono ?_); rintro e w6 ⟨v6, rfl, ho6, hb6⟩; exact hK _ _ hb6 (ho6.mono (Nat.zero_le _)))
             | ((with_reducible refine (decode_calls b _ hb6').mono ?_); rintro e w6 ⟨v6, rfl, ho6, hb6⟩; exact hK _ _ hb6 (ho6.mono (Nat.zero_le _)))
           simp only [Act.put, List.setIfInBounds_toArray, List.set_cons_zero, List.set_cons_succ])
        | (apply SeqNd.val; · rfl
           · intro W hW hF K hK; go_simp; first | exact hK _ (Below.refl _ _) | (rw [if_neg (by omega)]; exact hK _ (Below.refl _ _))
           simp only [Act.put, List.setIfInBounds_toArray, List.set_cons_zero, List.set_cons_succ])
        | (apply SeqNd.val; · rfl
           · intro W hW hF K hK; have hd := run_string_own (hF.1 (by rfl)); (try rw [app_str] at hd); go_simp; exact hK _ (Below.refl _ _)
           simp only [Act.put, List.setIfInBounds_toArray, List.set_cons_zero, List.set_cons_succ])
        | (apply SeqNd.val; · rfl
           · intro W hW hF K hK; go_simp; go_at_call 45; first
             | ((with_reducible refine (enc_app a b set _ hab).mono ?_); rintro e w2 ⟨rfl, hb2⟩; exact hK _ hb2)
             | ((with_reducible refine (encode_calls a set _ ha5).mono ?_); rintro e w3 ⟨rfl, hb3⟩; exact hK _ hb3)
             | ((with_reducible refine (encode_calls b set _ hb5).mono ?_); rintro e w4 ⟨rfl, hb4⟩; exact hK _ hb4)
           simp only [Act.put, List.setIfInBounds_toArray, List.set_cons_zero, List.set_cons_succ]))
      refine SeqNd.nil ?_
      intro w9 hb9 _
      have hbe := below_then hb1.drew hb9
      go_wp2_with fail
      go_ret
      exact ⟨rfl, hbe⟩

set_option maxHeartbeats 4000000 in
theorem parts_5 (a b : ByteArray) (set : Int) (w : World) (hsa : a.size ≤ 500) (hsb : b.size ≤ 500) (h1 : 2 ≤ a.size) (hx : (((a[a.size - 1]).toNat : Int) == 37) = false) (hy : (((a[a.size - 2]).toNat : Int) == 37) = false) (HAB : Hid (decL (a.data.toList ++ b.data.toList) = decL a.data.toList ++ decL b.data.toList)) :
    Calls Try.prog 11 #[.string a, .string b, .int .i64 set] w fun e w' => e = .returned (.bool true) ∧ Below w.heap.size w w' := by
      have hab : (a ++ b).size ≤ 5000 := by simp; omega
      have ha5 : a.size ≤ 5000 := by omega
      have hb5 : b.size ≤ 5000 := by omega
      have ha6 : a.size ≤ 100000 := by omega
      have hb6' : b.size ≤ 100000 := by omega
      have z1 : ({ data := (encL set a.data.toList).toArray } : ByteArray).size ≤ 1500 := by have := encL_len set a.data.toList; show (encL set a.data.toList).toArray.size ≤ _; simp at this ⊢; omega
      have z2 : ({ data := (encL set b.data.toList).toArray } : ByteArray).size ≤ 1500 := by have := encL_len set b.data.toList; show (encL set b.data.toList).toArray.size ≤ _; simp at this ⊢; omega
      have z3 : ({ data := (decL a.data.toList).toArray } : ByteArray).size ≤ 1500 := by have := decL_len a.data.toList; show (decL a.data.toList).toArray.size ≤ _; simp at this ⊢; omega
      have z4 : ({ data := (decL b.data.toList).toArray } : ByteArray).size ≤ 1500 := by have := decL_len b.data.toList; show (decL b.data.toList).toArray.size ≤ _; simp at this ⊢; omega
      have y1 := encL_len set a.data.toList
      have y2 := encL_len set b.data.toList
      have y3 := decL_len a.data.toList
      have y4 := decL_len b.data.toList
      have y5 : a.data.toList.length = a.size := by simp
      have y6 : b.data.toList.length = b.size := by simp
      go_enter Try.func11, Try.ntmps11
      go_wp2_with fail
      refine (pctSmall_calls _).mono ?_
      rintro e w1 ⟨rfl, hb1⟩
      go_wp2_with fail
      apply region_nd Grow [.val _, .val _, .val _, .val _, .val _, .val _, .val _, .val _, .val _, .val _, .val _, .val _, .val _, .val _, .val _, .val _, .val _, .val _, .val _, .val _, .any (fun v w => OwnB w 0 v (decL a.data.toList ++ decL b.data.toList)), .val _, .val _, .any (fun v w => OwnB w 0 v (decL a.data.toList)), .val _, .val _, .any (fun v w => OwnB w 0 v (decL b.data.toList)), .val _, .val _, .val _, .val _, .val _] (by kernel_rfl) (by kernel_rfl) grow_moves
      simp only []
      repeat (first
        | (refine SeqNd.any (t := _) rfl rfl (fun v x y h hb => OwnB.below h hb) ?_ fun u => ?_
           · intro W hW hF K hK; go_simp; go_at_call 47; first
             | ((with_reducible refine (dec_app a b _ hab HAB.out).mono ?_); rintro e w5 ⟨v5, rfl, ho5, hb5'⟩; exact hK _ _ hb5' (ho5.mono (Nat.zero_le _)))
             | ((with_reducible refine (decode_calls a _ ha6).mono ?_); rintro e w6 ⟨v6, rfl, ho6, hb6⟩; exact hK _ _ hb6 (ho6.mono (Nat.zero_le _)))
             | ((with_reducible refine (decode_calls b _ hb6').mono ?_); rintro e w6 ⟨v6, rfl, ho6, hb6⟩; exact hK _ _ hb6 (ho6.mono (Nat.zero_le _)))
           simp only [Act.put, List.setIfInBounds_toArray, List.set_cons_zero, List.set_cons_succ])
        | (apply SeqNd.val; · rfl
           · intro W hW hF K hK; go_simp; first | exact hK _ (Below.refl _ _) | (rw [if_neg (by omega)]; exact hK _ (Below.refl _ _))
           simp only [Act.put, List.setIfInBounds_toArray, List.set_cons_zero, List.set_cons_succ])
        | (apply SeqNd.val; · rfl
           · intro W hW hF K hK; have hd := run_string_own (hF.1 (by rfl)); (try rw [app_str] at hd); go_simp; exact hK _ (Below.refl _ _)
           simp only [Act.put, List.setIfInBounds_toArray, List.set_cons_zero, List.set_cons_succ])
        | (apply SeqNd.val; · rfl
           · intro W hW hF K hK; go_simp; go_at_call 45; first
             | ((with_reducible refine (enc_app a b set _ hab).mono ?_); rintro e w2 ⟨rfl, hb2⟩; exact hK _ hb2)
             | ((with_reducible refine (encode_calls a set _ ha5).mono ?_); rintro e w3 ⟨rfl, hb3⟩; exact hK _ hb3)
             | ((with_reducible refine (encode_calls b set _ hb5).mono ?_); rintro e w4 ⟨rfl, hb4⟩; exact hK _ hb4)
           simp only [Act.put, List.setIfInBounds_toArray, List.set_cons_zero, List.set_cons_succ]))
      refine SeqNd.nil ?_
      intro w9 hb9 _
      have hbe := below_then hb1.drew hb9
      go_wp2_with fail
      go_ret
      exact ⟨rfl, hbe⟩


theorem ne37 {c : UInt8} (h : ¬ c = 37) : ((c.toNat : Int) == 37) = false := by
  simp only [beq_eq_false_iff_ne, ne_eq]
  intro h'
  exact h (UInt8.toNat_inj.1 (by show c.toNat = 37; omega))
theorem eq37 {c : UInt8} (h : c = 37) : ((c.toNat : Int) == 37) = true := by rw [h]; rfl

theorem percentParts_walk (a b : ByteArray) (set : Int) (w : World) (hsa : a.size ≤ maxLen) (hsb : b.size ≤ maxLen) (_hset : (Lit.int .i64 set).wf = true) :
    Calls Try.prog 11 #[.string a, .string b, .int .i64 set] w fun e w' => e = .returned (.bool true) ∧ Below w.heap.size w w' := by
  unfold maxLen at hsa hsb
  by_cases ha : 500 < a.size
  · go_enter Try.func11, Try.ntmps11
    go_wp2_with fail
    refine (pctSmall_calls _).mono ?_
    rintro e w1 ⟨rfl, hb1⟩
    go_wp2_with fail
    go_ret
    exact ⟨rfl, hb1⟩
  by_cases hb : 500 < b.size
  · go_enter Try.func11, Try.ntmps11
    go_wp2_with fail
    refine (pctSmall_calls _).mono ?_
    rintro e w1 ⟨rfl, hb1⟩
    go_wp2_with fail
    go_ret
    exact ⟨rfl, hb1⟩
  have hla : a.data.toList.length = a.size := by simp
  have hget : ∀ j (h : j < a.size), a.data.toList[j]? = some a[j] := fun j h => by
    rw [List.getElem?_eq_getElem (by rw [hla]; exact h)]
    rfl
  by_cases h1 : 1 ≤ a.size
  · by_cases hx : a[a.size - 1] = 37
    · exact parts_1 a b set w (by omega) (by omega) h1 (eq37 hx)
    · by_cases h2 : 2 ≤ a.size
      · by_cases hy : a[a.size - 2] = 37
        · exact parts_2 a b set w (by omega) (by omega) h2 (ne37 hx) (eq37 hy)
        · refine parts_5 a b set w (by omega) (by omega) h2 (ne37 hx) (ne37 hy) (hid (decL_append _ _ (fun n hn => ?_) fun n hn => ?_))
          · rw [hla] at hn
            obtain rfl : n = a.size - 1 := by omega
            rw [hget _ (by omega)]
            intro h; exact hx (Option.some.inj h)
          · rw [hla] at hn
            obtain rfl : n = a.size - 2 := by omega
            rw [hget _ (by omega)]
            intro h; exact hy (Option.some.inj h)
      · refine parts_4 a b set w (by omega) (by omega) h1 (by omega) (ne37 hx) (hid (decL_append _ _ (fun n hn => ?_) fun n hn => ?_))
        · rw [hla] at hn
          obtain rfl : n = a.size - 1 := by omega
          rw [hget _ (by omega)]
          intro h; exact hx (Option.some.inj h)
        · rw [hla] at hn
          omega
  · refine parts_3 a b set w (by omega) (by omega) (by omega) (hid (decL_append _ _ (fun n hn => ?_) fun n hn => ?_))
    · rw [hla] at hn; omega
    · rw [hla] at hn; omega
end Go.Proofs.Ytmkgjleojfggcaa
