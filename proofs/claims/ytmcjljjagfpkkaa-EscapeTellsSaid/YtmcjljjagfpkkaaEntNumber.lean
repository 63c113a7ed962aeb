/-
  The contracts of Number, the program's and the document's. Conditions: the number is one of 64 bits.
-/
import Derived.Test.YtmcjljjagfpkkaaEntSign
set_option linter.all false
namespace Go.Proofs.Ytmcjljjagfpkkaa
open Go.RowKit
set_option maxHeartbeats 2000000 in
theorem refSign_calls (n : Int) (w : World) :
    Calls Try.prog 40 #[.int .i64 n] w fun e w' => e = .returned (.string (Utf8.encode n)) ∧ Below w.heap.size w w' := by
  by_cases hb : n < 0 ∨ (55296 ≤ n ∧ n ≤ 57343) ∨ 1114111 < n
  · rw [encode_bad (valid_no hb)]
    rcases hb with hb | hb | hb
    · have d1 : decide (n < 0) = true := decide_eq_true hb
      have hd : (convert 34 9 (.slice (some ⟨w.heap.size, 0, none⟩) 3 3)).run Try.prog (w.alloc (.cells #[.int .u8 239, .int .u8 191, .int .u8 189] 5)) = .ok (.string ⟨#[239, 191, 189]⟩) (w.alloc (.cells #[.int .u8 239, .int .u8 191, .int .u8 189] 5)) := lit_conv w [239, 191, 189]
      go_enter Try.func40, Try.ntmps40
      go_wp2
      go_ret
      exact ⟨rfl, (Below.refl _ _).alloc (Nat.le_refl _) _⟩
    · have d1 : decide (n < 0) = false := decide_eq_false (by omega)
      have d2 : decide (1114111 < n) = false := decide_eq_false (by omega)
      have d3 : decide (55296 ≤ n) = true := decide_eq_true hb.1
      have d4 : decide (n ≤ 57343) = true := decide_eq_true hb.2
      have hd : (convert 34 9 (.slice (some ⟨w.heap.size, 0, none⟩) 3 3)).run Try.prog (w.alloc (.cells #[.int .u8 239, .int .u8 191, .int .u8 189] 5)) = .ok (.string ⟨#[239, 191, 189]⟩) (w.alloc (.cells #[.int .u8 239, .int .u8 191, .int .u8 189] 5)) := lit_conv w [239, 191, 189]
      go_enter Try.func40, Try.ntmps40
      go_wp2
      go_ret
      exact ⟨rfl, (Below.refl _ _).alloc (Nat.le_refl _) _⟩
    · have d1 : decide (n < 0) = false := decide_eq_false (by omega)
      have d2 : decide (1114111 < n) = true := decide_eq_true hb
      have hd : (convert 34 9 (.slice (some ⟨w.heap.size, 0, none⟩) 3 3)).run Try.prog (w.alloc (.cells #[.int .u8 239, .int .u8 191, .int .u8 189] 5)) = .ok (.string ⟨#[239, 191, 189]⟩) (w.alloc (.cells #[.int .u8 239, .int .u8 191, .int .u8 189] 5)) := lit_conv w [239, 191, 189]
      go_enter Try.func40, Try.ntmps40
      go_wp2
      go_ret
      exact ⟨rfl, (Below.refl _ _).alloc (Nat.le_refl _) _⟩
  · obtain ⟨m, rfl⟩ : ∃ m : Nat, n = (m : Int) := ⟨n.toNat, by omega⟩
    exact refSign_ok m w (by omega)
def showTab : Array Value := #[.int .i64 8364, .int .i64 129, .int .i64 8218, .int .i64 402, .int .i64 8222, .int .i64 8230, .int .i64 8224, .int .i64 8225, .int .i64 710, .int .i64 8240, .int .i64 352, .int .i64 8249, .int .i64 338, .int .i64 141, .int .i64 381, .int .i64 143, .int .i64 144, .int .i64 8216, .int .i64 8217, .int .i64 8220, .int .i64 8221, .int .i64 8226, .int .i64 8211, .int .i64 8212, .int .i64 732, .int .i64 8482, .int .i64 353, .int .i64 8250, .int .i64 339, .int .i64 157, .int .i64 382, .int .i64 376]
def showZero : Array Value := #[.int .i64 0, .int .i64 0, .int .i64 0, .int .i64 0, .int .i64 0, .int .i64 0, .int .i64 0, .int .i64 0, .int .i64 0, .int .i64 0, .int .i64 0, .int .i64 0, .int .i64 0, .int .i64 0, .int .i64 0, .int .i64 0, .int .i64 0, .int .i64 0, .int .i64 0, .int .i64 0, .int .i64 0, .int .i64 0, .int .i64 0, .int .i64 0, .int .i64 0, .int .i64 0, .int .i64 0, .int .i64 0, .int .i64 0, .int .i64 0, .int .i64 0, .int .i64 0]
theorem showTab_get (j : Nat) (h : j < 32) : showTab[j]? = some (.int .i64 (showsL.getD j 0)) := by
  have key : ∀ i : Fin 32, showTab[i.val]? = some (.int .i64 (showsL.getD i.val 0)) := fun i => by
    have hm : showTab = (showsL.map fun x => Value.int .i64 x).toArray := rfl
    rw [hm, List.getElem?_toArray, List.getElem?_map]
    have hl : i.val < showsL.length := i.2
    rw [List.getElem?_eq_getElem hl, List.getD_eq_getElem?_getD, List.getElem?_eq_getElem hl]
    rfl
  exact key ⟨j, h⟩
theorem wpList_alloc_any {ops : Array Oper} {rest : List Oper} {o : Oper} {a : Act} {Q : Exit → Act → World → Prop} (hg : o.guard = none) (t : TypeId) (hop : o.op = .alloc t) (w : World) (c : Array Value)
    (hr : ∀ old, (Instr.alloc t true old).run Try.prog w = .ok (.pointer (some ⟨w.heap.size, 0, none⟩)) (w.alloc (.cells c t)))
    (hK : wpList Try.prog ops Q rest (a.put o.dst (.pointer (some ⟨w.heap.size, 0, none⟩))) (w.alloc (.cells c t))) : wpList Try.prog ops Q (o :: rest) a w := by
  refine wpList_plain hg fun K' hK' => ?_
  unfold Oper.wp
  simp [execOp, hop, hr, Result.andThen]
  exact hK' _ _ hK
theorem run_alloc_show (w : World) (old : Value) : (Instr.alloc 59 true old).run Try.prog w = .ok (.pointer (some ⟨w.heap.size, 0, none⟩)) (w.alloc (.cells showZero 59)) := by kernel_rfl
set_option maxHeartbeats 4000000 in
set_option maxRecDepth 100000 in
theorem shown_calls (n : Int) (w : World) :
    Calls Try.prog 39 #[.int .i64 n] w fun e w' => e = .returned (.int .i64 (shownL n)) ∧ Below w.heap.size w w' := by
  go_enter Try.func39, Try.ntmps39
  go_upto_region 1 with (fail)
  apply wp_region_lit
  refine wpList_build_any rfl 59 _ rfl _ (.agg showTab) (by kernel_rfl) ?_
  simp only [Act.put, List.setIfInBounds_toArray, List.set_cons_zero, List.set_cons_succ]
  refine wpList_alloc_any rfl 59 rfl _ showZero (fun old => run_alloc_show w old) ?_
  simp only [Act.put, List.setIfInBounds_toArray, List.set_cons_zero, List.set_cons_succ]
  refine wpList_store_new rfl 59 _ _ rfl w showZero showTab _ rfl rfl rfl (by kernel_rfl) (by kernel_rfl) (by kernel_rfl) ?_
  simp only [Act.put, List.setIfInBounds_toArray, List.set_cons_zero, List.set_cons_succ]
  apply wpList_nil
  have HC := hid (fun j h => (World.cell?_alloc_mark w showTab 59 (0, 0) j).trans (showTab_get j h))
  have HB := hid (alloc_belowE w (.cells showTab 59))
  generalize w.alloc (.cells showTab 59) = w1 at *
  by_cases h1 : 128 ≤ n
  · by_cases h2 : n ≤ 159
    · obtain ⟨j, hj⟩ : ∃ j : Nat, n = (j : Int) + 128 := ⟨(n - 128).toNat, by omega⟩
      subst hj
      have hs : shownL ((j : Int) + 128) = showsL.getD j 0 := by
        unfold shownL
        rw [if_pos ⟨h1, h2⟩]
        congr 1
        omega
      have hcell := HC.out j (by omega)
      have hj32 : j < 32 := by omega
      have hW : IntKind.i64.wrap ((j : Int) + 128 - 128) = (j : Int) := by rw [IntWalk.i64_in _ (by omega)]; omega
      have hW2 : (j : Int) + 128 - 128 = (j : Int) := by omega
      have d1 : decide ((128 : Int) ≤ (j : Int) + 128) = true := decide_eq_true h1
      have d2 : decide ((j : Int) + 128 ≤ 159) = true := decide_eq_true h2
      have HS := hid hs
      clear h1 h2 hs
      go_wp2_with fail
      go_ret
      exact ⟨ret_int HS.out.symm, HB.out⟩
    · have hs : shownL n = n := by unfold shownL; rw [if_neg (by omega)]
      have d1 : decide (128 ≤ n) = true := decide_eq_true h1
      have d2 : decide (n ≤ 159) = false := decide_eq_false h2
      have HS := hid hs
      clear h1 h2 hs
      go_wp2_with fail
      go_ret
      exact ⟨ret_int HS.out.symm, HB.out⟩
  · have hs : shownL n = n := by unfold shownL; rw [if_neg (by omega)]
    have d1 : decide (128 ≤ n) = false := decide_eq_false h1
    have HS := hid hs
    clear h1 hs
    go_wp2_with fail
    go_ret
    exact ⟨ret_int HS.out.symm, HB.out⟩
theorem sigL_str (n : Int) : strB (sigL n) = Utf8.encode n := strB_of _
theorem shownL_bd (n : Int) (h1 : -9223372036854775808 ≤ n) (h2 : n ≤ 9223372036854775807) : -9223372036854775808 ≤ shownL n ∧ shownL n ≤ 9223372036854775807 := by
  unfold shownL
  split
  · have key : ∀ i : Fin 32, 0 ≤ showsL.getD i.val 0 ∧ showsL.getD i.val 0 ≤ 10000 := by decide +kernel
    have := key ⟨(n - 128).toNat, by omega⟩
    simp only [] at this
    omega
  · exact ⟨h1, h2⟩
set_option maxHeartbeats 2000000 in
theorem number_calls (n : Int) (w : World) (h1 : -9223372036854775808 ≤ n) (h2 : n ≤ 9223372036854775807) :
    Calls Try.prog 16 #[.int .i64 n] w fun e w' => e = .returned (.string (strB (numberL n))) ∧ Below w.heap.size w w' := by
  unfold numberL
  by_cases h0 : n = 0
  · subst h0
    rw [if_pos rfl, sigL_str]
    clear h1 h2
    go_enter Try.func16, Try.ntmps16
    go_wp2_with fail
    refine (sign_calls 65533 w (by omega) (by omega)).mono ?_
    rintro e w' ⟨rfl, rfl⟩
    go_wp2_with fail
    go_ret
    exact ⟨rfl, Below.refl _ _⟩
  · rw [if_neg h0, sigL_str]
    have hb := hid (shownL_bd n h1 h2)
    have HS := hid (fun w => shown_calls n w)
    have d0 : (n == 0) = false := by rw [beq_eq_false_iff_ne]; exact h0
    generalize shownL n = m at *
    clear h1 h2 h0
    go_enter Try.func16, Try.ntmps16
    go_wp2_with fail
    refine (HS.out w).mono ?_
    rintro e w1 ⟨rfl, hb1⟩
    have HB := hid hb1
    clear hb1
    go_wp2_with fail
    refine (sign_calls m w1 hb.out.1 hb.out.2).mono ?_
    rintro e w' ⟨rfl, rfl⟩
    go_wp2_with fail
    go_ret
    exact ⟨rfl, HB.out⟩
end Go.Proofs.Ytmcjljjagfpkkaa
