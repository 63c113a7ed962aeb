/-
  The walk of DensityPicks. Conditions: none but what the theorem says.
-/
import Derived.Test.YtllgkmacjncelaaDensSmall
import Derived.Test.YtllgkmacjncelaaDensLaws
import Derived.BigQuiet
import Derived.Test.YtllgkmacjncelaaSeqDet
set_option linter.all false
namespace Go.Proofs.Ytllgkmacjncelaa
open Go.RowKit
theorem better_no {l : List Nat} {wv i j : Nat} (hw : fNaN wv = false) (hi : fNaN (l.getD i 0) = false) (hj : fNaN (l.getD j 0) = false) (h : noWorse l (rk wv) i j) :
    (fGe (l.getD i 0) wv = true ∧ fLt (l.getD i 0) wv = false ∧ fGe (l.getD j 0) wv = false) ∨
    (fGe (l.getD i 0) wv = true ∧ fLt (l.getD i 0) wv = false ∧ fGe (l.getD j 0) wv = true ∧ fLt (l.getD j 0) (l.getD i 0) = false ∧ fEq (l.getD j 0) (l.getD i 0) = false) ∨
    (fGe (l.getD i 0) wv = true ∧ fLt (l.getD i 0) wv = false ∧ fGe (l.getD j 0) wv = true ∧ fLt (l.getD j 0) (l.getD i 0) = false ∧ fEq (l.getD j 0) (l.getD i 0) = true ∧ decide (j < i) = false) ∨
    (fGe (l.getD i 0) wv = false ∧ fLt (l.getD i 0) wv = true ∧ fGe (l.getD j 0) wv = false ∧ fGt (l.getD j 0) (l.getD i 0) = false ∧ fEq (l.getD j 0) (l.getD i 0) = false) ∨
    (fGe (l.getD i 0) wv = false ∧ fLt (l.getD i 0) wv = true ∧ fGe (l.getD j 0) wv = false ∧ fGt (l.getD j 0) (l.getD i 0) = false ∧ fEq (l.getD j 0) (l.getD i 0) = true ∧ decide (j < i) = false) := by
  simp only [fGe_eq, fLt_eq, fGt_eq, fEq_eq, hw, hi, hj, Bool.not_false, Bool.true_and, decide_eq_true_eq, decide_eq_false_iff_not]
  unfold noWorse at h
  omega
set_option maxHeartbeats 8000000 in
set_option maxRecDepth 4000 in
theorem picks_num (v : Value) (l : List Nat) (want : Nat) (w : World) (hv : ReadF w v l) (hl : l.length ≤ 100) (hwn : fNaN want = false) :
    Calls Try.prog 5 #[v, .float .f64 want] w fun e w' => e = .returned (.bool true) ∧ Below w.heap.size w w' := by
  obtain ⟨A, c, rfl, hc⟩ := hv.len
  have o1 := ord_lt
  have o2 := ord_gt
  have o3 := ord_eq
  have o4 := ord_ge
  have o5 := ord_ne
  have o6 := fNe_self
  have he : wantB want = want := by unfold wantB; rw [hwn]; rfl
  have hw := hwn
  have hwe : fNe want want = false := by rw [o6, hwn]
  have d1 : decide ((100 : Int) < (l.length : Int)) = false := by simp; omega
  go_enter Try.func5, Try.ntmps5
  go_wp2_with fail
  refine (densSmall_calls _).mono ?_
  rintro e w1 ⟨rfl, hb⟩
  go_wp2_with fail
  refine (pick_calls _ l _ _ (hv.below hb) (by omega)).mono ?_
  rintro e w2 ⟨rfl, hb2⟩
  have hb := hb.trans (hb2.mono hb.size)
  clear hb2
  have hp := pickF_is l (rk (wantB want))
  rw [he] at hp ⊢
  rcases hp with ⟨hp, hall⟩ | ⟨p, hpl, hp, hpn, hbest⟩
  · rw [hp]
    have d3 : decide ((l.length : Int) ≤ -1) = false := by simp; omega
    go_wp2_with fail
    go_loopw [7] (fun i wr => ∃ k : Nat, k ≤ l.length ∧ i = .int .i64 k ∧ Below w.heap.size w wr) (fun i _ => l.length - (intOf i).toNat)
    case atStart => exact ⟨0, Nat.zero_le _, rfl, hb⟩
    case round =>
      obtain ⟨k, hk, rfl, hbw⟩ := hrel
      by_cases hlt : k < l.length
      · obtain ⟨g, off, rfl, hcell⟩ := (hv.below hbw).cellAt hlt
        have c1 := hcell k hlt
        have hn := hall k hlt
        have hv1 := hid hv
        have ha1 := hid hall
        clear hv hcell hall
        generalize l.getD k 0 = x at *
        have hn2 : fNe x x = true := by rw [o6, hn]
        clear o6
        go_wp2_with fail
        go_region
        go_wp2_with fail
        go_roundw
        case rel => exact ⟨k + 1, by omega, by go_num, hbw.drew⟩
        case measure => simp [intOf]; omega
      · obtain rfl : k = l.length := by omega
        go_wp2_with fail
        go_quiet (fail)
        go_wp2_with fail
        go_ret
        exact ⟨rfl, below_drewN hbw _⟩
  · rw [hp]
    have d2 : decide ((p : Int) < -1) = false := by simp <;> omega
    have d3 : decide (l.length ≤ p) = false := by simp [hpl]
    go_wp2_with fail
    go_loopw [7] (fun i wr => ∃ k : Nat, k ≤ l.length ∧ i = .int .i64 k ∧ Below w.heap.size w wr) (fun i _ => l.length - (intOf i).toNat)
    case atStart => exact ⟨0, Nat.zero_le _, rfl, hb⟩
    case round =>
      obtain ⟨k, hk, rfl, hbw⟩ := hrel
      obtain ⟨g, off, rfl, hcell⟩ := (hv.below hbw).cellAt hpl
      have c2 := hcell p hpl
      have hv1 := hid hv
      clear hv
      by_cases hlt : k < l.length
      · have c1 := hcell k hlt
        clear hcell
        cases hn : fNaN (l.getD k 0)
        · have hcase := better_no hw hpn hn (hbest k hlt hn)
          have hn2 : fNe (l.getD k 0) (l.getD k 0) = false := by rw [o6, hn]
          clear hbest
          generalize l.getD k 0 = x at *
          generalize l.getD p 0 = y at *
          rcases hcase with ⟨a1, a2, a3⟩ | ⟨a1, a2, a3, a4, a5⟩ | ⟨a1, a2, a3, a4, a5, a6⟩ | ⟨a1, a2, a3, a4, a5⟩ | ⟨a1, a2, a3, a4, a5, a6⟩
          all_goals
            clear o6
            go_wp2_with fail
            go_region
            go_wp2_with fail
            refine region_seq (fun W => W.cell? ⟨g, off + k, none⟩ = some (.float .f64 x) ∧ W.cell? ⟨g, off + p, none⟩ = some (.float .f64 y) ∧ Below w.heap.size w W) (by kernel_rfl) (by kernel_rfl) ⟨c1, c2, hbw.drew.drew⟩ ?_
            clear c1 c2 hbw
            simp only []
            repeat (first
              | (apply SeqDet.stepK; · rfl
                 · intro W hW K hK; have hc1 := hW.1; have hc2 := hW.2.1; go_simp; exact hK _ hW
                 simp only [Act.put, List.setIfInBounds_toArray, List.set_cons_zero, List.set_cons_succ])
              | (apply SeqDet.skip; · rfl
                 simp only [Act.put, List.setIfInBounds_toArray, List.set_cons_zero, List.set_cons_succ]))
            refine SeqDet.nil ?_
            intro w6 hw6
            obtain ⟨_, _, hb6⟩ := hw6
            go_wp2_with fail
            go_roundw
            case rel => exact ⟨k + 1, by omega, by go_num, hb6⟩
            case measure => simp [intOf]; omega
        · have hn2 : fNe (l.getD k 0) (l.getD k 0) = true := by rw [o6, hn]
          clear hbest
          generalize l.getD k 0 = x at *
          clear o6
          go_wp2_with fail
          go_region
          go_wp2_with fail
          go_roundw
          case rel => exact ⟨k + 1, by omega, by go_num, hbw.drew⟩
          case measure => simp [intOf]; omega
      · obtain rfl : k = l.length := by omega
        have hpe : fEq (l.getD p 0) (l.getD p 0) = true := by rw [fEq_eq, hpn]; simp
        clear hbest hcell
        generalize l.getD p 0 = y at *
        go_wp2_with fail
        go_quiet (fail)
        go_wp2_with fail
        go_ret
        exact ⟨rfl, below_drewN hbw _⟩
set_option maxHeartbeats 8000000 in
set_option maxRecDepth 4000 in
theorem picks_none (v : Value) (l : List Nat) (want : Nat) (w : World) (hv : ReadF w v l) (hl : l.length ≤ 100) (hwn : fNaN want = true) :
    Calls Try.prog 5 #[v, .float .f64 want] w fun e w' => e = .returned (.bool true) ∧ Below w.heap.size w w' := by
  obtain ⟨A, c, rfl, hc⟩ := hv.len
  have o1 := ord_lt
  have o2 := ord_gt
  have o3 := ord_eq
  have o4 := ord_ge
  have o5 := ord_ne
  have o6 := fNe_self
  have he : wantB want = 4607182418800017408 := by unfold wantB; rw [hwn]; rfl
  have hw : fNaN 4607182418800017408 = false := by decide +kernel
  have hwe : fNe want want = true := by rw [o6, hwn]
  have d1 : decide ((100 : Int) < (l.length : Int)) = false := by simp; omega
  go_enter Try.func5, Try.ntmps5
  go_wp2_with fail
  refine (densSmall_calls _).mono ?_
  rintro e w1 ⟨rfl, hb⟩
  go_wp2_with fail
  refine (pick_calls _ l _ _ (hv.below hb) (by omega)).mono ?_
  rintro e w2 ⟨rfl, hb2⟩
  have hb := hb.trans (hb2.mono hb.size)
  clear hb2
  have hp := pickF_is l (rk (wantB want))
  rw [he] at hp ⊢
  rcases hp with ⟨hp, hall⟩ | ⟨p, hpl, hp, hpn, hbest⟩
  · rw [hp]
    have d3 : decide ((l.length : Int) ≤ -1) = false := by simp; omega
    go_wp2_with fail
    go_loopw [7] (fun i wr => ∃ k : Nat, k ≤ l.length ∧ i = .int .i64 k ∧ Below w.heap.size w wr) (fun i _ => l.length - (intOf i).toNat)
    case atStart => exact ⟨0, Nat.zero_le _, rfl, hb⟩
    case round =>
      obtain ⟨k, hk, rfl, hbw⟩ := hrel
      by_cases hlt : k < l.length
      · obtain ⟨g, off, rfl, hcell⟩ := (hv.below hbw).cellAt hlt
        have c1 := hcell k hlt
        have hn := hall k hlt
        have hv1 := hid hv
        have ha1 := hid hall
        clear hv hcell hall
        generalize l.getD k 0 = x at *
        have hn2 : fNe x x = true := by rw [o6, hn]
        clear o6
        go_wp2_with fail
        go_region
        go_wp2_with fail
        go_roundw
        case rel => exact ⟨k + 1, by omega, by go_num, hbw.drew⟩
        case measure => simp [intOf]; omega
      · obtain rfl : k = l.length := by omega
        go_wp2_with fail
        go_quiet (fail)
        go_wp2_with fail
        go_ret
        exact ⟨rfl, below_drewN hbw _⟩
  · rw [hp]
    have d2 : decide ((p : Int) < -1) = false := by simp <;> omega
    have d3 : decide (l.length ≤ p) = false := by simp [hpl]
    go_wp2_with fail
    go_loopw [7] (fun i wr => ∃ k : Nat, k ≤ l.length ∧ i = .int .i64 k ∧ Below w.heap.size w wr) (fun i _ => l.length - (intOf i).toNat)
    case atStart => exact ⟨0, Nat.zero_le _, rfl, hb⟩
    case round =>
      obtain ⟨k, hk, rfl, hbw⟩ := hrel
      obtain ⟨g, off, rfl, hcell⟩ := (hv.below hbw).cellAt hpl
      have c2 := hcell p hpl
      have hv1 := hid hv
      clear hv
      by_cases hlt : k < l.length
      · have c1 := hcell k hlt
        clear hcell
        cases hn : fNaN (l.getD k 0)
        · have hcase := better_no hw hpn hn (hbest k hlt hn)
          have hn2 : fNe (l.getD k 0) (l.getD k 0) = false := by rw [o6, hn]
          clear hbest
          generalize l.getD k 0 = x at *
          generalize l.getD p 0 = y at *
          rcases hcase with ⟨a1, a2, a3⟩ | ⟨a1, a2, a3, a4, a5⟩ | ⟨a1, a2, a3, a4, a5, a6⟩ | ⟨a1, a2, a3, a4, a5⟩ | ⟨a1, a2, a3, a4, a5, a6⟩
          all_goals
            clear o6
            go_wp2_with fail
            go_region
            go_wp2_with fail
            refine region_seq (fun W => W.cell? ⟨g, off + k, none⟩ = some (.float .f64 x) ∧ W.cell? ⟨g, off + p, none⟩ = some (.float .f64 y) ∧ Below w.heap.size w W) (by kernel_rfl) (by kernel_rfl) ⟨c1, c2, hbw.drew.drew⟩ ?_
            clear c1 c2 hbw
            simp only []
            repeat (first
              | (apply SeqDet.stepK; · rfl
                 · intro W hW K hK; have hc1 := hW.1; have hc2 := hW.2.1; go_simp; exact hK _ hW
                 simp only [Act.put, List.setIfInBounds_toArray, List.set_cons_zero, List.set_cons_succ])
              | (apply SeqDet.skip; · rfl
                 simp only [Act.put, List.setIfInBounds_toArray, List.set_cons_zero, List.set_cons_succ]))
            refine SeqDet.nil ?_
            intro w6 hw6
            obtain ⟨_, _, hb6⟩ := hw6
            go_wp2_with fail
            go_roundw
            case rel => exact ⟨k + 1, by omega, by go_num, hb6⟩
            case measure => simp [intOf]; omega
        · have hn2 : fNe (l.getD k 0) (l.getD k 0) = true := by rw [o6, hn]
          clear hbest
          generalize l.getD k 0 = x at *
          clear o6
          go_wp2_with fail
          go_region
          go_wp2_with fail
          go_roundw
          case rel => exact ⟨k + 1, by omega, by go_num, hbw.drew⟩
          case measure => simp [intOf]; omega
      · obtain rfl : k = l.length := by omega
        have hpe : fEq (l.getD p 0) (l.getD p 0) = true := by rw [fEq_eq, hpn]; simp
        clear hbest hcell
        generalize l.getD p 0 = y at *
        go_wp2_with fail
        go_quiet (fail)
        go_wp2_with fail
        go_ret
        exact ⟨rfl, below_drewN hbw _⟩
set_option maxHeartbeats 4000000 in
set_option maxRecDepth 4000 in
theorem picks_calls (v : Value) (l : List Nat) (want : Nat) (w : World) (hv : ReadF w v l) :
    Calls Try.prog 5 #[v, .float .f64 want] w fun e w' => e = .returned (.bool true) ∧ Below w.heap.size w w' := by
  by_cases hl : l.length ≤ 100
  · cases hwn : fNaN want
    · exact picks_num v l want w hv hl hwn
    · exact picks_none v l want w hv hl hwn
  · obtain ⟨A, c, rfl, hc⟩ := hv.len
    go_enter Try.func5, Try.ntmps5
    go_wp2_with fail
    refine (densSmall_calls _).mono ?_
    rintro e w1 ⟨rfl, hb⟩
    go_wp2_with fail
    go_ret
    exact ⟨rfl, hb⟩
end Go.Proofs.Ytllgkmacjncelaa
