/-
  The walk of density's Pick. Conditions: at most 100000 numbers.
-/
import Derived.Test.YtllgkmacjncelaaFloatOps
set_option linter.all false
namespace Go.Proofs.Ytllgkmacjncelaa
open Go.RowKit
section
variable {l : List Nat} {wv : Nat} {k : Nat}
theorem leastF_skip (hn : fNaN (l.getD k 0) = true) : leastF l (rk wv) (k + 1) = leastF l (rk wv) k := by rw [leastF, if_pos hn]
theorem greatF_skip (hn : fNaN (l.getD k 0) = true) : greatF l (k + 1) = greatF l k := by rw [greatF, if_pos hn]
theorem leastF_low (hw : fNaN wv = false) (hn : fNaN (l.getD k 0) = false) (h : fGe (l.getD k 0) wv = false) : leastF l (rk wv) (k + 1) = leastF l (rk wv) k := by
  rw [fGe_eq, hn, hw] at h
  have h' : ¬ rk wv ≤ rk (l.getD k 0) := by simpa using h
  rw [leastF, if_neg (by rw [hn]; decide), if_neg fun c => h' c.1]
theorem leastF_first (hw : fNaN wv = false) (hn : fNaN (l.getD k 0) = false) (h : fGe (l.getD k 0) wv = true) (hl : leastF l (rk wv) k = -1) : leastF l (rk wv) (k + 1) = k := by
  rw [fGe_eq, hn, hw] at h
  have h' : rk wv ≤ rk (l.getD k 0) := by simpa using h
  rw [leastF, if_neg (by rw [hn]; decide), if_pos ⟨h', .inl (by omega)⟩]
theorem leastF_less {i : Nat} (hw : fNaN wv = false) (hn : fNaN (l.getD k 0) = false) (h : fGe (l.getD k 0) wv = true) (hl : leastF l (rk wv) k = i) (hi : fNaN (l.getD i 0) = false) (hlt : fLt (l.getD k 0) (l.getD i 0) = true) : leastF l (rk wv) (k + 1) = k := by
  rw [fGe_eq, hn, hw] at h
  have h' : rk wv ≤ rk (l.getD k 0) := by simpa using h
  rw [fLt_eq, hn, hi] at hlt
  have h2 : rk (l.getD k 0) < rk (l.getD i 0) := by simpa using hlt
  rw [leastF, if_neg (by rw [hn]; decide), if_pos ⟨h', .inr (by rw [hl]; exact h2)⟩]
theorem leastF_more {i : Nat} (hw : fNaN wv = false) (hn : fNaN (l.getD k 0) = false) (hl : leastF l (rk wv) k = i) (hi : fNaN (l.getD i 0) = false) (hlt : fLt (l.getD k 0) (l.getD i 0) = false) : leastF l (rk wv) (k + 1) = leastF l (rk wv) k := by
  rw [fLt_eq, hn, hi] at hlt
  have h2 : ¬ rk (l.getD k 0) < rk (l.getD i 0) := by simpa using hlt
  rw [leastF, if_neg (by rw [hn]; decide), if_neg ?_]
  rintro ⟨_, h | h⟩
  · omega
  · rw [hl] at h; exact h2 h
theorem greatF_first (hn : fNaN (l.getD k 0) = false) (hl : greatF l k = -1) : greatF l (k + 1) = k := by
  rw [greatF, if_neg (by rw [hn]; decide), if_pos (.inl (by omega))]
theorem greatF_more {i : Nat} (hn : fNaN (l.getD k 0) = false) (hl : greatF l k = i) (hi : fNaN (l.getD i 0) = false) (hlt : fGt (l.getD k 0) (l.getD i 0) = true) : greatF l (k + 1) = k := by
  rw [fGt_eq, hn, hi] at hlt
  have h2 : rk (l.getD i 0) < rk (l.getD k 0) := by simpa using hlt
  rw [greatF, if_neg (by rw [hn]; decide), if_pos (.inr (by rw [hl]; exact h2))]
theorem greatF_less {i : Nat} (hn : fNaN (l.getD k 0) = false) (hl : greatF l k = i) (hi : fNaN (l.getD i 0) = false) (hlt : fGt (l.getD k 0) (l.getD i 0) = false) : greatF l (k + 1) = greatF l k := by
  rw [fGt_eq, hn, hi] at hlt
  have h2 : ¬ rk (l.getD i 0) < rk (l.getD k 0) := by simpa using hlt
  rw [greatF, if_neg (by rw [hn]; decide), if_neg ?_]
  rintro (h | h)
  · omega
  · rw [hl] at h; exact h2 h
end
def oneF : Nat := 4607182418800017408
def wantB (x : Nat) : Nat := if fNaN x then oneF else x
theorem wantB_num (x : Nat) : fNaN (wantB x) = false := by
  unfold wantB
  cases h : fNaN x
  · simpa using h
  · show fNaN oneF = false
    decide +kernel

set_option maxHeartbeats 4000000 in
theorem pick_calls (v : Value) (l : List Nat) (want : Nat) (w : World) (hv : ReadF w v l) (hl : l.length ≤ 100000) :
    Calls Try.prog 15 #[v, .float .f64 want] w fun e w' => e = .returned (.int .i64 (pickF l (rk (wantB want)))) ∧ Below w.heap.size w w' := by
  obtain ⟨A, c, rfl, hc⟩ := hv.len
  have o1 := ord_lt
  have o2 := ord_gt
  have o4 := ord_eq
  have o3 := ord_ge
  cases hwn : fNaN want
  · have hw := hwn
    have e1 : wantB want = want := by unfold wantB; rw [hwn]; rfl
    rw [e1]
    clear e1
    go_enter Try.func15, Try.ntmps15
    go_wp2_with fail
    refine (isNaN_calls _ _).mono ?_
    rintro e w1 ⟨rfl, rfl⟩
    rw [hwn]
    clear hwn
    go_wp2_with fail
    go_loopw [5, 6, 13] (fun i5 i6 i13 wr => ∃ k : Nat, k ≤ l.length ∧ i13 = .int .i64 k ∧ i5 = .int .i64 (leastF l (rk want) k) ∧ i6 = .int .i64 (greatF l k) ∧ Below w.heap.size w wr) (fun _ _ i _ => l.length - (intOf i).toNat)
    case atStart => exact ⟨0, Nat.zero_le _, rfl, rfl, rfl, Below.refl _ _⟩
    case round =>
      obtain ⟨k, hk, rfl, rfl, rfl, hbw⟩ := hrel
      by_cases hlt : k < l.length
      · obtain ⟨g, off, rfl, hcell⟩ := (hv.below hbw).cellAt hlt
        have c1 := hcell k hlt
        have hle : (leastF l (rk want) k = -1) ∨ ∃ i : Nat, i < k ∧ leastF l (rk want) k = i ∧ fNaN (l.getD i 0) = false := by
          rcases leastF_is l (rk want) k with ⟨h, _⟩ | ⟨i, h1, h2, h3, _⟩
          · exact .inl h
          · exact .inr ⟨i, h1, h2, h3⟩
        have hgr : (greatF l k = -1) ∨ ∃ i : Nat, i < k ∧ greatF l k = i ∧ fNaN (l.getD i 0) = false := by
          rcases greatF_is l k with ⟨h, _⟩ | ⟨i, h1, h2, h3, _⟩
          · exact .inl h
          · exact .inr ⟨i, h1, h2, h3⟩
        have hv1 := hid hv
        clear hv
        cases hn : fNaN (l.getD k 0)
        · cases hge : fGe (l.getD k 0) want
          · have hl1 := leastF_low hw hn hge
            rcases hgr with hgr | ⟨j, hj, hgr, hjn⟩
            · have hr := greatF_first hn hgr
              rw [hgr]
              clear hcell
              generalize l.getD k 0 = x at *
              go_wp2_with fail
              refine (isNaN_calls _ _).mono ?_
              rintro e w2 ⟨rfl, rfl⟩
              rw [hn]
              go_wp2_with fail
              go_roundw
              case rel => exact ⟨k + 1, by omega, by go_num, by rw [hl1], by rw [hr], hbw⟩
              case measure => simp [intOf]; omega
            · have c3 := hcell j (by omega)
              cases hgt : fGt (l.getD k 0) (l.getD j 0)
              · have hr := greatF_less hn hgr hjn hgt
                rw [hgr] at hr
                rw [hgr]
                generalize l.getD j 0 = z at *
                clear hcell
                generalize l.getD k 0 = x at *
                go_wp2_with fail
                refine (isNaN_calls _ _).mono ?_
                rintro e w2 ⟨rfl, rfl⟩
                rw [hn]
                go_wp2_with fail
                go_roundw
                case rel => exact ⟨k + 1, by omega, by go_num, by rw [hl1], by rw [hr], hbw⟩
                case measure => simp [intOf]; omega
              · have hr := greatF_more hn hgr hjn hgt
                rw [hgr]
                generalize l.getD j 0 = z at *
                clear hcell
                generalize l.getD k 0 = x at *
                go_wp2_with fail
                refine (isNaN_calls _ _).mono ?_
                rintro e w2 ⟨rfl, rfl⟩
                rw [hn]
                go_wp2_with fail
                go_roundw
                case rel => exact ⟨k + 1, by omega, by go_num, by rw [hl1], by rw [hr], hbw⟩
                case measure => simp [intOf]; omega
          · rcases hle with hle | ⟨i, hi, hle, hin⟩
            · have hl1 := leastF_first hw hn hge hle
              rw [hle]
              rcases hgr with hgr | ⟨j, hj, hgr, hjn⟩
              · have hr := greatF_first hn hgr
                rw [hgr]
                clear hcell
                generalize l.getD k 0 = x at *
                go_wp2_with fail
                refine (isNaN_calls _ _).mono ?_
                rintro e w2 ⟨rfl, rfl⟩
                rw [hn]
                go_wp2_with fail
                go_roundw
                case rel => exact ⟨k + 1, by omega, by go_num, by rw [hl1], by rw [hr], hbw⟩
                case measure => simp [intOf]; omega
              · have c3 := hcell j (by omega)
                cases hgt : fGt (l.getD k 0) (l.getD j 0)
                · have hr := greatF_less hn hgr hjn hgt
                  rw [hgr] at hr
                  rw [hgr]
                  generalize l.getD j 0 = z at *
                  clear hcell
                  generalize l.getD k 0 = x at *
                  go_wp2_with fail
                  refine (isNaN_calls _ _).mono ?_
                  rintro e w2 ⟨rfl, rfl⟩
                  rw [hn]
                  go_wp2_with fail
                  go_roundw
                  case rel => exact ⟨k + 1, by omega, by go_num, by rw [hl1], by rw [hr], hbw⟩
                  case measure => simp [intOf]; omega
                · have hr := greatF_more hn hgr hjn hgt
                  rw [hgr]
                  generalize l.getD j 0 = z at *
                  clear hcell
                  generalize l.getD k 0 = x at *
                  go_wp2_with fail
                  refine (isNaN_calls _ _).mono ?_
                  rintro e w2 ⟨rfl, rfl⟩
                  rw [hn]
                  go_wp2_with fail
                  go_roundw
                  case rel => exact ⟨k + 1, by omega, by go_num, by rw [hl1], by rw [hr], hbw⟩
                  case measure => simp [intOf]; omega
            · have c2 := hcell i (by omega)
              cases hlf : fLt (l.getD k 0) (l.getD i 0)
              · have hl1 := leastF_more hw hn hle hin hlf
                rw [hle] at hl1
                rw [hle]
                rcases hgr with hgr | ⟨j, hj, hgr, hjn⟩
                · have hr := greatF_first hn hgr
                  rw [hgr]
                  clear hcell
                  generalize l.getD i 0 = y at *
                  generalize l.getD k 0 = x at *
                  go_wp2_with fail
                  refine (isNaN_calls _ _).mono ?_
                  rintro e w2 ⟨rfl, rfl⟩
                  rw [hn]
                  go_wp2_with fail
                  go_roundw
                  case rel => exact ⟨k + 1, by omega, by go_num, by rw [hl1], by rw [hr], hbw⟩
                  case measure => simp [intOf]; omega
                · have c3 := hcell j (by omega)
                  cases hgt : fGt (l.getD k 0) (l.getD j 0)
                  · have hr := greatF_less hn hgr hjn hgt
                    rw [hgr] at hr
                    rw [hgr]
                    generalize l.getD j 0 = z at *
                    clear hcell
                    generalize l.getD i 0 = y at *
                    generalize l.getD k 0 = x at *
                    go_wp2_with fail
                    refine (isNaN_calls _ _).mono ?_
                    rintro e w2 ⟨rfl, rfl⟩
                    rw [hn]
                    go_wp2_with fail
                    go_roundw
                    case rel => exact ⟨k + 1, by omega, by go_num, by rw [hl1], by rw [hr], hbw⟩
                    case measure => simp [intOf]; omega
                  · have hr := greatF_more hn hgr hjn hgt
                    rw [hgr]
                    generalize l.getD j 0 = z at *
                    clear hcell
                    generalize l.getD i 0 = y at *
                    generalize l.getD k 0 = x at *
                    go_wp2_with fail
                    refine (isNaN_calls _ _).mono ?_
                    rintro e w2 ⟨rfl, rfl⟩
                    rw [hn]
                    go_wp2_with fail
                    go_roundw
                    case rel => exact ⟨k + 1, by omega, by go_num, by rw [hl1], by rw [hr], hbw⟩
                    case measure => simp [intOf]; omega
              · have hl1 := leastF_less hw hn hge hle hin hlf
                rw [hle]
                rcases hgr with hgr | ⟨j, hj, hgr, hjn⟩
                · have hr := greatF_first hn hgr
                  rw [hgr]
                  clear hcell
                  generalize l.getD i 0 = y at *
                  generalize l.getD k 0 = x at *
                  go_wp2_with fail
                  refine (isNaN_calls _ _).mono ?_
                  rintro e w2 ⟨rfl, rfl⟩
                  rw [hn]
                  go_wp2_with fail
                  go_roundw
                  case rel => exact ⟨k + 1, by omega, by go_num, by rw [hl1], by rw [hr], hbw⟩
                  case measure => simp [intOf]; omega
                · have c3 := hcell j (by omega)
                  cases hgt : fGt (l.getD k 0) (l.getD j 0)
                  · have hr := greatF_less hn hgr hjn hgt
                    rw [hgr] at hr
                    rw [hgr]
                    generalize l.getD j 0 = z at *
                    clear hcell
                    generalize l.getD i 0 = y at *
                    generalize l.getD k 0 = x at *
                    go_wp2_with fail
                    refine (isNaN_calls _ _).mono ?_
                    rintro e w2 ⟨rfl, rfl⟩
                    rw [hn]
                    go_wp2_with fail
                    go_roundw
                    case rel => exact ⟨k + 1, by omega, by go_num, by rw [hl1], by rw [hr], hbw⟩
                    case measure => simp [intOf]; omega
                  · have hr := greatF_more hn hgr hjn hgt
                    rw [hgr]
                    generalize l.getD j 0 = z at *
                    clear hcell
                    generalize l.getD i 0 = y at *
                    generalize l.getD k 0 = x at *
                    go_wp2_with fail
                    refine (isNaN_calls _ _).mono ?_
                    rintro e w2 ⟨rfl, rfl⟩
                    rw [hn]
                    go_wp2_with fail
                    go_roundw
                    case rel => exact ⟨k + 1, by omega, by go_num, by rw [hl1], by rw [hr], hbw⟩
                    case measure => simp [intOf]; omega
        · have e1 := @leastF_skip l want k hn
          have e2 := greatF_skip hn
          clear hcell
          generalize l.getD k 0 = x at *
          go_wp2_with fail
          refine (isNaN_calls _ _).mono ?_
          rintro e w2 ⟨rfl, rfl⟩
          rw [hn]
          go_wp2_with fail
          go_roundw
          case rel => exact ⟨k + 1, by omega, by go_num, by rw [e1], by rw [e2], hbw⟩
          case measure => simp [intOf]; omega
      · obtain rfl : k = l.length := by omega
        by_cases hp : 0 ≤ leastF l (rk want) l.length
        · go_wp2_with fail
          go_ret
          exact ⟨by rw [pickF, if_pos (by omega)]; rfl, hbw⟩
        · go_wp2_with fail
          go_ret
          exact ⟨by rw [pickF, if_neg (by omega)]; rfl, hbw⟩
  · have e1 : wantB want = 4607182418800017408 := by unfold wantB; rw [hwn]; rfl
    have hw : fNaN 4607182418800017408 = false := by decide +kernel
    rw [e1]
    clear e1
    go_enter Try.func15, Try.ntmps15
    go_wp2_with fail
    refine (isNaN_calls _ _).mono ?_
    rintro e w1 ⟨rfl, rfl⟩
    rw [hwn]
    clear hwn
    go_wp2_with fail
    obtain ⟨wv, hwv⟩ : ∃ wv, wv = 4607182418800017408 := ⟨_, rfl⟩
    rw [← hwv] at hw ⊢
    have hq : Hid (wv = 4607182418800017408) := hid hwv
    clear hwv
    go_loopw [5, 6, 13] (fun i5 i6 i13 wr => ∃ k : Nat, k ≤ l.length ∧ i13 = .int .i64 k ∧ i5 = .int .i64 (leastF l (rk wv) k) ∧ i6 = .int .i64 (greatF l k) ∧ Below w.heap.size w wr) (fun _ _ i _ => l.length - (intOf i).toNat)
    case atStart => exact ⟨0, Nat.zero_le _, rfl, rfl, rfl, Below.refl _ _⟩
    case round =>
      obtain ⟨k, hk, rfl, rfl, rfl, hbw⟩ := hrel
      by_cases hlt : k < l.length
      · obtain ⟨g, off, rfl, hcell⟩ := (hv.below hbw).cellAt hlt
        have c1 := hcell k hlt
        have hle : (leastF l (rk wv) k = -1) ∨ ∃ i : Nat, i < k ∧ leastF l (rk wv) k = i ∧ fNaN (l.getD i 0) = false := by
          rcases leastF_is l (rk wv) k with ⟨h, _⟩ | ⟨i, h1, h2, h3, _⟩
          · exact .inl h
          · exact .inr ⟨i, h1, h2, h3⟩
        have hgr : (greatF l k = -1) ∨ ∃ i : Nat, i < k ∧ greatF l k = i ∧ fNaN (l.getD i 0) = false := by
          rcases greatF_is l k with ⟨h, _⟩ | ⟨i, h1, h2, h3, _⟩
          · exact .inl h
          · exact .inr ⟨i, h1, h2, h3⟩
        have hv1 := hid hv
        clear hv
        cases hn : fNaN (l.getD k 0)
        · cases hge : fGe (l.getD k 0) wv
          · have hl1 := leastF_low hw hn hge
            rcases hgr with hgr | ⟨j, hj, hgr, hjn⟩
            · have hr := greatF_first hn hgr
              rw [hgr]
              clear hcell
              generalize l.getD k 0 = x at *
              go_wp2_with fail
              refine (isNaN_calls _ _).mono ?_
              rintro e w2 ⟨rfl, rfl⟩
              rw [hn]
              go_wp2_with fail
              go_roundw
              case rel => exact ⟨k + 1, by omega, by go_num, by rw [hl1], by rw [hr], hbw⟩
              case measure => simp [intOf]; omega
            · have c3 := hcell j (by omega)
              cases hgt : fGt (l.getD k 0) (l.getD j 0)
              · have hr := greatF_less hn hgr hjn hgt
                rw [hgr] at hr
                rw [hgr]
                generalize l.getD j 0 = z at *
                clear hcell
                generalize l.getD k 0 = x at *
                go_wp2_with fail
                refine (isNaN_calls _ _).mono ?_
                rintro e w2 ⟨rfl, rfl⟩
                rw [hn]
                go_wp2_with fail
                go_roundw
                case rel => exact ⟨k + 1, by omega, by go_num, by rw [hl1], by rw [hr], hbw⟩
                case measure => simp [intOf]; omega
              · have hr := greatF_more hn hgr hjn hgt
                rw [hgr]
                generalize l.getD j 0 = z at *
                clear hcell
                generalize l.getD k 0 = x at *
                go_wp2_with fail
                refine (isNaN_calls _ _).mono ?_
                rintro e w2 ⟨rfl, rfl⟩
                rw [hn]
                go_wp2_with fail
                go_roundw
                case rel => exact ⟨k + 1, by omega, by go_num, by rw [hl1], by rw [hr], hbw⟩
                case measure => simp [intOf]; omega
          · rcases hle with hle | ⟨i, hi, hle, hin⟩
            · have hl1 := leastF_first hw hn hge hle
              rw [hle]
              rcases hgr with hgr | ⟨j, hj, hgr, hjn⟩
              · have hr := greatF_first hn hgr
                rw [hgr]
                clear hcell
                generalize l.getD k 0 = x at *
                go_wp2_with fail
                refine (isNaN_calls _ _).mono ?_
                rintro e w2 ⟨rfl, rfl⟩
                rw [hn]
                go_wp2_with fail
                go_roundw
                case rel => exact ⟨k + 1, by omega, by go_num, by rw [hl1], by rw [hr], hbw⟩
                case measure => simp [intOf]; omega
              · have c3 := hcell j (by omega)
                cases hgt : fGt (l.getD k 0) (l.getD j 0)
                · have hr := greatF_less hn hgr hjn hgt
                  rw [hgr] at hr
                  rw [hgr]
                  generalize l.getD j 0 = z at *
                  clear hcell
                  generalize l.getD k 0 = x at *
                  go_wp2_with fail
                  refine (isNaN_calls _ _).mono ?_
                  rintro e w2 ⟨rfl, rfl⟩
                  rw [hn]
                  go_wp2_with fail
                  go_roundw
                  case rel => exact ⟨k + 1, by omega, by go_num, by rw [hl1], by rw [hr], hbw⟩
                  case measure => simp [intOf]; omega
                · have hr := greatF_more hn hgr hjn hgt
                  rw [hgr]
                  generalize l.getD j 0 = z at *
                  clear hcell
                  generalize l.getD k 0 = x at *
                  go_wp2_with fail
                  refine (isNaN_calls _ _).mono ?_
                  rintro e w2 ⟨rfl, rfl⟩
                  rw [hn]
                  go_wp2_with fail
                  go_roundw
                  case rel => exact ⟨k + 1, by omega, by go_num, by rw [hl1], by rw [hr], hbw⟩
                  case measure => simp [intOf]; omega
            · have c2 := hcell i (by omega)
              cases hlf : fLt (l.getD k 0) (l.getD i 0)
              · have hl1 := leastF_more hw hn hle hin hlf
                rw [hle] at hl1
                rw [hle]
                rcases hgr with hgr | ⟨j, hj, hgr, hjn⟩
                · have hr := greatF_first hn hgr
                  rw [hgr]
                  clear hcell
                  generalize l.getD i 0 = y at *
                  generalize l.getD k 0 = x at *
                  go_wp2_with fail
                  refine (isNaN_calls _ _).mono ?_
                  rintro e w2 ⟨rfl, rfl⟩
                  rw [hn]
                  go_wp2_with fail
                  go_roundw
                  case rel => exact ⟨k + 1, by omega, by go_num, by rw [hl1], by rw [hr], hbw⟩
                  case measure => simp [intOf]; omega
                · have c3 := hcell j (by omega)
                  cases hgt : fGt (l.getD k 0) (l.getD j 0)
                  · have hr := greatF_less hn hgr hjn hgt
                    rw [hgr] at hr
                    rw [hgr]
                    generalize l.getD j 0 = z at *
                    clear hcell
                    generalize l.getD i 0 = y at *
                    generalize l.getD k 0 = x at *
                    go_wp2_with fail
                    refine (isNaN_calls _ _).mono ?_
                    rintro e w2 ⟨rfl, rfl⟩
                    rw [hn]
                    go_wp2_with fail
                    go_roundw
                    case rel => exact ⟨k + 1, by omega, by go_num, by rw [hl1], by rw [hr], hbw⟩
                    case measure => simp [intOf]; omega
                  · have hr := greatF_more hn hgr hjn hgt
                    rw [hgr]
                    generalize l.getD j 0 = z at *
                    clear hcell
                    generalize l.getD i 0 = y at *
                    generalize l.getD k 0 = x at *
                    go_wp2_with fail
                    refine (isNaN_calls _ _).mono ?_
                    rintro e w2 ⟨rfl, rfl⟩
                    rw [hn]
                    go_wp2_with fail
                    go_roundw
                    case rel => exact ⟨k + 1, by omega, by go_num, by rw [hl1], by rw [hr], hbw⟩
                    case measure => simp [intOf]; omega
              · have hl1 := leastF_less hw hn hge hle hin hlf
                rw [hle]
                rcases hgr with hgr | ⟨j, hj, hgr, hjn⟩
                · have hr := greatF_first hn hgr
                  rw [hgr]
                  clear hcell
                  generalize l.getD i 0 = y at *
                  generalize l.getD k 0 = x at *
                  go_wp2_with fail
                  refine (isNaN_calls _ _).mono ?_
                  rintro e w2 ⟨rfl, rfl⟩
                  rw [hn]
                  go_wp2_with fail
                  go_roundw
                  case rel => exact ⟨k + 1, by omega, by go_num, by rw [hl1], by rw [hr], hbw⟩
                  case measure => simp [intOf]; omega
                · have c3 := hcell j (by omega)
                  cases hgt : fGt (l.getD k 0) (l.getD j 0)
                  · have hr := greatF_less hn hgr hjn hgt
                    rw [hgr] at hr
                    rw [hgr]
                    generalize l.getD j 0 = z at *
                    clear hcell
                    generalize l.getD i 0 = y at *
                    generalize l.getD k 0 = x at *
                    go_wp2_with fail
                    refine (isNaN_calls _ _).mono ?_
                    rintro e w2 ⟨rfl, rfl⟩
                    rw [hn]
                    go_wp2_with fail
                    go_roundw
                    case rel => exact ⟨k + 1, by omega, by go_num, by rw [hl1], by rw [hr], hbw⟩
                    case measure => simp [intOf]; omega
                  · have hr := greatF_more hn hgr hjn hgt
                    rw [hgr]
                    generalize l.getD j 0 = z at *
                    clear hcell
                    generalize l.getD i 0 = y at *
                    generalize l.getD k 0 = x at *
                    go_wp2_with fail
                    refine (isNaN_calls _ _).mono ?_
                    rintro e w2 ⟨rfl, rfl⟩
                    rw [hn]
                    go_wp2_with fail
                    go_roundw
                    case rel => exact ⟨k + 1, by omega, by go_num, by rw [hl1], by rw [hr], hbw⟩
                    case measure => simp [intOf]; omega
        · have e1 := @leastF_skip l wv k hn
          have e2 := greatF_skip hn
          clear hcell
          generalize l.getD k 0 = x at *
          go_wp2_with fail
          refine (isNaN_calls _ _).mono ?_
          rintro e w2 ⟨rfl, rfl⟩
          rw [hn]
          go_wp2_with fail
          go_roundw
          case rel => exact ⟨k + 1, by omega, by go_num, by rw [e1], by rw [e2], hbw⟩
          case measure => simp [intOf]; omega
      · obtain rfl : k = l.length := by omega
        by_cases hp : 0 ≤ leastF l (rk wv) l.length
        · go_wp2_with fail
          go_ret
          exact ⟨by rw [← hq.out, pickF, if_pos (by omega)]; rfl, hbw⟩
        · go_wp2_with fail
          go_ret
          exact ⟨by rw [← hq.out, pickF, if_neg (by omega)]; rfl, hbw⟩
end Go.Proofs.Ytllgkmacjncelaa
