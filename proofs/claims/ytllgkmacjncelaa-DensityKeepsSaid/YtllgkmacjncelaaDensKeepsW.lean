/-
  The walk of DensityKeeps. Conditions: each number is of 64 bits.
-/
import Derived.Test.YtllgkmacjncelaaDensSmall
import Derived.Test.YtllgkmacjncelaaDensKeepsL
import Derived.Test.YtllgkmacjncelaaFlts
import Derived.Test.YtllgkmacjncelaaSeqDet
import Derived.BigQuiet
set_option linter.all false
namespace Go.Proofs.Ytllgkmacjncelaa
open Go.RowKit
theorem flts_one (w : World) (x : Nat) (t : TypeId) : ReadF (w.alloc (.cells #[.float .f64 x] t)) (.slice (some ⟨w.heap.size, 0, none⟩) 1 1) [x] := ReadF.made w [x] t
theorem lt_of_cell {w : World} {g off : Nat} {v : Value} (h : w.cell? ⟨g, off, none⟩ = some v) : g < w.heap.size := by
  rcases Nat.lt_or_ge g w.heap.size with hlt | hge
  · exact hlt
  · simp [World.cell?, Array.getElem?_eq_none hge] at h
set_option maxHeartbeats 8000000 in
set_option maxRecDepth 100000 in
theorem keeps_calls (v : Value) (l : List Nat) (want : Nat) (w : World) (hv : ReadF w v l) (hw64 : ∀ x ∈ l, x < 2 ^ 64) :
    Calls Try.prog 6 #[v, .float .f64 want] w fun e w' => e = .returned (.bool true) ∧ Below w.heap.size w w' := by
  obtain ⟨A, c, rfl, hc⟩ := hv.len
  have o1 := ord_lt
  have o2 := ord_gt
  have o3 := ord_eq
  have o4 := ord_ge
  have o5 := ord_ne
  by_cases hl : l.length ≤ 100
  · go_enter Try.func6, Try.ntmps6
    go_wp2_with fail
    refine (densSmall_calls _).mono ?_
    rintro e w1 ⟨rfl, hb1⟩
    go_wp2_with fail
    refine (kept_calls _ l _ (hv.below hb1) (by omega) hw64).mono ?_
    rintro e w2 ⟨u, rfl, hou, hb2⟩
    have hb2 := hb1.trans (hb2.mono hb1.size)
    go_wp2_with fail
    refine (pick_calls _ l _ _ (hv.below hb2) (by omega)).mono ?_
    rintro e w3 ⟨rfl, hb3⟩
    have hru0 := hou.read.below hb3
    have hb := hb2.trans (hb3.mono hb2.size)
    clear hou hb1 hb2 hb3 hw64
    have Hat := hid (fun i => @keeps_at l i)
    have Hhad := hid (fun i => @hadB_all l i)
    have His := hid (isB_all l (rk (wantB want)))
    have Hto := hid (keeps_to l (rk (wantB want)))
    have hML : (keptV l).length = (keptI l l.length).length := by rw [keptV_len, keptI_len]
    have hKl : (keptI l l.length).length ≤ 100 := by have := keptF_le l l.length; unfold keptI; rw [List.length_map]; omega
    have hab : -1 ≤ pickF l (rk (wantB want)) ∧ pickF l (rk (wantB want)) < 200 := by
      rcases pickF_is l (rk (wantB want)) with ⟨e, _⟩ | ⟨i, hi, e, _⟩ <;> omega
    obtain ⟨K, hK⟩ : ∃ K, K = keptI l l.length := ⟨_, rfl⟩
    obtain ⟨M, hM⟩ : ∃ M, M = keptV l := ⟨_, rfl⟩
    obtain ⟨a, ha⟩ : ∃ a, a = pickF l (rk (wantB want)) := ⟨_, rfl⟩
    rw [← hK] at Hat His Hto hML hKl hru0
    rw [← hM] at Hat Hhad Hto hML
    rw [← ha] at His Hto hab ⊢
    clear hK ha hM
    obtain ⟨A1, c1, rfl, hc1⟩ := hru0.len
    obtain ⟨hab1, hab2⟩ := hab
    have HML := hid hML
    have hru := hid hru0
    have hv3 := hid (hv.below hb)
    clear hML hru0 hv
    go_wp2_with fail
    go_loopw [8, 9, 10] (fun m is i wr => ∃ k : Nat, k ≤ K.length ∧ OwnF wr w3.heap.size m (M.take k) ∧ is = .bool (isB K a k) ∧ i = .int .i64 k ∧ Below w3.heap.size w3 wr) (fun _ _ i _ => K.length - (intOf i).toNat)
    case atStart => exact ⟨0, Nat.zero_le _, OwnF.nil _ _, by rw [isB_zero], rfl, Below.refl _ _⟩
    case round =>
      obtain ⟨k, hk, hown, rfl, rfl, hbw3⟩ := hrel
      obtain ⟨Am, cm, rfl, hcm⟩ := hown.read.len
      have hmk0 : (M.take k).length = k := by rw [List.length_take, HML.out]; omega
      rw [hmk0] at hcm hown ⊢
      have hmk := hid hmk0
      have HLEN := hid (show (M.take k).length ≤ 100 by omega)
      clear hmk0
      have hsc := hid (isB_succ K a k)
      by_cases hlt : k < K.length
      · obtain ⟨x, hxl, hKx, hxn, hprev, hne, htake⟩ := Hat.out k hlt
        obtain ⟨g1, off1, rfl, cell1⟩ := hru.out.cellAt hlt
        obtain ⟨g2, off2, rfl, cell2⟩ := hv3.out.cellAt hxl
        have e1 := cell1 k hlt
        rw [hKx] at e1
        have e2 := cell2 x hxl
        have hnn : fNe (l.getD x 0) (l.getD x 0) = false := by rw [fNe_self, hxn]
        have d1 : decide (l.length ≤ x) = false := by simp [hxl]
        have hsc := hid (hsc.out hlt)
        have HNE := hid hne
        have HTK := hid htake
        have HKX := hid hKx
        have HXN := hid hxn
        clear hne htake hKx hxn cell2
        generalize hz : l.getD x 0 = z at *
        have HE1 := hid e1
        have HE2 := hid e2
        clear hz e1 e2
        have e1 := (hbw3.cell (p := ⟨g1, off1 + k, none⟩) (lt_of_cell HE1.out)).trans HE1.out
        have e2 := (hbw3.cell (p := ⟨g2, off2 + x, none⟩) (lt_of_cell HE2.out)).trans HE2.out
        rcases Nat.eq_zero_or_pos k with hk0 | hk0
        · clear hprev cell1
          have d2 : decide (0 < k) = false := by simp; omega
          have HK0 := hid hk0
          clear hk0
          go_wp2_with fail
          refine region_seq (fun W => W.cell? ⟨g1, off1 + k, none⟩ = some (.int .i64 x) ∧ W.cell? ⟨g2, off2 + x, none⟩ = some (.float .f64 z) ∧ Below wr.heap.size wr W) (by kernel_rfl) (by kernel_rfl) ⟨e1, e2, (Below.refl _ _).drew⟩ ?_
          simp only []
          repeat (first
            | (apply SeqDet.stepK; · rfl
               · intro W hW K hK; have f1 := hW.1; have f2 := hW.2.1; go_simp; exact hK _ hW
               simp only [Act.put, List.setIfInBounds_toArray, List.set_cons_zero, List.set_cons_succ])
            | (apply SeqDet.skip; · rfl
               simp only [Act.put, List.setIfInBounds_toArray, List.set_cons_zero, List.set_cons_succ]))
          refine SeqDet.nil ?_
          intro w4 hw4
          obtain ⟨_, _, hb4⟩ := hw4
          have hb43 := hbw3.trans (hb4.mono hbw3.size)
          have hown4 := hown.below hb4
          clear e1 e2
          obtain ⟨wo, rfl⟩ : ∃ wo : World, wo = wr := ⟨_, rfl⟩
          go_wp2_with fail
          go_loopw [11] (fun n wi => ∃ j : Nat, j ≤ k ∧ n = .int .i64 j ∧ Below w4.heap.size w4 wi) (fun n _ => k - (intOf n).toNat)
          case atStart => exact ⟨0, Nat.zero_le _, rfl, Below.refl _ _⟩
          case round =>
            obtain ⟨j, hj, rfl, hbi⟩ := hrel
            have hb53 := hb43.trans (hbi.mono hb43.size)
            have e1 := (hb53.cell (p := ⟨g1, off1 + k, none⟩) (lt_of_cell HE1.out)).trans HE1.out
            have e2 := (hb53.cell (p := ⟨g2, off2 + x, none⟩) (lt_of_cell HE2.out)).trans HE2.out
            have hown5 := hown4.below hbi
            by_cases hjl : j < k
            · have hrm5 := hown5.read
              rw [show Value.slice Am k cm = Value.slice Am (List.take k M).length cm by rw [hmk.out]] at hrm5
              obtain ⟨g3, off3, rfl, cell3⟩ := hrm5.cellAt (k := j) (by rw [hmk.out]; exact hjl)
              have e3 := cell3 j (by rw [hmk.out]; exact hjl)
              have hej := HNE.out j hjl
              rw [show (M.take k).getD j 0 = M.getD j 0 by simp [List.getD_eq_getElem?_getD, List.getElem?_take, hjl]] at e3
              have HO4 := hid hown4
              clear cell3 hrm5 hown5 hown4 hown
              generalize M.getD j 0 = y at *
              go_wp2_with fail
              refine region_seq (fun W => W.cell? ⟨g3, off3 + j, none⟩ = some (.float .f64 y) ∧ W.cell? ⟨g1, off1 + k, none⟩ = some (.int .i64 x) ∧ W.cell? ⟨g2, off2 + x, none⟩ = some (.float .f64 z) ∧ Below w4.heap.size w4 W) (by kernel_rfl) (by kernel_rfl) ⟨e3, e1, e2, hbi.drew⟩ ?_
              simp only []
              repeat (first
                | (apply SeqDet.stepK; · rfl
                   · intro W hW K hK; have f1 := hW.1; have f2 := hW.2.1; have f3 := hW.2.2.1; go_simp; exact hK _ hW
                   simp only [Act.put, List.setIfInBounds_toArray, List.set_cons_zero, List.set_cons_succ])
                | (apply SeqDet.skip; · rfl
                   simp only [Act.put, List.setIfInBounds_toArray, List.set_cons_zero, List.set_cons_succ]))
              refine SeqDet.nil ?_
              intro w6 hw6
              obtain ⟨_, _, _, hb6⟩ := hw6
              go_wp2_with fail
              go_roundw
              case rel => exact ⟨j + 1, by omega, by go_num, hb6⟩
              case measure => simp [intOf]; omega
            · obtain rfl : j = k := by omega
              clear hown4 hown
              cases hisb : isB K a j
              all_goals
                have HISB := hid hisb
                clear hisb
                go_wp2_with (at_builtin; refine wpList_append_flts rfl _ _ rfl rfl (hown5.below ((Below.refl wr.heap.size wr).alloc (Nat.le_refl _) _)) rfl (flts_one wr z _) (by simp <;> omega) (by have := hb53.size; simp at this ⊢; omega) ?_; intro v6 w6 hown6 hb6; have hb63 := hb53.trans (((Below.refl w3.heap.size wr).alloc hb53.size _).trans hb6); have e6 := (hb63.cell (p := ⟨g1, off1 + j, none⟩) (lt_of_cell HE1.out)).trans HE1.out)
                go_roundw
                case rel => exact ⟨j + 1, by omega, by rw [HTK.out]; exact hown6, by rw [hsc.out, HISB.out, HKX.out]; simp, by go_num, hb63⟩
                case measure => simp [intOf]; omega
        · obtain ⟨y0, hy0, hyx⟩ := hprev hk0
          obtain ⟨q, hq⟩ : ∃ q, k = q + 1 := ⟨k - 1, by omega⟩
          have e0 := cell1 q (by omega)
          rw [show q = k - 1 by omega, hy0, show k - 1 = q by omega] at e0
          have e0 := (hbw3.cell (p := ⟨g1, off1 + q, none⟩) (lt_of_cell e0)).trans e0
          have d3 : decide (x ≤ y0) = false := by simp; omega
          have hqK : q < K.length := by omega
          have d2 : decide (0 < k) = true := by simpa using hk0
          have w1 : IntKind.i64.wrap ((k : Int) - 1) = (q : Int) := by rw [IntWalk.i64_in _ (by omega)]; omega
          have HQ := hid hq
          clear hprev cell1 hy0 hq hk0
          go_wp2_with fail
          refine region_seq (fun W => W.cell? ⟨g1, off1 + k, none⟩ = some (.int .i64 x) ∧ W.cell? ⟨g2, off2 + x, none⟩ = some (.float .f64 z) ∧ W.cell? ⟨g1, off1 + q, none⟩ = some (.int .i64 y0) ∧ Below wr.heap.size wr W) (by kernel_rfl) (by kernel_rfl) ⟨e1, e2, e0, (Below.refl _ _).drew⟩ ?_
          simp only []
          repeat (first
            | (apply SeqDet.stepK; · rfl
               · intro W hW K hK; have f1 := hW.1; have f2 := hW.2.1; have f3 := hW.2.2.1; go_simp; exact hK _ hW
               simp only [Act.put, List.setIfInBounds_toArray, List.set_cons_zero, List.set_cons_succ])
            | (apply SeqDet.skip; · rfl
               simp only [Act.put, List.setIfInBounds_toArray, List.set_cons_zero, List.set_cons_succ]))
          refine SeqDet.nil ?_
          intro w4 hw4
          clear e0
          obtain ⟨_, _, _, hb4⟩ := hw4
          have hb43 := hbw3.trans (hb4.mono hbw3.size)
          have hown4 := hown.below hb4
          clear e1 e2
          obtain ⟨wo, rfl⟩ : ∃ wo : World, wo = wr := ⟨_, rfl⟩
          go_wp2_with fail
          go_loopw [11] (fun n wi => ∃ j : Nat, j ≤ k ∧ n = .int .i64 j ∧ Below w4.heap.size w4 wi) (fun n _ => k - (intOf n).toNat)
          case atStart => exact ⟨0, Nat.zero_le _, rfl, Below.refl _ _⟩
          case round =>
            obtain ⟨j, hj, rfl, hbi⟩ := hrel
            have hb53 := hb43.trans (hbi.mono hb43.size)
            have e1 := (hb53.cell (p := ⟨g1, off1 + k, none⟩) (lt_of_cell HE1.out)).trans HE1.out
            have e2 := (hb53.cell (p := ⟨g2, off2 + x, none⟩) (lt_of_cell HE2.out)).trans HE2.out
            have hown5 := hown4.below hbi
            by_cases hjl : j < k
            · have hrm5 := hown5.read
              rw [show Value.slice Am k cm = Value.slice Am (List.take k M).length cm by rw [hmk.out]] at hrm5
              obtain ⟨g3, off3, rfl, cell3⟩ := hrm5.cellAt (k := j) (by rw [hmk.out]; exact hjl)
              have e3 := cell3 j (by rw [hmk.out]; exact hjl)
              have hej := HNE.out j hjl
              rw [show (M.take k).getD j 0 = M.getD j 0 by simp [List.getD_eq_getElem?_getD, List.getElem?_take, hjl]] at e3
              have HO4 := hid hown4
              clear cell3 hrm5 hown5 hown4 hown
              generalize M.getD j 0 = y at *
              go_wp2_with fail
              refine region_seq (fun W => W.cell? ⟨g3, off3 + j, none⟩ = some (.float .f64 y) ∧ W.cell? ⟨g1, off1 + k, none⟩ = some (.int .i64 x) ∧ W.cell? ⟨g2, off2 + x, none⟩ = some (.float .f64 z) ∧ Below w4.heap.size w4 W) (by kernel_rfl) (by kernel_rfl) ⟨e3, e1, e2, hbi.drew⟩ ?_
              simp only []
              repeat (first
                | (apply SeqDet.stepK; · rfl
                   · intro W hW K hK; have f1 := hW.1; have f2 := hW.2.1; have f3 := hW.2.2.1; go_simp; exact hK _ hW
                   simp only [Act.put, List.setIfInBounds_toArray, List.set_cons_zero, List.set_cons_succ])
                | (apply SeqDet.skip; · rfl
                   simp only [Act.put, List.setIfInBounds_toArray, List.set_cons_zero, List.set_cons_succ]))
              refine SeqDet.nil ?_
              intro w6 hw6
              obtain ⟨_, _, _, hb6⟩ := hw6
              go_wp2_with fail
              go_roundw
              case rel => exact ⟨j + 1, by omega, by go_num, hb6⟩
              case measure => simp [intOf]; omega
            · clear w1; obtain rfl : j = k := by omega
              clear hown4 hown
              cases hisb : isB K a j
              all_goals
                have HISB := hid hisb
                clear hisb
                go_wp2_with (at_builtin; refine wpList_append_flts rfl _ _ rfl rfl (hown5.below ((Below.refl wr.heap.size wr).alloc (Nat.le_refl _) _)) rfl (flts_one wr z _) (by simp <;> omega) (by have := hb53.size; simp at this ⊢; omega) ?_; intro v6 w6 hown6 hb6; have hb63 := hb53.trans (((Below.refl w3.heap.size wr).alloc hb53.size _).trans hb6); have e6 := (hb63.cell (p := ⟨g1, off1 + j, none⟩) (lt_of_cell HE1.out)).trans HE1.out)
                go_roundw
                case rel => exact ⟨j + 1, by omega, by rw [HTK.out]; exact hown6, by rw [hsc.out, HISB.out, HKX.out]; simp, by go_num, hb63⟩
                case measure => simp [intOf]; omega
      · obtain rfl : k = K.length := by omega
        have hist := His.out
        rw [hist]
        clear hist
        rw [show M.take K.length = M by rw [← HML.out, List.take_length]] at hown
        have hrm := hid hown.read
        clear hown hsc
        go_wp2_with fail
        obtain ⟨w5, rfl⟩ : ∃ w5 : World, w5 = wr := ⟨_, rfl⟩
        go_loopw [12] (fun i wl => ∃ k : Nat, k ≤ l.length ∧ i = .int .i64 k ∧ Below w5.heap.size w5 wl) (fun i _ => l.length - (intOf i).toNat)
        case atStart => exact ⟨0, Nat.zero_le _, rfl, Below.refl _ _⟩
        case round =>
          obtain ⟨k, hk, rfl, hbl⟩ := hrel
          by_cases hlt : k < l.length
          · have hb53 := hbw3.trans (hbl.mono hbw3.size)
            obtain ⟨g2, off2, rfl, cell2⟩ := hv3.out.cellAt hlt
            have HE2 := hid (cell2 k hlt)
            have hhad := hid (Hhad.out k hlt)
            clear cell2
            generalize l.getD k 0 = z at *
            have e2 := (hb53.cell (p := ⟨g2, off2 + k, none⟩) (lt_of_cell HE2.out)).trans HE2.out
            go_wp2_with fail
            refine region_seq (fun W => W.cell? ⟨g2, off2 + k, none⟩ = some (.float .f64 z) ∧ Below wr.heap.size wr W) (by kernel_rfl) (by kernel_rfl) ⟨e2, (Below.refl _ _).drew⟩ ?_
            simp only []
            repeat (first
              | (apply SeqDet.stepK; · rfl
                 · intro W hW K hK; have f1 := hW.1; go_simp; exact hK _ hW
                 simp only [Act.put, List.setIfInBounds_toArray, List.set_cons_zero, List.set_cons_succ])
              | (apply SeqDet.skip; · rfl
                 simp only [Act.put, List.setIfInBounds_toArray, List.set_cons_zero, List.set_cons_succ]))
            refine SeqDet.nil ?_
            intro w4 hw4
            obtain ⟨_, hb4⟩ := hw4
            have hb4l := hbl.trans (hb4.mono hbl.size)
            have hb43 := hb53.trans (hb4.mono hb53.size)
            clear e2
            obtain ⟨wo, rfl⟩ : ∃ wo : World, wo = wr := ⟨_, rfl⟩
            go_wp2_with fail
            go_loopw [13, 14] (fun h n wi => ∃ j : Nat, j ≤ K.length ∧ h = .bool (hadB M z j) ∧ n = .int .i64 j ∧ Below w4.heap.size w4 wi) (fun _ n _ => K.length - (intOf n).toNat)
            case atStart => exact ⟨0, Nat.zero_le _, by rw [hadB_zero, ← fNe_self], rfl, Below.refl _ _⟩
            case round =>
              obtain ⟨j, hj, rfl, rfl, hbi⟩ := hrel
              have hb43' := hb43.trans (hbi.mono hb43.size)
              have e2 := (hb43'.cell (p := ⟨g2, off2 + k, none⟩) (lt_of_cell HE2.out)).trans HE2.out
              by_cases hjl : j < K.length
              · obtain ⟨g3, off3, rfl, cell3⟩ := (hrm.out.below (hb4l.trans (hbi.mono hb4l.size))).cellAt (k := j) (by rw [HML.out]; exact hjl)
                have e3 := cell3 j (by rw [HML.out]; exact hjl)
                have hsc := hid (hadB_succ M z j (by rw [HML.out]; exact hjl))
                clear cell3
                generalize M.getD j 0 = y at *
                cases hd : hadB M z j
                all_goals
                  have HD := hid hd
                  clear hd
                  go_wp2_with fail
                  go_quiet (fail)
                  go_wp2_with fail
                  go_roundw
                  case rel => exact ⟨j + 1, by omega, by rw [hsc.out, HD.out]; simp, by go_num, below_drewN hbi _⟩
                  case measure => simp [intOf]; omega
              · obtain rfl : j = K.length := by omega
                have hh := hhad.out
                rw [HML.out] at hh
                rw [hh]
                clear hh
                go_wp2_with fail
                go_roundw
                case rel => exact ⟨k + 1, by omega, by go_num, hb4l.trans (hbi.mono hb4l.size)⟩
                case measure => simp [intOf]; omega
          · obtain rfl : k = l.length := by omega
            have hb53 := hbw3.trans (hbl.mono hbw3.size)
            go_wp2_with fail
            refine (pick_calls _ M want _ (hrm.out.below hbl) (by rw [HML.out]; omega)).mono ?_
            rintro e w7 ⟨rfl, hb7⟩
            have hb73 := hb53.trans (hb7.mono hb53.size)
            have hb7w := hb.trans (hb73.mono hb.size)
            rcases Hto.out with ⟨h1, h2⟩ | ⟨t, p, ht, h1, h2, h3, h4⟩
            · rw [h2]
              have HA := hid h1
              clear h2 h1 hb7 hb53 hb73
              rw [HA.out]
              go_wp2_with fail
              go_ret
              exact ⟨rfl, hb7w⟩
            · rw [h1, h2]
              obtain ⟨g1, off1, rfl, cell1⟩ := hru.out.cellAt ht
              have HE1 := hid (cell1 t ht)
              have h3' := h3
              rw [h3'] at HE1
              have e1 := (hb73.cell (p := ⟨g1, off1 + t, none⟩) (lt_of_cell HE1.out)).trans HE1.out
              clear h1 h2 h3 h3' cell1 hb7 hb53
              go_wp2_with fail
              go_ret
              exact ⟨rfl, hb7w⟩
  · go_enter Try.func6, Try.ntmps6
    go_wp2_with fail
    refine (densSmall_calls _).mono ?_
    rintro e w1 ⟨rfl, hb⟩
    go_wp2_with fail
    go_ret
    exact ⟨rfl, hb⟩
end Go.Proofs.Ytllgkmacjncelaa
