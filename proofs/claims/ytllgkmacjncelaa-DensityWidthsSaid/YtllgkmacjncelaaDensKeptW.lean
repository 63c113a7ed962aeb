/-
  The walk of density's Kept. Conditions: at most 100000 numbers, each of 64 bits.
-/
import Derived.Test.YtllgkmacjncelaaDensKept
import Derived.Maps.OwnOps
set_option linter.all false
namespace Go.Proofs.Ytllgkmacjncelaa
open Go.RowKit Go.Maps
set_option maxHeartbeats 4000000 in
theorem kept_calls (v : Value) (l : List Nat) (w : World) (hv : ReadF w v l) (hl : l.length ≤ 100000) (hw64 : ∀ x ∈ l, x < 2 ^ 64) :
    Calls Try.prog 16 #[v] w fun e w' => ∃ u, e = .returned u ∧ OwnI w' w.heap.size u (keptI l l.length) ∧ Below w.heap.size w w' := by
  obtain ⟨A, c, rfl, hc⟩ := hv.len
  have o4 := ord_eq
  have hbits := run_bits
  have hmm := @run_makeMap Try.prog
  go_enter Try.func16, Try.ntmps16
  go_wp2_with fail
  go_loopw [3, 11] (fun v i wr => ∃ (k : Nat) (D : DataW Unit), k ≤ l.length ∧ i = .int .i64 k ∧ OwnI wr (w.heap.size + 1) v (keptI l k) ∧ mapOwn wr w.heap.size k D ∧ IsMap D ∧ Seen D l k ∧ w.heap.size + 1 ≤ wr.heap.size ∧ Below w.heap.size w wr) (fun _ i _ => l.length - (intOf i).toNat)
  case atStart => exact ⟨0, .map [], Nat.zero_le _, rfl, OwnI.nil _ _, World.ownsMap_made _ _ _ _, isMap_empty, fun b => rfl, by simp, (Below.refl _ _).alloc (Nat.le_refl _) _⟩
  case round =>
    obtain ⟨k, D, hk, rfl, hown, hmap, hD, hseen, hsz, hbw⟩ := hrel
    by_cases hlt : k < l.length
    · obtain ⟨g, off, rfl, hcell⟩ := (hv.below hbw).cellAt hlt
      have c1 := hcell k hlt
      have hx64 : l.getD k 0 < 2 ^ 64 := by
        rw [List.getD_eq_getElem?_getD, List.getElem?_eq_getElem hlt]
        exact hw64 _ (List.getElem_mem hlt)
      have hv1 := hid hv
      clear hv hcell
      have hll : (keptI l k).length ≤ 100000 := by have := keptF_le l k; unfold keptI; rw [List.length_map]; omega
      obtain ⟨ao, cap, rfl⟩ := hown.len
      cases hn : fNaN (l.getD k 0)
      · have hnew := newAt_seen hlt hw64 hn
        cases hsb : seenB l k (keyB (l.getD k 0))
        · have hni := hid (keptI_yes (hnew.2 hsb))
          have hat := hseen (keyB (l.getD k 0))
          rw [hsb] at hat
          cases he : fEq (l.getD k 0) 0
          · have hkb : keyB (l.getD k 0) = l.getD k 0 := by unfold keyB; rw [he]; rfl
            have hput := hid (hseen.put hD hn hkb)
            rw [hkb] at hat
            have hrun := run_seen hmap hx64 hat
            have hkey := keyOf_int_mk Try.underlying50 (wfU _ hx64)
            clear hnew hsb hat hkb hseen
            generalize l.getD k 0 = x at *
            go_wp2_with fail
            refine (isNaN_calls _ _).mono ?_
            rintro e w2 ⟨rfl, rfl⟩
            rw [hn]
            go_wp2_with (first
              | (at_mapUpdate; refine wpList_mapUpdate_own _ rfl _ _ _ 49 rfl 50 4 lawU Try.underlying49 _ w.heap.size k _ rfl hmap (by unfold maxLen; omega) _ _ _ rfl rfl hkey _ [] (plainElem_bool Try.underlying4 true) ?_; intro w1 hmap1 hgrow1; have hown1 := hown.kept (w' := w1) (fun g hg hgl => hgrow1.block g hgl (by simp; omega)); have hs1 := hgrow1.size)
              | (at_builtin; refine wpList_append_int w1 (w.heap.size + 1) _ _ _ rfl _ _ rfl rfl hown1 rfl (by omega) (by omega) ?_; intro v1 w2 hown2 hb2)
              | fail)
            go_roundw
            case rel => exact ⟨k + 1, _, by omega, by go_num, by rw [hni.out]; exact hown2, mapOwn.below hmap1 hb2 (by omega), hD.put _ _, hput.out, by have := hb2.size; omega, (hbw.grown hgrow1 (by omega) (fun j hj => by cases hj; exact Nat.le_refl _)).trans (hb2.mono (by omega))⟩
            case measure => simp [intOf]; omega
          · have hkb : keyB (l.getD k 0) = 0 := by unfold keyB; rw [he]; rfl
            have hput := hid (hseen.put hD hn hkb)
            rw [hkb] at hat
            have hrun := run_seen hmap (by decide) hat
            have hkey := keyOf_int_mk Try.underlying50 (wfU 0 (by decide))
            simp only [Int.natCast_zero] at hrun hkey hput
            clear hnew hsb hat hkb hseen
            generalize l.getD k 0 = x at *
            go_wp2_with fail
            refine (isNaN_calls _ _).mono ?_
            rintro e w2 ⟨rfl, rfl⟩
            rw [hn]
            go_wp2_with (first
              | (at_mapUpdate; refine wpList_mapUpdate_own _ rfl _ _ _ 49 rfl 50 4 lawU Try.underlying49 _ w.heap.size k _ rfl hmap (by unfold maxLen; omega) _ _ _ rfl rfl hkey _ [] (plainElem_bool Try.underlying4 true) ?_; intro w1 hmap1 hgrow1; have hown1 := hown.kept (w' := w1) (fun g hg hgl => hgrow1.block g hgl (by simp; omega)); have hs1 := hgrow1.size)
              | (at_builtin; refine wpList_append_int w1 (w.heap.size + 1) _ _ _ rfl _ _ rfl rfl hown1 rfl (by omega) (by omega) ?_; intro v1 w2 hown2 hb2)
              | fail)
            go_roundw
            case rel => exact ⟨k + 1, _, by omega, by go_num, by rw [hni.out]; exact hown2, mapOwn.below hmap1 hb2 (by omega), hD.put _ _, hput.out, by have := hb2.size; omega, (hbw.grown hgrow1 (by omega) (fun j hj => by cases hj; exact Nat.le_refl _)).trans (hb2.mono (by omega))⟩
            case measure => simp [intOf]; omega
        · have hni := hid (keptI_no (k := k) (l := l) fun h => by rw [hnew.1 h] at hsb; cases hsb)
          have hat := hseen (keyB (l.getD k 0))
          have hst := hid (hseen.stay (.inr hsb))
          rw [hsb] at hat
          cases he : fEq (l.getD k 0) 0
          · have hkb : keyB (l.getD k 0) = l.getD k 0 := by unfold keyB; rw [he]; rfl
            rw [hkb] at hat
            have hrun := run_seen hmap hx64 hat
            clear hnew hsb hat hkb hseen
            generalize l.getD k 0 = x at *
            go_wp2_with fail
            refine (isNaN_calls _ _).mono ?_
            rintro e w2 ⟨rfl, rfl⟩
            rw [hn]
            go_wp2_with fail
            go_roundw
            case rel => exact ⟨k + 1, D, by omega, by go_num, by rw [hni.out]; exact hown, hmap.mono (Nat.le_succ _), hD, hst.out, hsz, hbw⟩
            case measure => simp [intOf]; omega
          · have hkb : keyB (l.getD k 0) = 0 := by unfold keyB; rw [he]; rfl
            rw [hkb] at hat
            have hrun := run_seen hmap (by decide) hat
            simp only [Int.natCast_zero] at hrun
            clear hnew hsb hat hkb hseen
            generalize l.getD k 0 = x at *
            go_wp2_with fail
            refine (isNaN_calls _ _).mono ?_
            rintro e w2 ⟨rfl, rfl⟩
            rw [hn]
            go_wp2_with fail
            go_roundw
            case rel => exact ⟨k + 1, D, by omega, by go_num, by rw [hni.out]; exact hown, hmap.mono (Nat.le_succ _), hD, hst.out, hsz, hbw⟩
            case measure => simp [intOf]; omega
      · have hni := hid (keptI_no (k := k) (l := l) fun h => by rw [h.1] at hn; cases hn)
        have hst := hid (hseen.stay (.inl hn))
        clear hseen
        generalize l.getD k 0 = x at *
        go_wp2_with fail
        refine (isNaN_calls _ _).mono ?_
        rintro e w2 ⟨rfl, rfl⟩
        rw [hn]
        go_wp2_with fail
        go_roundw
        case rel => exact ⟨k + 1, D, by omega, by go_num, by rw [hni.out]; exact hown, hmap.mono (Nat.le_succ _), hD, hst.out, hsz, hbw⟩
        case measure => simp [intOf]; omega
    · obtain rfl : k = l.length := by omega
      go_wp2_with fail
      go_ret
      exact ⟨_, rfl, hown.mono (Nat.le_succ _), hbw⟩
end Go.Proofs.Ytllgkmacjncelaa
