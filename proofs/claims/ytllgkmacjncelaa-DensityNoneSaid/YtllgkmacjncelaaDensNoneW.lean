/-
  The walk of DensityNone. Conditions: none but what the theorem says.
-/
import Derived.Test.YtllgkmacjncelaaDensSmall
import Derived.Test.YtllgkmacjncelaaDensLaws
import Derived.Test.YtllgkmacjncelaaFlts
set_option linter.all false
namespace Go.Proofs.Ytllgkmacjncelaa
open Go.RowKit
theorem keptI_ins (l : List Nat) (p x : Nat) (h : p ≤ l.length) (hx : fNaN x = true) : keptI (insN l p x) (l.length + 1) = (keptI l l.length).map (shiftI p) := by
  unfold keptI
  rw [keptF_ins l p x h hx, List.map_map, List.map_map]
  apply List.map_congr_left
  intro i _
  show ((shiftN p i : Nat) : Int) = shiftI p (i : Int)
  unfold shiftN shiftI
  split <;> split <;> omega
theorem getD_map {f : Int → Int} {l : List Int} {i : Nat} (h : i < l.length) : (l.map f).getD i 0 = f (l.getD i 0) := by
  simp [List.getD_eq_getElem?_getD, List.getElem?_eq_getElem h]
theorem kept_pos {l : List Nat} {i : Nat} (h : i < (keptI l l.length).length) : ∃ n : Nat, (keptI l l.length).getD i 0 = n ∧ n < l.length := by
  have h' : i < (keptF l l.length).length := by simpa [keptI] using h
  refine ⟨(keptF l l.length)[i], ?_, (keptF_get h').1⟩
  simp [keptI, List.getD_eq_getElem?_getD, List.getElem?_eq_getElem h']
theorem flts_made (w : World) (x : Nat) (t : TypeId) : ReadF (w.alloc (.cells #[.float .f64 x] t)) (.slice (some ⟨w.heap.size, 0, none⟩) 1 1) [x] := ReadF.made w [x] t
theorem ReadF.takeN {w : World} {A : Option Addr} {n c p : Nat} {l : List Nat} (h : ReadF w (.slice A n c) l) (hp : p ≤ l.length) : ReadF w (.slice A p c) (l.take p) := by
  rcases h with ⟨h, rfl⟩ | ⟨g, off, c', hv, hc, hcell⟩
  · obtain rfl : p = 0 := by simpa using hp
    injection h with h1 h2 h3
    subst h1 h3
    exact .inl ⟨rfl, rfl⟩
  · injection hv with h1 h2 h3
    subst h1 h2 h3
    exact ReadF.take (.inr ⟨g, off, c, rfl, hc, hcell⟩) hp
set_option maxHeartbeats 8000000 in
set_option maxRecDepth 4000 in
theorem none_calls (v : Value) (l : List Nat) (at_ : Int) (want : Nat) (w : World) (hv : ReadF w v l) (hw64 : ∀ x ∈ l, x < 2 ^ 64) :
    Calls Try.prog 8 #[v, .int .i64 at_, .float .f64 want] w fun e w' => e = .returned (.bool true) ∧ Below w.heap.size w w' := by
  by_cases hin : l.length ≤ 100 ∧ 0 ≤ at_ ∧ at_ ≤ l.length
  · obtain ⟨hl, h0, h1⟩ := hin
    obtain ⟨p, rfl⟩ : ∃ p : Nat, at_ = p := ⟨at_.toNat, by omega⟩
    have hp : p ≤ l.length := by omega
    clear h0 h1
    have hz := run_zero_zero
    have hv0 := hv
    rcases hv with ⟨rfl, hl0⟩ | ⟨g, off, c, rfl, hc, hcell⟩
    · obtain rfl : p = 0 := by rw [hl0] at hp; simpa using hp
      have hl1 := hid hl0
      clear hl0
      go_enter Try.func8, Try.ntmps8
      go_wp2_with fail
      refine (densSmall_calls _).mono ?_
      rintro e w1 ⟨rfl, hb⟩
      have hr1 := hv0.below hb
      go_wp2_with (first
        | (at_builtin; refine wpList_append_flts rfl _ _ rfl rfl (OwnF.empty w1) rfl (.inl ⟨rfl, by simp⟩ : ReadF _ (.slice none 0 0) (l.take 0)) (by simp <;> omega) (by simp) ?_; intro v2 w2 hown2 hb2; obtain ⟨x, hx, hx64, hrun⟩ := hz 30 w2; have hb12 := (alloc_below w1 _).trans hb2)
        | (at_builtin; refine wpList_append_flts rfl _ _ rfl rfl (hown2.below ((Below.refl w2.heap.size w2).drew.alloc (Nat.le_refl _) _)) rfl (flts_made w2.drew x _) (by simp <;> omega) (by have := hb12.size; simp at this ⊢; omega) ?_; intro v3 w3 hown3 hb3; have hb13 := hb12.trans (((Below.refl w1.heap.size w2).alloc hb12.size _).drew.trans hb3))
        | (at_builtin; go_loud (refine wpList_append_flts rfl _ _ rfl rfl hown3 rfl (.inl ⟨rfl, by simp [hl1.out]⟩ : ReadF w3 (.slice none 0 0) (l.drop 0)) (by simp <;> omega) hb13.size ?_; intro v4 w4 hown4 hb34))
        | fail)
      have hlm := insN_len l 0 x hp
      have hb14 := hb13.trans hb34
      have hb4 : Below w.heap.size w w4 := hb.trans (hb14.mono hb.size)
      clear hb2 hb3 hb34 hb12 hb13 hb14 hown2 hown3 hrun hz
      have hm4 : ReadF w4 v4 (insN l 0 x) := by
        have := hown4.read
        rwa [show (([] ++ l.take 0) ++ [x]) ++ l.drop 0 = insN l 0 x by simp [insN]] at this
      clear hown4
      have hmw : ∀ y ∈ insN l 0 x, y < 2 ^ 64 := by
        intro y hy
        unfold insN at hy
        rcases List.mem_append.1 hy with h | h
        · exact hw64 y (List.mem_of_mem_take h)
        · rcases List.mem_cons.1 h with h | h
          · rw [h]; exact hx64
          · exact hw64 y (List.mem_of_mem_drop h)
      refine (pick_calls _ l _ _ (hv0.below hb4) (by omega)).mono ?_
      rintro e w5 ⟨rfl, hb5⟩
      go_wp2_with fail
      refine (pick_calls _ (insN l 0 x) _ _ (hm4.below hb5) (by omega)).mono ?_
      rintro e w6 ⟨rfl, hb56⟩
      rw [pickF_ins l 0 x _ hp hx]
      have hb6 : Below w.heap.size w w6 := (hb4.trans (hb5.mono hb4.size)).trans (hb56.mono (Nat.le_trans hb4.size hb5.size))
      have hab : -1 ≤ pickF l (rk (wantB want)) ∧ pickF l (rk (wantB want)) < 200 := by
        rcases pickF_is l (rk (wantB want)) with ⟨e, _⟩ | ⟨i, hi, e, _⟩ <;> omega
      generalize pickF l (rk (wantB want)) = a at *
      obtain ⟨ha1, ha2⟩ := hab
      by_cases hpa : (0 : Int) ≤ a
      · rw [show shiftI 0 a = a + 1 by unfold shiftI; exact if_pos hpa]
        obtain ⟨a, rfl⟩ : ∃ n : Nat, a = n := ⟨a.toNat, by omega⟩
        clear ha1
        go_wp2_with fail
        refine (kept_calls _ l _ (hv0.below hb6) (by omega) hw64).mono ?_
        rintro e w7 ⟨u, rfl, hou, hb7⟩
        go_wp2_with fail
        refine (kept_calls _ (insN l 0 x) _ (hm4.below ((hb5.trans (hb56.mono hb5.size)).trans (hb7.mono (Nat.le_trans hb5.size hb56.size)))) (by omega) hmw).mono ?_
        rintro e w8 ⟨u', rfl, hou', hb8⟩
        rw [hlm, keptI_ins l 0 x hp hx] at hou'
        have hru := hou.read.below hb8
        have hru' := hou'.read
        clear hou hou'
        have hb8' : Below w.heap.size w w8 := (hb6.trans (hb7.mono hb6.size)).trans (hb8.mono (Nat.le_trans hb6.size hb7.size))
        have hpos := @kept_pos l
        obtain ⟨K, hK⟩ : ∃ K, K = keptI l l.length := ⟨_, rfl⟩
        rw [← hK] at hru hru'
        have hpos : ∀ i, i < K.length → ∃ n : Nat, K.getD i 0 = n ∧ n < l.length := fun i hi => by rw [hK] at hi ⊢; exact hpos hi
        have hKl : K.length ≤ 100 := by rw [hK]; have := keptF_le l l.length; unfold keptI; rw [List.length_map]; omega
        clear hK
        obtain ⟨A1, c1, rfl, hc1⟩ := hru.len
        obtain ⟨A2, c2, rfl, hc2⟩ := hru'.len
        rw [List.length_map] at hru' hc2 ⊢
        have hmw1 := hid hmw
        have hw1 := hid hw64
        have hm1 := hid hm4
        have hv1 := hid hv0
        clear hmw hw64 hm4 hv0 hb5 hb56 hb7 hb8 hb6 hb4
        go_wp2_with fail
        go_loopw [14] (fun i wr => ∃ k : Nat, k ≤ K.length ∧ i = .int .i64 k ∧ Below w.heap.size w wr ∧ Below w8.heap.size w8 wr) (fun i _ => K.length - (intOf i).toNat)
        case atStart => exact ⟨0, Nat.zero_le _, rfl, hb8', Below.refl _ _⟩
        case round =>
          obtain ⟨k, hk, rfl, hbw, hbw8⟩ := hrel
          by_cases hlt : k < K.length
          · obtain ⟨n, hn, hnl⟩ := hpos k hlt
            obtain ⟨g1, off1, rfl, cell1⟩ := (hru.below hbw8).cellAt hlt
            obtain ⟨g2, off2, rfl, cell2⟩ := (hru'.below hbw8).cellAt (by rw [List.length_map]; exact hlt)
            have e1 := cell1 k hlt
            have e2 := cell2 k (by rw [List.length_map]; exact hlt)
            rw [getD_map hlt, hn] at e2
            rw [hn] at e1
            have h1 := hid hru
            have h2 := hid hru'
            have h3 := hid hpos
            clear hru hru' hpos cell1 cell2 hn
            by_cases hpn : 0 ≤ n
            · rw [show shiftI 0 (n : Int) = (n : Int) + 1 by unfold shiftI; exact if_pos (by omega)] at e2
              go_wp2_with fail
              go_roundw
              case rel => exact ⟨k + 1, by omega, by go_num, hbw, hbw8⟩
              case measure => simp [intOf]; omega
            · exact absurd (Nat.zero_le _) hpn
          · obtain rfl : k = K.length := by omega
            have h1 := hid hru
            have h2 := hid hru'
            have h3 := hid hpos
            clear hru hru' hpos
            go_wp2_with fail
            go_ret
            exact ⟨rfl, hbw⟩
      · rw [show shiftI 0 a = a by unfold shiftI; exact if_neg hpa]
        go_wp2_with fail
        refine (kept_calls _ l _ (hv0.below hb6) (by omega) hw64).mono ?_
        rintro e w7 ⟨u, rfl, hou, hb7⟩
        go_wp2_with fail
        refine (kept_calls _ (insN l 0 x) _ (hm4.below ((hb5.trans (hb56.mono hb5.size)).trans (hb7.mono (Nat.le_trans hb5.size hb56.size)))) (by omega) hmw).mono ?_
        rintro e w8 ⟨u', rfl, hou', hb8⟩
        rw [hlm, keptI_ins l 0 x hp hx] at hou'
        have hru := hou.read.below hb8
        have hru' := hou'.read
        clear hou hou'
        have hb8' : Below w.heap.size w w8 := (hb6.trans (hb7.mono hb6.size)).trans (hb8.mono (Nat.le_trans hb6.size hb7.size))
        have hpos := @kept_pos l
        obtain ⟨K, hK⟩ : ∃ K, K = keptI l l.length := ⟨_, rfl⟩
        rw [← hK] at hru hru'
        have hpos : ∀ i, i < K.length → ∃ n : Nat, K.getD i 0 = n ∧ n < l.length := fun i hi => by rw [hK] at hi ⊢; exact hpos hi
        have hKl : K.length ≤ 100 := by rw [hK]; have := keptF_le l l.length; unfold keptI; rw [List.length_map]; omega
        clear hK
        obtain ⟨A1, c1, rfl, hc1⟩ := hru.len
        obtain ⟨A2, c2, rfl, hc2⟩ := hru'.len
        rw [List.length_map] at hru' hc2 ⊢
        have hmw1 := hid hmw
        have hw1 := hid hw64
        have hm1 := hid hm4
        have hv1 := hid hv0
        clear hmw hw64 hm4 hv0 hb5 hb56 hb7 hb8 hb6 hb4
        go_wp2_with fail
        go_loopw [14] (fun i wr => ∃ k : Nat, k ≤ K.length ∧ i = .int .i64 k ∧ Below w.heap.size w wr ∧ Below w8.heap.size w8 wr) (fun i _ => K.length - (intOf i).toNat)
        case atStart => exact ⟨0, Nat.zero_le _, rfl, hb8', Below.refl _ _⟩
        case round =>
          obtain ⟨k, hk, rfl, hbw, hbw8⟩ := hrel
          by_cases hlt : k < K.length
          · obtain ⟨n, hn, hnl⟩ := hpos k hlt
            obtain ⟨g1, off1, rfl, cell1⟩ := (hru.below hbw8).cellAt hlt
            obtain ⟨g2, off2, rfl, cell2⟩ := (hru'.below hbw8).cellAt (by rw [List.length_map]; exact hlt)
            have e1 := cell1 k hlt
            have e2 := cell2 k (by rw [List.length_map]; exact hlt)
            rw [getD_map hlt, hn] at e2
            rw [hn] at e1
            have h1 := hid hru
            have h2 := hid hru'
            have h3 := hid hpos
            clear hru hru' hpos cell1 cell2 hn
            by_cases hpn : 0 ≤ n
            · rw [show shiftI 0 (n : Int) = (n : Int) + 1 by unfold shiftI; exact if_pos (by omega)] at e2
              go_wp2_with fail
              go_roundw
              case rel => exact ⟨k + 1, by omega, by go_num, hbw, hbw8⟩
              case measure => simp [intOf]; omega
            · exact absurd (Nat.zero_le _) hpn
          · obtain rfl : k = K.length := by omega
            have h1 := hid hru
            have h2 := hid hru'
            have h3 := hid hpos
            clear hru hru' hpos
            go_wp2_with fail
            go_ret
            exact ⟨rfl, hbw⟩
    · clear hcell
      by_cases hcp : c = p
      · obtain rfl : c = p := hcp
        have hlp : Hid (l.length = c) := hid (by omega)
        go_enter Try.func8, Try.ntmps8
        go_wp2_with fail
        refine (densSmall_calls _).mono ?_
        rintro e w1 ⟨rfl, hb⟩
        have hr1 := hv0.below hb
        go_wp2_with (first
          | (at_builtin; refine wpList_append_flts rfl _ _ rfl rfl (OwnF.empty w1) rfl ((hr1.below (alloc_below w1 _)).takeN hp) (by simp <;> omega) (by simp) ?_; intro v2 w2 hown2 hb2; obtain ⟨x, hx, hx64, hrun⟩ := hz 30 w2; have hb12 := (alloc_below w1 _).trans hb2)
          | (at_builtin; refine wpList_append_flts rfl _ _ rfl rfl (hown2.below ((Below.refl w2.heap.size w2).drew.alloc (Nat.le_refl _) _)) rfl (flts_made w2.drew x _) (by simp <;> omega) (by have := hb12.size; simp at this ⊢; omega) ?_; intro v3 w3 hown3 hb3; have hb13 := hb12.trans (((Below.refl w1.heap.size w2).alloc hb12.size _).drew.trans hb3))
          | (at_builtin; go_loud (refine wpList_append_flts rfl _ _ rfl rfl hown3 rfl (.inr ⟨g, off, 0, by have := hlp.out; rw [List.length_drop, show l.length - c = 0 by omega], by have := hlp.out; rw [List.length_drop]; omega, fun j hj => absurd hj (by have := hlp.out; rw [List.length_drop]; omega)⟩ : ReadF w3 (.slice (some ⟨g, off, none⟩) 0 0) (l.drop c)) (by simp <;> omega) hb13.size ?_; intro v4 w4 hown4 hb34))
          | fail)
        have hlm := insN_len l c x hp
        have hb14 := hb13.trans hb34
        have hb4 : Below w.heap.size w w4 := hb.trans (hb14.mono hb.size)
        clear hb2 hb3 hb34 hb12 hb13 hb14 hown2 hown3 hrun hz
        have hm4 : ReadF w4 v4 (insN l c x) := by
          have := hown4.read
          rwa [show (([] ++ l.take c) ++ [x]) ++ l.drop c = insN l c x by simp [insN]] at this
        clear hown4
        have hmw : ∀ y ∈ insN l c x, y < 2 ^ 64 := by
          intro y hy
          unfold insN at hy
          rcases List.mem_append.1 hy with h | h
          · exact hw64 y (List.mem_of_mem_take h)
          · rcases List.mem_cons.1 h with h | h
            · rw [h]; exact hx64
            · exact hw64 y (List.mem_of_mem_drop h)
        refine (pick_calls _ l _ _ (hv0.below hb4) (by omega)).mono ?_
        rintro e w5 ⟨rfl, hb5⟩
        go_wp2_with fail
        refine (pick_calls _ (insN l c x) _ _ (hm4.below hb5) (by omega)).mono ?_
        rintro e w6 ⟨rfl, hb56⟩
        rw [pickF_ins l c x _ hp hx]
        have hb6 : Below w.heap.size w w6 := (hb4.trans (hb5.mono hb4.size)).trans (hb56.mono (Nat.le_trans hb4.size hb5.size))
        have hab : -1 ≤ pickF l (rk (wantB want)) ∧ pickF l (rk (wantB want)) < 200 := by
          rcases pickF_is l (rk (wantB want)) with ⟨e, _⟩ | ⟨i, hi, e, _⟩ <;> omega
        generalize pickF l (rk (wantB want)) = a at *
        obtain ⟨ha1, ha2⟩ := hab
        by_cases hpa : (c : Int) ≤ a
        · rw [show shiftI c a = a + 1 by unfold shiftI; exact if_pos hpa]
          obtain ⟨a, rfl⟩ : ∃ n : Nat, a = n := ⟨a.toNat, by omega⟩
          clear ha1
          go_wp2_with fail
          refine (kept_calls _ l _ (hv0.below hb6) (by omega) hw64).mono ?_
          rintro e w7 ⟨u, rfl, hou, hb7⟩
          go_wp2_with fail
          refine (kept_calls _ (insN l c x) _ (hm4.below ((hb5.trans (hb56.mono hb5.size)).trans (hb7.mono (Nat.le_trans hb5.size hb56.size)))) (by omega) hmw).mono ?_
          rintro e w8 ⟨u', rfl, hou', hb8⟩
          rw [hlm, keptI_ins l c x hp hx] at hou'
          have hru := hou.read.below hb8
          have hru' := hou'.read
          clear hou hou'
          have hb8' : Below w.heap.size w w8 := (hb6.trans (hb7.mono hb6.size)).trans (hb8.mono (Nat.le_trans hb6.size hb7.size))
          have hpos := @kept_pos l
          obtain ⟨K, hK⟩ : ∃ K, K = keptI l l.length := ⟨_, rfl⟩
          rw [← hK] at hru hru'
          have hpos : ∀ i, i < K.length → ∃ n : Nat, K.getD i 0 = n ∧ n < l.length := fun i hi => by rw [hK] at hi ⊢; exact hpos hi
          have hKl : K.length ≤ 100 := by rw [hK]; have := keptF_le l l.length; unfold keptI; rw [List.length_map]; omega
          clear hK
          obtain ⟨A1, c1, rfl, hc1⟩ := hru.len
          obtain ⟨A2, c2, rfl, hc2⟩ := hru'.len
          rw [List.length_map] at hru' hc2 ⊢
          have hmw1 := hid hmw
          have hw1 := hid hw64
          have hm1 := hid hm4
          have hv1 := hid hv0
          clear hmw hw64 hm4 hv0 hb5 hb56 hb7 hb8 hb6 hb4
          go_wp2_with fail
          go_loopw [14] (fun i wr => ∃ k : Nat, k ≤ K.length ∧ i = .int .i64 k ∧ Below w.heap.size w wr ∧ Below w8.heap.size w8 wr) (fun i _ => K.length - (intOf i).toNat)
          case atStart => exact ⟨0, Nat.zero_le _, rfl, hb8', Below.refl _ _⟩
          case round =>
            obtain ⟨k, hk, rfl, hbw, hbw8⟩ := hrel
            by_cases hlt : k < K.length
            · obtain ⟨n, hn, hnl⟩ := hpos k hlt
              obtain ⟨g1, off1, rfl, cell1⟩ := (hru.below hbw8).cellAt hlt
              obtain ⟨g2, off2, rfl, cell2⟩ := (hru'.below hbw8).cellAt (by rw [List.length_map]; exact hlt)
              have e1 := cell1 k hlt
              have e2 := cell2 k (by rw [List.length_map]; exact hlt)
              rw [getD_map hlt, hn] at e2
              rw [hn] at e1
              have h1 := hid hru
              have h2 := hid hru'
              have h3 := hid hpos
              clear hru hru' hpos cell1 cell2 hn
              by_cases hpn : c ≤ n
              · rw [show shiftI c (n : Int) = (n : Int) + 1 by unfold shiftI; exact if_pos (by omega)] at e2
                go_wp2_with fail
                go_roundw
                case rel => exact ⟨k + 1, by omega, by go_num, hbw, hbw8⟩
                case measure => simp [intOf]; omega
              · rw [show shiftI c (n : Int) = (n : Int) by unfold shiftI; exact if_neg (by omega)] at e2
                go_wp2_with fail
                go_roundw
                case rel => exact ⟨k + 1, by omega, by go_num, hbw, hbw8⟩
                case measure => simp [intOf]; omega
            · obtain rfl : k = K.length := by omega
              have h1 := hid hru
              have h2 := hid hru'
              have h3 := hid hpos
              clear hru hru' hpos
              go_wp2_with fail
              go_ret
              exact ⟨rfl, hbw⟩
        · rw [show shiftI c a = a by unfold shiftI; exact if_neg hpa]
          go_wp2_with fail
          refine (kept_calls _ l _ (hv0.below hb6) (by omega) hw64).mono ?_
          rintro e w7 ⟨u, rfl, hou, hb7⟩
          go_wp2_with fail
          refine (kept_calls _ (insN l c x) _ (hm4.below ((hb5.trans (hb56.mono hb5.size)).trans (hb7.mono (Nat.le_trans hb5.size hb56.size)))) (by omega) hmw).mono ?_
          rintro e w8 ⟨u', rfl, hou', hb8⟩
          rw [hlm, keptI_ins l c x hp hx] at hou'
          have hru := hou.read.below hb8
          have hru' := hou'.read
          clear hou hou'
          have hb8' : Below w.heap.size w w8 := (hb6.trans (hb7.mono hb6.size)).trans (hb8.mono (Nat.le_trans hb6.size hb7.size))
          have hpos := @kept_pos l
          obtain ⟨K, hK⟩ : ∃ K, K = keptI l l.length := ⟨_, rfl⟩
          rw [← hK] at hru hru'
          have hpos : ∀ i, i < K.length → ∃ n : Nat, K.getD i 0 = n ∧ n < l.length := fun i hi => by rw [hK] at hi ⊢; exact hpos hi
          have hKl : K.length ≤ 100 := by rw [hK]; have := keptF_le l l.length; unfold keptI; rw [List.length_map]; omega
          clear hK
          obtain ⟨A1, c1, rfl, hc1⟩ := hru.len
          obtain ⟨A2, c2, rfl, hc2⟩ := hru'.len
          rw [List.length_map] at hru' hc2 ⊢
          have hmw1 := hid hmw
          have hw1 := hid hw64
          have hm1 := hid hm4
          have hv1 := hid hv0
          clear hmw hw64 hm4 hv0 hb5 hb56 hb7 hb8 hb6 hb4
          go_wp2_with fail
          go_loopw [14] (fun i wr => ∃ k : Nat, k ≤ K.length ∧ i = .int .i64 k ∧ Below w.heap.size w wr ∧ Below w8.heap.size w8 wr) (fun i _ => K.length - (intOf i).toNat)
          case atStart => exact ⟨0, Nat.zero_le _, rfl, hb8', Below.refl _ _⟩
          case round =>
            obtain ⟨k, hk, rfl, hbw, hbw8⟩ := hrel
            by_cases hlt : k < K.length
            · obtain ⟨n, hn, hnl⟩ := hpos k hlt
              obtain ⟨g1, off1, rfl, cell1⟩ := (hru.below hbw8).cellAt hlt
              obtain ⟨g2, off2, rfl, cell2⟩ := (hru'.below hbw8).cellAt (by rw [List.length_map]; exact hlt)
              have e1 := cell1 k hlt
              have e2 := cell2 k (by rw [List.length_map]; exact hlt)
              rw [getD_map hlt, hn] at e2
              rw [hn] at e1
              have h1 := hid hru
              have h2 := hid hru'
              have h3 := hid hpos
              clear hru hru' hpos cell1 cell2 hn
              by_cases hpn : c ≤ n
              · rw [show shiftI c (n : Int) = (n : Int) + 1 by unfold shiftI; exact if_pos (by omega)] at e2
                go_wp2_with fail
                go_roundw
                case rel => exact ⟨k + 1, by omega, by go_num, hbw, hbw8⟩
                case measure => simp [intOf]; omega
              · rw [show shiftI c (n : Int) = (n : Int) by unfold shiftI; exact if_neg (by omega)] at e2
                go_wp2_with fail
                go_roundw
                case rel => exact ⟨k + 1, by omega, by go_num, hbw, hbw8⟩
                case measure => simp [intOf]; omega
            · obtain rfl : k = K.length := by omega
              have h1 := hid hru
              have h2 := hid hru'
              have h3 := hid hpos
              clear hru hru' hpos
              go_wp2_with fail
              go_ret
              exact ⟨rfl, hbw⟩
      · go_enter Try.func8, Try.ntmps8
        go_wp2_with fail
        refine (densSmall_calls _).mono ?_
        rintro e w1 ⟨rfl, hb⟩
        have hr1 := hv0.below hb
        go_wp2_with (first
          | (at_builtin; refine wpList_append_flts rfl _ _ rfl rfl (OwnF.empty w1) rfl ((hr1.below (alloc_below w1 _)).takeN hp) (by simp <;> omega) (by simp) ?_; intro v2 w2 hown2 hb2; obtain ⟨x, hx, hx64, hrun⟩ := hz 30 w2; have hb12 := (alloc_below w1 _).trans hb2)
          | (at_builtin; refine wpList_append_flts rfl _ _ rfl rfl (hown2.below ((Below.refl w2.heap.size w2).drew.alloc (Nat.le_refl _) _)) rfl (flts_made w2.drew x _) (by simp <;> omega) (by have := hb12.size; simp at this ⊢; omega) ?_; intro v3 w3 hown3 hb3; have hb13 := hb12.trans (((Below.refl w1.heap.size w2).alloc hb12.size _).drew.trans hb3))
          | (at_builtin; go_loud (refine wpList_append_flts rfl _ _ rfl rfl hown3 rfl ((hr1.below hb13).drop hp) (by simp <;> omega) hb13.size ?_; intro v4 w4 hown4 hb34))
          | fail)
        have hlm := insN_len l p x hp
        have hb14 := hb13.trans hb34
        have hb4 : Below w.heap.size w w4 := hb.trans (hb14.mono hb.size)
        clear hb2 hb3 hb34 hb12 hb13 hb14 hown2 hown3 hrun hz
        have hm4 : ReadF w4 v4 (insN l p x) := by
          have := hown4.read
          rwa [show (([] ++ l.take p) ++ [x]) ++ l.drop p = insN l p x by simp [insN]] at this
        clear hown4
        have hmw : ∀ y ∈ insN l p x, y < 2 ^ 64 := by
          intro y hy
          unfold insN at hy
          rcases List.mem_append.1 hy with h | h
          · exact hw64 y (List.mem_of_mem_take h)
          · rcases List.mem_cons.1 h with h | h
            · rw [h]; exact hx64
            · exact hw64 y (List.mem_of_mem_drop h)
        refine (pick_calls _ l _ _ (hv0.below hb4) (by omega)).mono ?_
        rintro e w5 ⟨rfl, hb5⟩
        go_wp2_with fail
        refine (pick_calls _ (insN l p x) _ _ (hm4.below hb5) (by omega)).mono ?_
        rintro e w6 ⟨rfl, hb56⟩
        rw [pickF_ins l p x _ hp hx]
        have hb6 : Below w.heap.size w w6 := (hb4.trans (hb5.mono hb4.size)).trans (hb56.mono (Nat.le_trans hb4.size hb5.size))
        have hab : -1 ≤ pickF l (rk (wantB want)) ∧ pickF l (rk (wantB want)) < 200 := by
          rcases pickF_is l (rk (wantB want)) with ⟨e, _⟩ | ⟨i, hi, e, _⟩ <;> omega
        generalize pickF l (rk (wantB want)) = a at *
        obtain ⟨ha1, ha2⟩ := hab
        by_cases hpa : (p : Int) ≤ a
        · rw [show shiftI p a = a + 1 by unfold shiftI; exact if_pos hpa]
          obtain ⟨a, rfl⟩ : ∃ n : Nat, a = n := ⟨a.toNat, by omega⟩
          clear ha1
          go_wp2_with fail
          refine (kept_calls _ l _ (hv0.below hb6) (by omega) hw64).mono ?_
          rintro e w7 ⟨u, rfl, hou, hb7⟩
          go_wp2_with fail
          refine (kept_calls _ (insN l p x) _ (hm4.below ((hb5.trans (hb56.mono hb5.size)).trans (hb7.mono (Nat.le_trans hb5.size hb56.size)))) (by omega) hmw).mono ?_
          rintro e w8 ⟨u', rfl, hou', hb8⟩
          rw [hlm, keptI_ins l p x hp hx] at hou'
          have hru := hou.read.below hb8
          have hru' := hou'.read
          clear hou hou'
          have hb8' : Below w.heap.size w w8 := (hb6.trans (hb7.mono hb6.size)).trans (hb8.mono (Nat.le_trans hb6.size hb7.size))
          have hpos := @kept_pos l
          obtain ⟨K, hK⟩ : ∃ K, K = keptI l l.length := ⟨_, rfl⟩
          rw [← hK] at hru hru'
          have hpos : ∀ i, i < K.length → ∃ n : Nat, K.getD i 0 = n ∧ n < l.length := fun i hi => by rw [hK] at hi ⊢; exact hpos hi
          have hKl : K.length ≤ 100 := by rw [hK]; have := keptF_le l l.length; unfold keptI; rw [List.length_map]; omega
          clear hK
          obtain ⟨A1, c1, rfl, hc1⟩ := hru.len
          obtain ⟨A2, c2, rfl, hc2⟩ := hru'.len
          rw [List.length_map] at hru' hc2 ⊢
          have hmw1 := hid hmw
          have hw1 := hid hw64
          have hm1 := hid hm4
          have hv1 := hid hv0
          clear hmw hw64 hm4 hv0 hb5 hb56 hb7 hb8 hb6 hb4
          go_wp2_with fail
          go_loopw [14] (fun i wr => ∃ k : Nat, k ≤ K.length ∧ i = .int .i64 k ∧ Below w.heap.size w wr ∧ Below w8.heap.size w8 wr) (fun i _ => K.length - (intOf i).toNat)
          case atStart => exact ⟨0, Nat.zero_le _, rfl, hb8', Below.refl _ _⟩
          case round =>
            obtain ⟨k, hk, rfl, hbw, hbw8⟩ := hrel
            by_cases hlt : k < K.length
            · obtain ⟨n, hn, hnl⟩ := hpos k hlt
              obtain ⟨g1, off1, rfl, cell1⟩ := (hru.below hbw8).cellAt hlt
              obtain ⟨g2, off2, rfl, cell2⟩ := (hru'.below hbw8).cellAt (by rw [List.length_map]; exact hlt)
              have e1 := cell1 k hlt
              have e2 := cell2 k (by rw [List.length_map]; exact hlt)
              rw [getD_map hlt, hn] at e2
              rw [hn] at e1
              have h1 := hid hru
              have h2 := hid hru'
              have h3 := hid hpos
              clear hru hru' hpos cell1 cell2 hn
              by_cases hpn : p ≤ n
              · rw [show shiftI p (n : Int) = (n : Int) + 1 by unfold shiftI; exact if_pos (by omega)] at e2
                go_wp2_with fail
                go_roundw
                case rel => exact ⟨k + 1, by omega, by go_num, hbw, hbw8⟩
                case measure => simp [intOf]; omega
              · rw [show shiftI p (n : Int) = (n : Int) by unfold shiftI; exact if_neg (by omega)] at e2
                go_wp2_with fail
                go_roundw
                case rel => exact ⟨k + 1, by omega, by go_num, hbw, hbw8⟩
                case measure => simp [intOf]; omega
            · obtain rfl : k = K.length := by omega
              have h1 := hid hru
              have h2 := hid hru'
              have h3 := hid hpos
              clear hru hru' hpos
              go_wp2_with fail
              go_ret
              exact ⟨rfl, hbw⟩
        · rw [show shiftI p a = a by unfold shiftI; exact if_neg hpa]
          go_wp2_with fail
          refine (kept_calls _ l _ (hv0.below hb6) (by omega) hw64).mono ?_
          rintro e w7 ⟨u, rfl, hou, hb7⟩
          go_wp2_with fail
          refine (kept_calls _ (insN l p x) _ (hm4.below ((hb5.trans (hb56.mono hb5.size)).trans (hb7.mono (Nat.le_trans hb5.size hb56.size)))) (by omega) hmw).mono ?_
          rintro e w8 ⟨u', rfl, hou', hb8⟩
          rw [hlm, keptI_ins l p x hp hx] at hou'
          have hru := hou.read.below hb8
          have hru' := hou'.read
          clear hou hou'
          have hb8' : Below w.heap.size w w8 := (hb6.trans (hb7.mono hb6.size)).trans (hb8.mono (Nat.le_trans hb6.size hb7.size))
          have hpos := @kept_pos l
          obtain ⟨K, hK⟩ : ∃ K, K = keptI l l.length := ⟨_, rfl⟩
          rw [← hK] at hru hru'
          have hpos : ∀ i, i < K.length → ∃ n : Nat, K.getD i 0 = n ∧ n < l.length := fun i hi => by rw [hK] at hi ⊢; exact hpos hi
          have hKl : K.length ≤ 100 := by rw [hK]; have := keptF_le l l.length; unfold keptI; rw [List.length_map]; omega
          clear hK
          obtain ⟨A1, c1, rfl, hc1⟩ := hru.len
          obtain ⟨A2, c2, rfl, hc2⟩ := hru'.len
          rw [List.length_map] at hru' hc2 ⊢
          have hmw1 := hid hmw
          have hw1 := hid hw64
          have hm1 := hid hm4
          have hv1 := hid hv0
          clear hmw hw64 hm4 hv0 hb5 hb56 hb7 hb8 hb6 hb4
          go_wp2_with fail
          go_loopw [14] (fun i wr => ∃ k : Nat, k ≤ K.length ∧ i = .int .i64 k ∧ Below w.heap.size w wr ∧ Below w8.heap.size w8 wr) (fun i _ => K.length - (intOf i).toNat)
          case atStart => exact ⟨0, Nat.zero_le _, rfl, hb8', Below.refl _ _⟩
          case round =>
            obtain ⟨k, hk, rfl, hbw, hbw8⟩ := hrel
            by_cases hlt : k < K.length
            · obtain ⟨n, hn, hnl⟩ := hpos k hlt
              obtain ⟨g1, off1, rfl, cell1⟩ := (hru.below hbw8).cellAt hlt
              obtain ⟨g2, off2, rfl, cell2⟩ := (hru'.below hbw8).cellAt (by rw [List.length_map]; exact hlt)
              have e1 := cell1 k hlt
              have e2 := cell2 k (by rw [List.length_map]; exact hlt)
              rw [getD_map hlt, hn] at e2
              rw [hn] at e1
              have h1 := hid hru
              have h2 := hid hru'
              have h3 := hid hpos
              clear hru hru' hpos cell1 cell2 hn
              by_cases hpn : p ≤ n
              · rw [show shiftI p (n : Int) = (n : Int) + 1 by unfold shiftI; exact if_pos (by omega)] at e2
                go_wp2_with fail
                go_roundw
                case rel => exact ⟨k + 1, by omega, by go_num, hbw, hbw8⟩
                case measure => simp [intOf]; omega
              · rw [show shiftI p (n : Int) = (n : Int) by unfold shiftI; exact if_neg (by omega)] at e2
                go_wp2_with fail
                go_roundw
                case rel => exact ⟨k + 1, by omega, by go_num, hbw, hbw8⟩
                case measure => simp [intOf]; omega
            · obtain rfl : k = K.length := by omega
              have h1 := hid hru
              have h2 := hid hru'
              have h3 := hid hpos
              clear hru hru' hpos
              go_wp2_with fail
              go_ret
              exact ⟨rfl, hbw⟩
  · obtain ⟨A, c, rfl, hc⟩ := hv.len
    by_cases h1 : l.length ≤ 100
    · by_cases h2 : 0 ≤ at_
      · have h3 : (l.length : Int) < at_ := by omega
        clear hin
        go_enter Try.func8, Try.ntmps8
        go_wp2_with fail
        refine (densSmall_calls _).mono ?_
        rintro e w1 ⟨rfl, hb⟩
        go_wp2_with fail
        go_ret
        exact ⟨rfl, hb⟩
      · clear hin
        go_enter Try.func8, Try.ntmps8
        go_wp2_with fail
        refine (densSmall_calls _).mono ?_
        rintro e w1 ⟨rfl, hb⟩
        go_wp2_with fail
        go_ret
        exact ⟨rfl, hb⟩
    · clear hin
      go_enter Try.func8, Try.ntmps8
      go_wp2_with fail
      refine (densSmall_calls _).mono ?_
      rintro e w1 ⟨rfl, hb⟩
      go_wp2_with fail
      go_ret
      exact ⟨rfl, hb⟩
end Go.Proofs.Ytllgkmacjncelaa
