/-
  The walk of SegmentSplit. Conditions: the text has at most as many bytes as a string can have.
-/
import Derived.Test.YtmkgjleojfggcaaSegSmall
import Derived.BigQuiet
set_option linter.all false
namespace Go.Proofs.Ytmkgjleojfggcaa
open Go.RowKit
theorem segs_head (sp : Bool) : ∀ (l : List UInt8) (p : List UInt8) (ps : List (List UInt8)), segs sp l = p :: ps → (ps = [] ∧ l = p) ∨ ∃ c r, l = p ++ c :: r ∧ isSl sp c = true ∧ segs sp r = ps := by
  intro l
  induction l with
  | nil =>
    intro p ps h
    left
    have h' : ([[]] : List (List UInt8)) = p :: ps := h
    injection h' with h1 h2
    exact ⟨h2.symm, h1⟩
  | cons a r ih =>
    intro p ps h
    unfold segs at h
    by_cases ha : isSl sp a = true
    · rw [if_pos ha] at h
      injection h with h1 h2
      subst h1
      exact .inr ⟨a, r, rfl, ha, h2⟩
    · rw [if_neg ha] at h
      cases hr : segs sp r with
      | nil => exact absurd hr (segs_ne sp r)
      | cons q qs =>
        rw [hr] at h
        simp only [] at h
        injection h with h1 h2
        subst h1 h2
        rcases ih q qs hr with ⟨e1, e2⟩ | ⟨c, x, e1, e2, e3⟩
        · exact .inl ⟨e1, by rw [e2]⟩
        · exact .inr ⟨c, x, by rw [e1]; rfl, e2, e3⟩
/-- where the pieces behind the k-th one begin -/
def StandS (sp : Bool) (l : List UInt8) (P : List (List UInt8)) (k f : Nat) : Prop :=
  f ≤ l.length ∧ (k = 0 → f = 0) ∧ (0 < k → k < P.length → ∃ c r, l.drop f = c :: r ∧ isSl sp c = true ∧ segs sp r = P.drop k) ∧ (k = P.length → f = l.length)
/-- where piece k begins itself -/
theorem StandS.start {sp : Bool} {l : List UInt8} {k f : Nat} (h : StandS sp l (segs sp l) k f) (hk : k < (segs sp l).length) :
    ∃ f', f' = (if 0 < k then f + 1 else f) ∧ (0 < k → ∃ h : f < l.length, isSl sp l[f] = true) ∧ segs sp (l.drop f') = (segs sp l).drop k ∧ f' ≤ l.length := by
  refine ⟨_, rfl, ?_⟩
  by_cases h0 : 0 < k
  · rw [if_pos h0]
    obtain ⟨c, r, e1, e2, e3⟩ := h.2.2.1 h0 hk
    have hlt : f < l.length := by
      rcases Nat.lt_or_ge f l.length with hlt | hge
      · exact hlt
      · rw [List.drop_eq_nil_of_le hge] at e1; cases e1
    rw [List.drop_eq_getElem_cons hlt] at e1
    injection e1 with e4 e5
    exact ⟨fun _ => ⟨hlt, by rw [e4]; exact e2⟩, by rw [e5, e3], hlt⟩
  · rw [if_neg h0]
    have hk0 : k = 0 := by omega
    have hf := h.2.1 hk0
    subst hk0 hf
    exact ⟨fun h => absurd h (by omega), by simp, by omega⟩
theorem StandS.piece {sp : Bool} {l : List UInt8} {P : List (List UInt8)} {k f' : Nat} (h : segs sp (l.drop f') = P.drop k) (hk : k < P.length) (hf : f' ≤ l.length) :
    P[k].length ≤ l.length - f' ∧ (l.drop f').take P[k].length = P[k] ∧ StandS sp l P (k + 1) (f' + P[k].length) := by
  rw [List.drop_eq_getElem_cons hk] at h
  rcases segs_head sp _ _ _ h with ⟨e1, e2⟩ | ⟨c, r, e1, e2, e3⟩
  · have hl : (l.drop f').length = P[k].length := by rw [e2]
    rw [List.length_drop] at hl
    refine ⟨by omega, by rw [← e2]; exact List.take_length, by omega, by omega, fun _ h2 => ?_, fun _ => by omega⟩
    have := congrArg List.length e1
    simp at this
    omega
  · have hl : (l.drop f').length = P[k].length + (r.length + 1) := by rw [e1]; simp
    rw [List.length_drop] at hl
    refine ⟨by omega, by rw [e1]; exact List.take_left, by omega, by omega, fun _ h2 => ⟨c, r, ?_, e2, e3⟩, fun h2 => ?_⟩
    · rw [← List.drop_drop, e1]
      exact List.drop_left
    · have := congrArg List.length e3
      have h3 : (segs sp r).length ≠ 0 := fun e => segs_ne sp r (List.length_eq_zero_iff.1 e)
      simp at this
      omega
theorem cell_lt {w : World} {g off : Nat} {v : Value} (h : w.cell? ⟨g, off, none⟩ = some v) : g < w.heap.size := by
  rcases Nat.lt_or_ge g w.heap.size with hlt | hge
  · exact hlt
  · simp [World.cell?, Array.getElem?_eq_none hge] at h
theorem StandS.zero (sp : Bool) (l : List UInt8) (P : List (List UInt8)) (h : P ≠ []) : StandS sp l P 0 0 :=
  ⟨Nat.zero_le _, fun _ => rfl, fun h => absurd h (by omega), fun e => absurd (List.length_eq_zero_iff.1 e.symm) h⟩
set_option maxHeartbeats 4000000 in
set_option maxRecDepth 100000 in
theorem segmentSplit_walk (s : ByteArray) (sp : Bool) (w : World) (hs : s.size ≤ maxLen) :
    Calls Try.prog 18 #[.string s, .bool sp] w fun e w' => e = .returned (.bool true) ∧ Below w.heap.size w w' := by
  unfold maxLen at hs
  by_cases h5 : s.size ≤ 500
  · have hP0 := segs_ne sp s.data.toList
    have hPl := segs_len sp s.data.toList
    have hPn := segs_no sp s.data.toList
    have hS0 := StandS.zero sp s.data.toList _ hP0
    have hStart := fun k f => @StandS.start sp s.data.toList k f
    have hSC := split_calls s sp
    generalize segs sp s.data.toList = P at *
    have hlen : s.data.toList.length = s.size := by simp
    rw [hlen] at hPl
    have HL := hid hlen
    have HPn := hid hPn
    have HS0 := hid hS0
    have HSC := hid hSC
    have HSt := hid hStart
    have HPz : Hid (0 < P.length) := hid (by rcases Nat.eq_zero_or_pos P.length with h | h; exact absurd (List.length_eq_zero_iff.1 h) hP0; exact h)
    clear hlen hPn hS0 hSC hStart hP0
    go_enter Try.func18, Try.ntmps18
    go_wp2_with fail
    refine (segSmall_calls _).mono ?_
    rintro e w1 ⟨rfl, hb1⟩
    have HB1 := hid hb1
    clear hb1
    go_wp2_with fail
    refine (HSC.out w1 (by omega)).mono ?_
    rintro e w2 ⟨v, rfl, ho, hb2⟩
    obtain ⟨A, c, hv, hc⟩ := ho.read.len
    rw [List.length_map] at hv hc
    subst hv
    have HO := hid ho.read
    have HB := hid (HB1.out.trans (hb2.mono HB1.out.size))
    clear ho hb2
    go_wp2_with fail
    go_loopw [7, 8] (fun f i wr => ∃ k a : Nat, k ≤ P.length ∧ f = .int .i64 a ∧ i = .int .i64 k ∧ StandS sp s.data.toList P k a ∧ Below w2.heap.size w2 wr) (fun _ i _ => P.length - (intOf i).toNat)
    case atStart => exact ⟨0, 0, Nat.zero_le _, rfl, rfl, HS0.out, Below.refl _ _⟩
    case round =>
      obtain ⟨k, a, hk, rfl, rfl, hst, hbw⟩ := hrel
      have HBW := hid hbw
      by_cases hlt : k < P.length
      · obtain ⟨f, hf, hsl, hsg, hle⟩ := HSt.out k a hst hlt
        obtain ⟨hp1, hp2, hp3⟩ := StandS.piece hsg hlt hle
        obtain ⟨g, off, hA, hcell⟩ := (HO.out.below hbw).cellAt (k := k) (by rw [List.length_map]; exact hlt)
        rw [List.getElem_map] at hcell
        subst hA
        have hal : a ≤ s.data.toList.length := hst.1
        have HPk := hid (HPn.out P[k] (List.getElem_mem hlt))
        have hx : (strB P[k]).data.toList = P[k] := strB_list _
        have hxs : (strB P[k]).size = P[k].length := by simp [strB, ByteArray.size]
        have hC : s.extract f (f + P[k].length) = strB P[k] := by rw [strB_ext, Nat.add_sub_cancel_left, hp2]
        rw [← hxs] at hp1 hC hp3
        rw [← hx] at HPk
        rw [HL.out] at hp1 hal hle
        generalize strB P[k] = x at *
        have HX3 := hid hp3
        have HC := hid hC
        clear hp3 hC hx hxs hp2 hsg hst hbw
        by_cases h0 : 0 < k
        · rw [if_pos h0] at hf
          obtain ⟨hlt2, hs2⟩ := hsl h0
          have hlt3 : a < s.size := by rw [← HL.out]; exact hlt2
          have hbyte : s[a] = s.data.toList[a] := by simp; rfl
          rw [← hbyte, isSl_eq] at hs2
          have hq : decide (s.size ≤ a) = false := by rw [decide_eq_false_iff_not]; omega
          have hf2 : (a : Int) + 1 = (f : Int) := by omega
          have HF2 := hid hf2
          have HF := hid hf
          clear hsl hbyte hf2 hf
          cases h1 : (((s[a]).toNat : Int) == 47)
          · have h1n : (((s[a]).toNat : Int) != 47) = true := by simp [bne, h1]
            cases sp
            · rw [h1] at hs2; cases hs2
            · rw [h1] at hs2
              have h2 : (((s[a]).toNat : Int) == 92) = true := by simpa using hs2
              clear hs2
              go_wp2_with fail
              rw [HF2.out]
              have hf : a + 1 = f := HF.out.symm
              clear hq h1 h1n h2
              have hW1 : IntKind.i64.wrap ((s.size : Int) - (f : Int)) = (s.size : Int) - (f : Int) := IntWalk.i64_in _ (by omega)
              obtain ⟨q, hq⟩ : ∃ q : Nat, q = f + x.size := ⟨_, rfl⟩
              have hW2 : IntKind.i64.wrap ((f : Int) + (x.size : Int)) = (q : Int) := by rw [IntWalk.i64_in _ (by omega)]; omega
              have hfq : f ≤ q := by omega
              have hqs : q ≤ s.size := by omega
              have hG : decide ((s.size : Int) - (f : Int) < (x.size : Int)) = false := by rw [decide_eq_false_iff_not]; omega
              have hC := HC.out
              rw [← hq] at hC
              have HQ := hid hq
              clear hq
              (try simp only [Nat.add_zero] at hcell)
              refine region_seq (fun W => W.cell? ⟨g, off + k, none⟩ = some (.string x) ∧ Below w2.heap.size w2 W) (by kernel_rfl) (by kernel_rfl) ⟨hcell, HBW.out.drew⟩ ?_
              simp only []
              repeat (first
                | (apply SeqDet.stepK; · rfl
                   · intro W hW K hK; have f1 := hW.1; go_simp; exact hK _ hW
                   simp only [Act.put, List.setIfInBounds_toArray, List.set_cons_zero, List.set_cons_succ])
                | (apply SeqDet.skip; · rfl
                   simp only [Act.put, List.setIfInBounds_toArray, List.set_cons_zero, List.set_cons_succ]))
              refine SeqDet.nil ?_
              intro w4 hw4
              have HBX := hid hw4.2
              have f1 := hw4.1
              clear hW1 hW2 hG hC hw4
              go_wp2_with fail
              go_loopw [9] (fun i wi => ∃ j : Nat, j ≤ x.size ∧ i = .int .i64 j ∧ Below w4.heap.size w4 wi) (fun i _ => x.size - (intOf i).toNat)
              case atStart => exact ⟨0, Nat.zero_le _, rfl, Below.refl _ _⟩
              case round =>
                obtain ⟨j, hj, rfl, hbi⟩ := hrel
                have f2 := (hbi.cell (p := ⟨g, off + k, none⟩) (cell_lt f1)).trans f1
                have HBI := hid hbi
                have F1 := hid f1
                clear hbi f1
                by_cases hjl : j < x.size
                · have hn := HPk.out x[j] (by have : x[j] = x.data.toList[j]'(by simpa using hjl) := by simp; rfl
                                              rw [this]; exact List.getElem_mem _)
                  rw [isSl_eq] at hn
                  simp only [Bool.or_eq_false_iff] at hn
                  obtain ⟨n1, n2⟩ := hn
                  have n3 : (((x[j]).toNat : Int) == 92) = false := by simpa using n2
                  go_wp2_with fail
                  go_roundw
                  case rel => exact ⟨j + 1, by omega, by go_num, HBI.out⟩
                  case measure => simp [intOf]; omega
                · obtain rfl : j = x.size := by omega
                  have HST : Hid (StandS true s.data.toList P (k + 1) q) := hid (by rw [HQ.out]; exact HX3.out)
                  have hw9 : IntKind.i64.wrap ((f : Int) + (x.size : Int)) = (q : Int) := by rw [IntWalk.i64_in _ (by have := HQ.out; omega)]; have := HQ.out; omega
                  go_wp2_with fail
                  go_roundw
                  case rel => exact ⟨k + 1, q, by omega, rfl, by go_num, HST.out, HBX.out.trans (HBI.out.mono HBX.out.size)⟩
                  case measure => simp [intOf]; omega
          · have h1n : (((s[a]).toNat : Int) != 47) = false := by simp [bne, h1]
            clear hs2
            go_wp2_with fail
            rw [HF2.out]
            have hf : a + 1 = f := HF.out.symm
            clear hq h1 h1n
            have hW1 : IntKind.i64.wrap ((s.size : Int) - (f : Int)) = (s.size : Int) - (f : Int) := IntWalk.i64_in _ (by omega)
            obtain ⟨q, hq⟩ : ∃ q : Nat, q = f + x.size := ⟨_, rfl⟩
            have hW2 : IntKind.i64.wrap ((f : Int) + (x.size : Int)) = (q : Int) := by rw [IntWalk.i64_in _ (by omega)]; omega
            have hfq : f ≤ q := by omega
            have hqs : q ≤ s.size := by omega
            have hG : decide ((s.size : Int) - (f : Int) < (x.size : Int)) = false := by rw [decide_eq_false_iff_not]; omega
            have hC := HC.out
            rw [← hq] at hC
            have HQ := hid hq
            clear hq
            (try simp only [Nat.add_zero] at hcell)
            refine region_seq (fun W => W.cell? ⟨g, off + k, none⟩ = some (.string x) ∧ Below w2.heap.size w2 W) (by kernel_rfl) (by kernel_rfl) ⟨hcell, HBW.out.drew⟩ ?_
            simp only []
            repeat (first
              | (apply SeqDet.stepK; · rfl
                 · intro W hW K hK; have f1 := hW.1; go_simp; exact hK _ hW
                 simp only [Act.put, List.setIfInBounds_toArray, List.set_cons_zero, List.set_cons_succ])
              | (apply SeqDet.skip; · rfl
                 simp only [Act.put, List.setIfInBounds_toArray, List.set_cons_zero, List.set_cons_succ]))
            refine SeqDet.nil ?_
            intro w4 hw4
            have HBX := hid hw4.2
            have f1 := hw4.1
            clear hW1 hW2 hG hC hw4
            go_wp2_with fail
            go_loopw [9] (fun i wi => ∃ j : Nat, j ≤ x.size ∧ i = .int .i64 j ∧ Below w4.heap.size w4 wi) (fun i _ => x.size - (intOf i).toNat)
            case atStart => exact ⟨0, Nat.zero_le _, rfl, Below.refl _ _⟩
            case round =>
              obtain ⟨j, hj, rfl, hbi⟩ := hrel
              have f2 := (hbi.cell (p := ⟨g, off + k, none⟩) (cell_lt f1)).trans f1
              have HBI := hid hbi
              have F1 := hid f1
              clear hbi f1
              by_cases hjl : j < x.size
              · have hn := HPk.out x[j] (by have : x[j] = x.data.toList[j]'(by simpa using hjl) := by simp; rfl
                                            rw [this]; exact List.getElem_mem _)
                rw [isSl_eq] at hn
                simp only [Bool.or_eq_false_iff] at hn
                obtain ⟨n1, n2⟩ := hn
                cases sp
                · go_wp2_with fail
                  go_roundw
                  case rel => exact ⟨j + 1, by omega, by go_num, HBI.out⟩
                  case measure => simp [intOf]; omega
                · have n3 : (((x[j]).toNat : Int) == 92) = false := by simpa using n2
                  go_wp2_with fail
                  go_roundw
                  case rel => exact ⟨j + 1, by omega, by go_num, HBI.out⟩
                  case measure => simp [intOf]; omega
              · obtain rfl : j = x.size := by omega
                have HST : Hid (StandS sp s.data.toList P (k + 1) q) := hid (by rw [HQ.out]; exact HX3.out)
                have hw9 : IntKind.i64.wrap ((f : Int) + (x.size : Int)) = (q : Int) := by rw [IntWalk.i64_in _ (by have := HQ.out; omega)]; have := HQ.out; omega
                go_wp2_with fail
                go_roundw
                case rel => exact ⟨k + 1, q, by omega, rfl, by go_num, HST.out, HBX.out.trans (HBI.out.mono HBX.out.size)⟩
                case measure => simp [intOf]; omega
        · rw [if_neg h0] at hf
          subst hf
          obtain rfl : k = 0 := by omega
          clear hsl h0
          go_wp2_with fail
          have hW1 : IntKind.i64.wrap ((s.size : Int) - (f : Int)) = (s.size : Int) - (f : Int) := IntWalk.i64_in _ (by omega)
          obtain ⟨q, hq⟩ : ∃ q : Nat, q = f + x.size := ⟨_, rfl⟩
          have hW2 : IntKind.i64.wrap ((f : Int) + (x.size : Int)) = (q : Int) := by rw [IntWalk.i64_in _ (by omega)]; omega
          have hfq : f ≤ q := by omega
          have hqs : q ≤ s.size := by omega
          have hG : decide ((s.size : Int) - (f : Int) < (x.size : Int)) = false := by rw [decide_eq_false_iff_not]; omega
          have hC := HC.out
          rw [← hq] at hC
          have HQ := hid hq
          clear hq
          (try simp only [Nat.add_zero] at hcell)
          refine region_seq (fun W => W.cell? ⟨g, off, none⟩ = some (.string x) ∧ Below w2.heap.size w2 W) (by kernel_rfl) (by kernel_rfl) ⟨hcell, HBW.out.drew⟩ ?_
          simp only []
          repeat (first
            | (apply SeqDet.stepK; · rfl
               · intro W hW K hK; have f1 := hW.1; go_simp; exact hK _ hW
               simp only [Act.put, List.setIfInBounds_toArray, List.set_cons_zero, List.set_cons_succ])
            | (apply SeqDet.skip; · rfl
               simp only [Act.put, List.setIfInBounds_toArray, List.set_cons_zero, List.set_cons_succ]))
          refine SeqDet.nil ?_
          intro w4 hw4
          have HBX := hid hw4.2
          have f1 := hw4.1
          clear hW1 hW2 hG hC hw4
          go_wp2_with fail
          go_loopw [9] (fun i wi => ∃ j : Nat, j ≤ x.size ∧ i = .int .i64 j ∧ Below w4.heap.size w4 wi) (fun i _ => x.size - (intOf i).toNat)
          case atStart => exact ⟨0, Nat.zero_le _, rfl, Below.refl _ _⟩
          case round =>
            obtain ⟨j, hj, rfl, hbi⟩ := hrel
            have f2 := (hbi.cell (p := ⟨g, off, none⟩) (cell_lt f1)).trans f1
            have HBI := hid hbi
            have F1 := hid f1
            clear hbi f1
            by_cases hjl : j < x.size
            · have hn := HPk.out x[j] (by have : x[j] = x.data.toList[j]'(by simpa using hjl) := by simp; rfl
                                          rw [this]; exact List.getElem_mem _)
              rw [isSl_eq] at hn
              simp only [Bool.or_eq_false_iff] at hn
              obtain ⟨n1, n2⟩ := hn
              cases sp
              · go_wp2_with fail
                go_roundw
                case rel => exact ⟨j + 1, by omega, by go_num, HBI.out⟩
                case measure => simp [intOf]; omega
              · have n3 : (((x[j]).toNat : Int) == 92) = false := by simpa using n2
                go_wp2_with fail
                go_roundw
                case rel => exact ⟨j + 1, by omega, by go_num, HBI.out⟩
                case measure => simp [intOf]; omega
            · obtain rfl : j = x.size := by omega
              have HST : Hid (StandS sp s.data.toList P 1 q) := hid (by rw [HQ.out]; exact HX3.out)
              have hw9 : IntKind.i64.wrap ((f : Int) + (x.size : Int)) = (q : Int) := by rw [IntWalk.i64_in _ (by have := HQ.out; omega)]; have := HQ.out; omega
              go_wp2_with fail
              go_roundw
              case rel => exact ⟨1, q, by omega, rfl, by go_num, HST.out, HBX.out.trans (HBI.out.mono HBX.out.size)⟩
              case measure => simp [intOf]; omega
      · obtain rfl : k = P.length := by omega
        have hlast := hst.2.2.2 rfl
        rw [HL.out] at hlast
        subst hlast
        have hz := HPz.out
        clear hst
        go_wp2_with fail
        go_ret
        exact ⟨rfl, HB.out.trans (HBW.out.mono HB.out.size)⟩
  · go_enter Try.func18, Try.ntmps18
    go_wp2_with fail
    refine (segSmall_calls _).mono ?_
    rintro e w1 ⟨rfl, hb1⟩
    go_wp2_with fail
    go_ret
    exact ⟨rfl, hb1⟩
end Go.Proofs.Ytmkgjleojfggcaa
