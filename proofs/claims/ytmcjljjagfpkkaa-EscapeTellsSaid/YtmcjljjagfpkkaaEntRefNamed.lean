/-
  The contracts of the document's names: names, strict, find, Named. Conditions: the text has at most 100000 bytes.
-/
import Derived.Test.YtmcjljjagfpkkaaEntRef
import Derived.Test.YtmcjljjagfpkkaaTexts
set_option linter.all false
namespace Go.Proofs.Ytmcjljjagfpkkaa
open Go.RowKit
theorem ReadT.lit (w : World) (l : List ByteArray) : ReadT (w.alloc (.cells (l.map Value.string).toArray 9)) (.slice (some ⟨w.heap.size, 0, none⟩) l.length l.length) l := by
  refine .inr ⟨w.heap.size, 0, l.length, rfl, Nat.le_refl _, fun j hj => ?_⟩
  refine (World.cell?_alloc_mark w _ 9 (0, 0) (0 + j)).trans ?_
  simp [hj]
theorem ReadT.litAt (w : World) (l : List ByteArray) (g : Nat) (hg : w.heap.size = g) : ReadT (w.alloc (.cells (l.map Value.string).toArray 9)) (.slice (some ⟨g, 0, none⟩) l.length l.length) l := by
  subst hg
  exact ReadT.lit w l
def keysT (T : List (List UInt8 × List UInt8)) : List ByteArray := T.map fun p => strB p.1
def valsT (T : List (List UInt8 × List UInt8)) : List ByteArray := T.map fun p => strB p.2
set_option maxHeartbeats 4000000 in
set_option maxRecDepth 100000 in
theorem refNames_calls (w : World) : Calls Try.prog 37 #[] w fun e w' => ∃ v x, e = .returned (.tuple #[v, x]) ∧ ReadT w' v (keysT freeT) ∧ ReadT w' x (valsT freeT) ∧ Below w.heap.size w w' := by
  go_enter Try.func37, Try.ntmps37
  go_wp2_with fail
  go_ret2
  refine ⟨_, _, rfl, ?_, ?_, ?_⟩
  · exact (ReadT.lit w (keysT freeT)).below (alloc_belowE _ _)
  · exact ReadT.litAt (w.alloc (.cells ((keysT freeT).map Value.string).toArray 9)) (valsT freeT) _ (by simp)
  · exact (alloc_belowE w _).trans ((alloc_belowE _ _).mono (by simp))
set_option maxHeartbeats 4000000 in
set_option maxRecDepth 100000 in
theorem refStrict_calls (w : World) : Calls Try.prog 35 #[] w fun e w' => ∃ v x, e = .returned (.tuple #[v, x]) ∧ ReadT w' v (keysT strictT) ∧ ReadT w' x (valsT strictT) ∧ Below w.heap.size w w' := by
  go_enter Try.func35, Try.ntmps35
  go_wp2_with fail
  go_ret2
  refine ⟨_, _, rfl, ?_, ?_, ?_⟩
  · exact (ReadT.lit w (keysT strictT)).below (alloc_belowE _ _)
  · exact ReadT.litAt (w.alloc (.cells ((keysT strictT).map Value.string).toArray 9)) (valsT strictT) _ (by simp)
  · exact (alloc_belowE w _).trans ((alloc_belowE _ _).mono (by simp))
theorem ReadT.cellAt {w : World} {A : Option Addr} {n c k : Nat} {l : List ByteArray} (h : ReadT w (.slice A n c) l) (hk : k < l.length) :
    ∃ g off, A = some ⟨g, off, none⟩ ∧ w.cell? ⟨g, off + k, none⟩ = some (.string l[k]) := by
  rcases h with ⟨h, rfl⟩ | ⟨g, off, c', hv, hc, hcell⟩
  · simp at hk
  · injection hv with h1 h2 h3
    exact ⟨g, off, h1, hcell k hk⟩
set_option maxHeartbeats 4000000 in
theorem refFind_calls (v x : Value) (T : List (List UInt8 × List UInt8)) (s : ByteArray) (w : World) (hv : ReadT w v (keysT T)) (hx : ReadT w x (valsT T)) (hT : T.length ≤ 1000) :
    Calls Try.prog 36 #[v, x, .string s] w fun e w' => e = .returned (tellV (lookT T s.data.toList)) ∧ Below w.heap.size w w' := by
  obtain ⟨A, c, rfl, hc⟩ := hv.len
  obtain ⟨B, d, rfl, hd⟩ := hx.len
  have hkl : (keysT T).length = T.length := by simp [keysT]
  have hvl : (valsT T).length = T.length := by simp [valsT]
  have HV := hid hv
  have HX := hid hx
  rw [hkl] at hc HV ⊢
  rw [hvl] at hd HX ⊢
  clear hv hx hkl hvl
  go_enter Try.func36, Try.ntmps36
  go_wp2_with fail
  go_loopw [8] (fun i wr => ∃ k : Nat, k ≤ T.length ∧ i = .int .i64 k ∧ Hid (lookT (T.take k) s.data.toList = none) ∧ Below w.heap.size w wr) (fun i _ => T.length - (intOf i).toNat)
  case atStart => exact ⟨0, Nat.zero_le _, rfl, hid (by simp [lookT]), Below.refl _ _⟩
  case round =>
    obtain ⟨k, hk, rfl, hlk, hbw⟩ := hrel
    by_cases hlt : k < T.length
    · obtain ⟨g, off, hA, hc1⟩ := (HV.out.below hbw).cellAt (k := k) (by simp [keysT]; exact hlt)
      obtain ⟨g2, off2, hB2, hc2⟩ := (HX.out.below hbw).cellAt (k := k) (by simp [valsT]; exact hlt)
      have e1 : (keysT T)[k]'(by simp [keysT]; exact hlt) = strB T[k].1 := by simp [keysT]
      have e2 : (valsT T)[k]'(by simp [valsT]; exact hlt) = strB T[k].2 := by simp [valsT]
      rw [e1] at hc1
      rw [e2] at hc2
      subst hA hB2
      have HBW := hid hbw
      clear hbw e1 e2
      by_cases hn : T[k].1 = s.data.toList
      · have hb1 : ((strB T[k].1).toList == s.toList) = true := by rw [ByteArray.toList_eq, ByteArray.toList_eq, strB_list, hn]; simp
        have HT : Hid (lookT T s.data.toList = some T[k].2) := hid (by
          have hsp : T = T.take k ++ T[k] :: T.drop (k + 1) := by rw [← List.drop_eq_getElem_cons hlt, List.take_append_drop]
          have := lookT_app (T.take k) (T[k] :: T.drop (k + 1)) s.data.toList
          rw [← hsp, hlk.out] at this
          rw [this]
          show lookT (T[k] :: T.drop (k + 1)) s.data.toList = _
          unfold lookT
          rw [List.find?_cons_of_pos (by simpa using hn)]
          rfl)
        generalize strB T[k].1 = y at *
        clear hn
        go_wp2_with fail
        go_ret2
        exact ⟨by rw [HT.out]; rfl, HBW.out⟩
      · have hb1 : ((strB T[k].1).toList == s.toList) = false := by rw [ByteArray.toList_eq, ByteArray.toList_eq, strB_list, beq_eq_false_iff_ne]; exact hn
        have HNX : Hid (lookT (T.take (k + 1)) s.data.toList = none) := hid (lookT_step k hlk.out hlt hn)
        generalize strB T[k].1 = y at *
        clear hn
        go_wp2_with fail
        go_roundw
        case rel => exact ⟨k + 1, by omega, by go_num, HNX, HBW.out⟩
        case measure => simp [intOf]; omega
    · obtain rfl : k = T.length := by omega
      have HBW := hid hbw
      have HT : Hid (lookT T s.data.toList = none) := hid (by have := hlk.out; rwa [List.take_length] at this)
      clear hbw
      go_wp2_with fail
      go_ret2
      exact ⟨by rw [HT.out]; rfl, HBW.out⟩
theorem free_strict {n t : List UInt8} (h : lookT freeT n = some t) : lookT strictT n = none := by
  have hm := lookT_mem h
  have := List.all_eq_true.1 tabs_apart _ hm
  simpa using this
theorem find_of (v x : Value) (T : List (List UInt8 × List UInt8)) (s : ByteArray) (o : Option (List UInt8)) (ho : lookT T s.data.toList = o) (w : World) (hv : ReadT w v (keysT T)) (hx : ReadT w x (valsT T)) (hT : T.length ≤ 1000) :
    Calls Try.prog 36 #[v, x, .string s] w fun e w' => e = .returned (.tuple #[.string (strB (o.getD [])), .bool o.isSome]) ∧ Below w.heap.size w w' := by
  subst ho
  exact refFind_calls v x T s w hv hx hT
set_option maxHeartbeats 4000000 in
theorem refNamed_calls (s : ByteArray) (w : World) (hs : s.size ≤ 100000) :
    Calls Try.prog 15 #[.string s] w fun e w' => e = .returned (tellV (namedL s.data.toList)) ∧ Below w.heap.size w w' := by
  have hlen : s.data.toList.length = s.size := by simp
  have hn : namedL s.data.toList = match lookT freeT (cutSemi s.data.toList).1 with | some t => some t | none => if (cutSemi s.data.toList).2 = true then lookT strictT (cutSemi s.data.toList).1 else none := rfl
  rcases cutSemi_cases s.data.toList with ⟨hc, hl⟩ | ⟨r, hl, hc⟩
  · rw [hc] at hn
    have hnl : namedL s.data.toList = lookT freeT s.data.toList := by rw [hn]; cases lookT freeT s.data.toList <;> rfl
    have HF := hid (fun v x w hv hx => find_of v x freeT s _ rfl w hv hx (by decide))
    have HN := hid hnl
    by_cases h0 : s.size = 0
    · have hz : s.size ≤ 0 := by omega
      have hz2 : decide (0 < s.size) = false := decide_eq_false (by omega)
      have hz3 : decide (0 < (s.size : Int)) = false := decide_eq_false (by omega)
      clear hn hl hc hlen hnl h0
      go_enter Try.func15, Try.ntmps15
      go_wp2_with fail
      refine (refNames_calls w).mono ?_
      rintro e w1 ⟨v, x, rfl, hv, hx, hb1⟩
      have HV := hid hv
      have HX := hid hx
      have HB := hid hb1
      clear hv hx hb1
      go_wp2_with fail
      refine (HF.out _ _ _ HV.out HX.out).mono ?_
      rintro e w2 ⟨rfl, hb2⟩
      have HB := hid (HB.out.trans (hb2.mono HB.out.size))
      clear hb2
      go_wp2_with fail
      go_ret2
      exact ⟨by rw [HN.out]; rfl, HB.out⟩
    · obtain ⟨m, hm⟩ : ∃ m, s.size = m + 1 := ⟨s.size - 1, by omega⟩
      have hms : m < s.size := by omega
      have hW : IntKind.i64.wrap ((s.size : Int) - 1) = (m : Int) := by rw [IntWalk.i64_in _ (by omega)]; omega
      have h59 := byte_59 s[m]
      have hne : (((s[m]).toNat : Int) == 59) = false := by
        rw [h59, beq_eq_false_iff_ne]
        intro e
        apply hl
        rw [List.getLast?_eq_getElem?, hlen, show s.size - 1 = m by omega, List.getElem?_eq_getElem (by rw [hlen]; exact hms)]
        rw [← e]
        rfl
      have hpos : 0 < s.size := by omega
      clear hn hl hc hlen hnl h0 h59 hm
      go_enter Try.func15, Try.ntmps15
      go_wp2_with fail
      refine (refNames_calls w).mono ?_
      rintro e w1 ⟨v, x, rfl, hv, hx, hb1⟩
      have HV := hid hv
      have HX := hid hx
      have HB := hid hb1
      clear hv hx hb1
      go_wp2_with fail
      refine (HF.out _ _ _ HV.out HX.out).mono ?_
      rintro e w2 ⟨rfl, hb2⟩
      have HB := hid (HB.out.trans (hb2.mono HB.out.size))
      clear hb2
      go_wp2_with fail
      go_ret2
      exact ⟨by rw [HN.out]; rfl, HB.out⟩
  · rw [hc] at hn
    have hsz : s.size = r.length + 1 := by rw [← hlen, hl]; simp
    have hms : r.length < s.size := by omega
    have hW : IntKind.i64.wrap ((s.size : Int) - 1) = (r.length : Int) := by rw [IntWalk.i64_in _ (by omega)]; omega
    have hby : s[r.length] = 59 := by
      have h1 : s[r.length] = s.data.toList[r.length]'(by rw [hlen]; exact hms) := by simp; rfl
      rw [h1]
      simp [hl]
    have heq : (((s[r.length]).toNat : Int) == 59) = true := by rw [hby]; decide
    have hcut : s.extract 0 r.length = strB r := by rw [ext_listE, hl]; simp
    have hpos : 0 < s.size := by omega
    have hle : r.length ≤ s.size := by omega
    have HCUT := hid hcut
    have HFS := hid (fun v x w hv hx => find_of v x strictT (strB r) _ (by rw [strB_list]) w hv hx (by decide))
    have HFN := hid (fun v x w hv hx => find_of v x freeT (strB r) _ (by rw [strB_list]) w hv hx (by decide))
    cases hst : lookT strictT r with
    | some t =>
      have hfn : lookT freeT r = none := by
        cases hf : lookT freeT r with
        | none => rfl
        | some u => rw [free_strict hf] at hst; cases hst
      have HN : Hid (namedL s.data.toList = some t) := hid (by rw [hn, hfn]; simp only [hst, if_true])
      rw [hst] at HFS
      simp only [Option.getD_some, Option.isSome_some] at HFS
      clear hn hl hc hlen hby hsz hst hfn
      go_enter Try.func15, Try.ntmps15
      go_wp2_with fail
      refine (refStrict_calls w).mono ?_
      rintro e w1 ⟨v, x, rfl, hv, hx, hb1⟩
      have HV := hid hv
      have HX := hid hx
      have HB := hid hb1
      clear hv hx hb1
      go_wp2_with fail
      refine (HFS.out _ _ _ HV.out HX.out).mono ?_
      rintro e w2 ⟨rfl, hb2⟩
      have HB := hid (HB.out.trans (hb2.mono HB.out.size))
      clear hb2
      go_wp2_with fail
      go_ret2
      exact ⟨by rw [HN.out]; rfl, HB.out⟩
    | none =>
      have HN : Hid (namedL s.data.toList = lookT freeT r) := hid (by rw [hn]; simp only [hst]; cases lookT freeT r <;> rfl)
      rw [hst] at HFS
      simp only [Option.getD_none, Option.isSome_none] at HFS
      clear hn hl hc hlen hby hsz hst
      go_enter Try.func15, Try.ntmps15
      go_wp2_with fail
      refine (refStrict_calls w).mono ?_
      rintro e w1 ⟨v, x, rfl, hv, hx, hb1⟩
      have HV := hid hv
      have HX := hid hx
      have HB := hid hb1
      clear hv hx hb1
      go_wp2_with fail
      refine (HFS.out _ _ _ HV.out HX.out).mono ?_
      rintro e w2 ⟨rfl, hb2⟩
      have HB := hid (HB.out.trans (hb2.mono HB.out.size))
      clear hb2
      go_wp2_with fail
      refine (refNames_calls w2).mono ?_
      rintro e w3 ⟨v3, x3, rfl, hv, hx, hb1⟩
      have HV := hid hv
      have HX := hid hx
      have HB := hid (HB.out.trans (hb1.mono HB.out.size))
      clear hv hx hb1
      go_wp2_with fail
      refine (HFN.out _ _ _ HV.out HX.out).mono ?_
      rintro e w4 ⟨rfl, hb2⟩
      have HB := hid (HB.out.trans (hb2.mono HB.out.size))
      clear hb2
      go_wp2_with fail
      go_ret2
      exact ⟨by rw [HN.out]; rfl, HB.out⟩
end Go.Proofs.Ytmcjljjagfpkkaa
