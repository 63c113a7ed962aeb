/-
  The walk of RecordPaths. Conditions: the addresses are as they can be handed over.
-/
import Derived.Test.YtmkgjleojfggcaaRecUrl
import Derived.Test.YtmkgjleojfggcaaRecShortW
import Derived.Test.YtmkgjleojfggcaaSeqDet
set_option linter.all false
namespace Go.Proofs.Ytmkgjleojfggcaa
open Go.RowKit
theorem zz_one (w : World) : ReadT (w.alloc (.cells #[.string ⟨#[122, 122]⟩] 9)) (.slice (some ⟨w.heap.size, 0, none⟩) 1 1) [⟨#[122, 122]⟩] := ReadT.one w _
theorem OwnT.form {w : World} {base : Nat} {v : Value} {l : List ByteArray} (h : OwnT w base v l) (hn : 0 < l.length) : ∃ g cap, v = .slice (some ⟨g, 0, none⟩) l.length cap ∧ base ≤ g := by
  rcases h.2 with ⟨_, h0⟩ | ⟨g, cap, cur, hv, hb, _⟩
  · omega
  · exact ⟨g, cap, hv, hb⟩
theorem OwnT.stored {w : World} {base g c j : Nat} {l : List ByteArray} (h : OwnT w base (.slice (some ⟨g, 0, none⟩) l.length c) l) (s : ByteArray) (hb : Below base w w) :
    OwnT (w.setCell ⟨g, j, none⟩ (.string s)) base (.slice (some ⟨g, 0, none⟩) l.length c) (l.set j s) := by
  have := (World.ownsRow.stored h j (.string s)).1
  unfold OwnT
  rw [List.length_set]
  simpa [List.map_set] using this
set_option maxHeartbeats 16000000 in
set_option maxRecDepth 100000 in
theorem recPaths_calls (s : ByteArray) (u v : Url) (w : World) (hs : s.size ≤ maxLen) (hu : ReadT w u.pathV u.path) (hfu : u.Fits) (hv : ReadT w v.pathV v.path) (hfv : v.Fits) :
    Calls Try.prog 4 #[.string s, u.val, v.val] w fun e w' => e = .returned (.bool true) ∧ Below w.heap.size w w' := by
  rw [Url.val_eq, Url.val_eq]
  have HFU := hid hfu
  have HFV := hid hfv
  have HU := hid hu
  have HV := hid hv
  clear hfu hfv hu hv
  unfold maxLen at hs
  go_enter Try.func4, Try.ntmps4
  go_upto_region 0 with (fail)
  apply wp_region_lit
  refine wpList_box_url rfl _ rfl _ _ rfl ?_
  refine wpList_box_url rfl _ rfl _ _ rfl ?_
  simp only [Act.put, List.setIfInBounds_toArray, List.set_cons_zero, List.set_cons_succ, World.size_alloc]
  have hb0 := alloc2 w (.cells u.cells 33) (.cells v.cells 33)
  have hg1 : ((w.alloc (.cells u.cells 33)).alloc (.cells v.cells 33)).heap[w.heap.size]? = some (.cells u.cells 33) := by
    show ((w.heap.push _).push _)[w.heap.size]? = _
    simp only [Array.getElem?_push, Array.size_push]
    rw [if_neg (by omega), if_pos trivial]
  have hg2 : ((w.alloc (.cells u.cells 33)).alloc (.cells v.cells 33)).heap[w.heap.size + 1]? = some (.cells v.cells 33) := by
    show ((w.heap.push _).push _)[w.heap.size + 1]? = _
    simp only [Array.getElem?_push, Array.size_push]
    rw [if_pos trivial]
  have hz : ((w.alloc (.cells u.cells 33)).alloc (.cells v.cells 33)).heap.size = w.heap.size + 2 := by simp
  generalize (w.alloc (.cells u.cells 33)).alloc (.cells v.cells 33) = w0 at *
  have HB := hid hb0
  have HX := hid (Below.refl w0.heap.size w0)
  have H1 := hid hg1
  have H2 := hid hg2
  have HZ := hid hz
  clear hb0 hg1 hg2 hz
  generalize hG : w.heap.size = G at H1 H2 HZ ⊢
  have HG := hid hG
  clear hG
  (refine wpList_yes rfl ?_; intro K hK; go_simp; refine hK _ _ ?_; clear hK K)
  apply wpList_nil
  go_wp2_with fail
  refine (recSmall_calls _).mono ?_
  rintro e w1 ⟨rfl, hb9⟩
  replace HX := hid (HX.out.trans (hb9.mono HX.out.size))
  clear hb9
  go_upto_region 2 with (fail)
  apply wp_region_lit
  refine wpList_load_urlG rfl _ rfl _ _ _ rfl rfl ((HX.out.block _ (by rw [HZ.out]; omega)).trans H1.out) ?_
  simp only [Act.put, List.setIfInBounds_toArray, List.set_cons_zero, List.set_cons_succ]
  refine wpList_yes rfl ?_; intro K hK; go_simp; go_at_call 35
  refine (few_calls u _ (HU.out.below (HB.out.trans (HX.out.mono HB.out.size))) HFU.out).mono ?_
  rintro e w9 ⟨b1, rfl, hf1, hb9⟩
  refine hK _ _ ?_
  clear hK K
  have HF1 := hid hf1
  replace HX := hid (HX.out.trans (hb9.mono HX.out.size))
  clear hb9 hf1
  (refine wpList_yes rfl ?_; intro K hK; go_simp; refine hK _ _ ?_; clear hK K)
  apply wpList_nil
  go_upto_region 3 with (fail)
  apply wp_region_lit
  refine wpList_load_urlG rfl _ rfl _ _ _ rfl rfl ((HX.out.block _ (by rw [HZ.out]; omega)).trans H2.out) ?_
  simp only [Act.put, List.setIfInBounds_toArray, List.set_cons_zero, List.set_cons_succ]
  refine wpList_yes rfl ?_; intro K hK; go_simp; go_at_call 35
  refine (few_calls v _ (HV.out.below (HB.out.trans (HX.out.mono HB.out.size))) HFV.out).mono ?_
  rintro e w9 ⟨b2, rfl, hf2, hb9⟩
  refine hK _ _ ?_
  clear hK K
  have HF2 := hid hf2
  replace HX := hid (HX.out.trans (hb9.mono HX.out.size))
  clear hb9 hf2
  (refine wpList_yes rfl ?_; intro K hK; go_simp; refine hK _ _ ?_; clear hK K)
  apply wpList_nil
  have hbz := hid (HB.out.trans (HX.out.mono HB.out.size))
  cases b1
  · go_wp2_with fail
    go_ret
    exact ⟨rfl, hbz.out⟩
  cases b2
  · go_wp2_with fail
    go_ret
    exact ⟨rfl, hbz.out⟩
  by_cases hsz : s.size ≤ 100
  rotate_left
  · go_wp2_with fail
    go_ret
    exact ⟨rfl, hbz.out⟩
  have hul : u.path.length ≤ 50 := (HF1.out rfl).1
  have hvl : v.path.length ≤ 50 := (HF2.out rfl).1
  clear HF1 HF2 hbz
  have HUR := hid (HU.out.below HB.out)
  have HVR := hid (HV.out.below HB.out)
  obtain ⟨A, c, hA, hc⟩ := HU.out.len
  have hcp := (cell_path ((HX.out.block G (by rw [HZ.out]; omega)).trans H1.out))
  rw [hA] at hcp
  have hrp : ReadT w9 (.slice A u.path.length c) u.path := by rw [← hA]; exact HUR.out.below HX.out
  have HRP := hid hrp
  have HA := hid hA
  have hGl : G < w9.heap.size := by have := HX.out.size; rw [HZ.out] at this; omega
  have hcp := ((alloc_below w9 (.cells #[] 9)).cell (p := ⟨G, 18, none⟩) hGl).trans hcp
  have HGL := hid hGl
  clear hGl
  clear hrp hA
  go_wp2_with (at_builtin; refine wpList_append_texts rfl _ _ rfl rfl (OwnT.empty w9) rfl (ReadT.below HRP.out (alloc_below w9 _)) (by simp; omega) (by simp) ?_; intro v3 w3 ho hb03; have hb3 := (alloc_below w9 (.cells #[] 9)).trans hb03)
  have hr3 := ho.read
  rw [List.nil_append] at hr3
  have HR3 := hid hr3
  have HX3 := hid (HX.out.trans (hb3.mono HX.out.size))
  have h93 := hb3.size
  have hb39 := hid hb3
  clear ho hb03 hb3 hr3 hcp
  refine (shorten_calls s v3 u.path _ HR3.out (by omega)).mono ?_
  rintro e w4 ⟨pv, rfl, hop, hb4⟩
  have HX4 := hid (HX3.out.trans (hb4.mono HX3.out.size))
  have hcp : w4.cell? ⟨G, 18, none⟩ = some (.slice A u.path.length c) := by
    have := cell_path ((HX4.out.block G (by rw [HZ.out]; omega)).trans H1.out)
    rwa [HA.out] at this
  have HOP := hid hop
  have hb34 := hid hb4
  clear hop hb4
  go_wp2_with fail
  have hr4 : ReadT w4 (.slice A u.path.length c) u.path := by rw [← HA.out]; exact HUR.out.below HX4.out
  refine (refShorten_calls s _ u.path _ hr4 (by omega)).mono ?_
  rintro e w5 ⟨qv, rfl, hoq, hb5⟩
  go_wp2_with fail
  refine (refSame_calls pv qv _ _ _ (HOP.out.read.below hb5) hoq.read (Nat.le_trans take_short (by omega)) (Nat.le_trans take_short (by omega))).mono ?_
  rintro e w6 ⟨rfl, hb6⟩
  rw [show decide (shortT s u.path = shortT s u.path) = true by simp]
  have hb46 := hb5.trans (hb6.mono hb5.size)
  have HO6 := hid (HOP.out.below hb46)
  have hb36 := hid (hb34.out.trans (hb46.mono hb34.out.size))
  have hls : (shortT s u.path).length ≤ 50 := Nat.le_trans take_short hul
  have h36 := hb36.out.size
  clear hr4 hoq hb5 hb6 hb46 hcp
  go_wp2_with (at_builtin; refine wpList_append_texts rfl _ _ rfl rfl (HO6.out.below (alloc_below w6 _)) rfl (zz_one w6) (by simp; omega) (by simp; omega) ?_; intro v7 w7 ho7 hb67; have hb37 := hid (hb36.out.trans (((Below.refl w3.heap.size w6).alloc h36 _).trans hb67)))
  have hn7 : (shortT s u.path ++ [(⟨#[122, 122]⟩ : ByteArray)]).length ≤ 51 := by simp; omega
  have hp7 : 0 < (shortT s u.path ++ [(⟨#[122, 122]⟩ : ByteArray)]).length := by simp
  generalize shortT s u.path ++ [(⟨#[122, 122]⟩ : ByteArray)] = L at *
  obtain ⟨g7, c7, rfl, hg7⟩ := ho7.form hp7
  have HO7 := hid ho7
  clear ho7 hb67
  go_wp2_with fail
  go_loopw [13] (fun i wr => ∃ (k : Nat) (lp : List ByteArray), k ≤ L.length ∧ lp.length = L.length ∧ OwnT wr w3.heap.size (.slice (some ⟨g7, 0, none⟩) L.length c7) lp ∧ i = .int .i64 k ∧ Below w3.heap.size w3 wr) (fun i _ => L.length - (intOf i).toNat)
  case atStart => exact ⟨0, L, Nat.zero_le _, rfl, HO7.out, rfl, hb37.out⟩
  case round =>
    obtain ⟨k, lp, hk, hlp, hown, rfl, hbr⟩ := hrel
    have HLP := hid hlp
    clear hlp
    by_cases hlt : k < L.length
    · rw [← HLP.out] at hown
      have hce := World.ownsRow.cellAt hown k (by rw [Nat.mul_one, HLP.out]; exact hlt)
      have hfr := World.ownsRow.frozenAt hown k
      rw [List.getElem?_map, List.getElem?_eq_getElem (by rw [HLP.out]; exact hlt)] at hce
      simp only [Option.map_some] at hce
      have hst := hid (OwnT.stored (j := k) hown ⟨#[122, 122]⟩ (Below.refl _ _))
      have hbs := hid (hbr.setCell (p := ⟨g7, k, none⟩) hg7 (.string ⟨#[122, 122]⟩))
      have HOW := hid hown
      clear hown
      go_wp2_with fail
      go_roundw
      case rel => exact ⟨k + 1, lp.set k ⟨#[122, 122]⟩, by omega, by rw [List.length_set, HLP.out], by have := hst.out; rwa [HLP.out] at this, by go_num, hbs.out⟩
      case measure => simp [intOf]; omega
    · obtain rfl : k = L.length := by omega
      have HX8 := hid (HX3.out.trans (hbr.mono HX3.out.size))
      have h38 := hbr.size
      have HBR := hid hbr
      clear hown hbr
      go_wp2_with fail
      have F1 := hid ((HX8.out.block G (by rw [HZ.out]; omega)).trans H1.out)
      have F2 := hid ((HX8.out.block (G + 1) (by rw [HZ.out]; omega)).trans H2.out)
      have F3 := hid (show wr.cell? ⟨G, 18, none⟩ = some (.slice A u.path.length c) from (cell_path F1.out).trans (by rw [HA.out]))
      have R1 := hid (HUR.out.below HX8.out)
      have R2 := hid (HVR.out.below HX8.out)
      have R3 := hid (HR3.out.below HBR.out)
      have R4 := hid (show ReadT wr (.slice A u.path.length c) u.path by rw [← HA.out]; exact R1.out)
      have BW := hid (HB.out.trans (HX8.out.mono HB.out.size))
      have hGz : G < wr.heap.size := by have := HX8.out.size; rw [HZ.out] at this; omega
      have hGz' : G + 1 < wr.heap.size := by have := HX8.out.size; rw [HZ.out] at this; omega
      refine region_seq (fun W => Below wr.heap.size wr W) (by kernel_rfl) (by kernel_rfl) (Below.refl _ _).drew ?_
      simp only []
      apply SeqDet.stepK
      · rfl
      · intro W hW K hK; go_simp; exact hK _ hW
      simp only [Act.put, List.setIfInBounds_toArray, List.set_cons_zero, List.set_cons_succ]
      apply SeqDet.stepK
      · rfl
      · intro W hW K hK; go_simp; exact hK _ hW
      simp only [Act.put, List.setIfInBounds_toArray, List.set_cons_zero, List.set_cons_succ]
      apply SeqDet.stepK
      · rfl
      · intro W hW K hK; go_simp; exact hK _ hW
      simp only [Act.put, List.setIfInBounds_toArray, List.set_cons_zero, List.set_cons_succ]
      apply SeqDet.stepK
      · rfl
      · intro W hW K hK; go_simp; exact hK _ hW
      simp only [Act.put, List.setIfInBounds_toArray, List.set_cons_zero, List.set_cons_succ]
      apply SeqDet.stepK
      · rfl
      · intro W hW K hK; go_simp; exact hK _ hW
      simp only [Act.put, List.setIfInBounds_toArray, List.set_cons_zero, List.set_cons_succ]
      apply SeqDet.stepK
      · rfl
      · intro W hW K hK; go_simp; exact hK _ hW
      simp only [Act.put, List.setIfInBounds_toArray, List.set_cons_zero, List.set_cons_succ]
      apply SeqDet.stepK
      · rfl
      · intro W hW K hK; go_simp; exact hK _ hW
      simp only [Act.put, List.setIfInBounds_toArray, List.set_cons_zero, List.set_cons_succ]
      apply SeqDet.stepK
      · rfl
      · intro W hW K hK; have hc18 := (hW.cell (p := ⟨G, 18, none⟩) hGz).trans F3.out; go_simp; exact hK _ hW
      simp only [Act.put, List.setIfInBounds_toArray, List.set_cons_zero, List.set_cons_succ]
      apply SeqDet.stepK
      · rfl
      · intro W hW K hK; go_simp; go_at_call 37; refine (refSame_calls _ _ u.path u.path _ (R3.out.below hW) (R4.out.below hW) (by omega) (by omega)).mono ?_; rintro e w9 ⟨rfl, hb9⟩; rw [show decide (u.path = u.path) = true by simp]; exact hK _ (hW.trans (hb9.mono hW.size))
      simp only [Act.put, List.setIfInBounds_toArray, List.set_cons_zero, List.set_cons_succ]
      apply SeqDet.stepK
      · rfl
      · intro W hW K hK; go_simp; exact hK _ hW
      simp only [Act.put, List.setIfInBounds_toArray, List.set_cons_zero, List.set_cons_succ]
      apply SeqDet.stepK
      · rfl
      · intro W hW K hK; go_simp; exact hK _ hW
      simp only [Act.put, List.setIfInBounds_toArray, List.set_cons_zero, List.set_cons_succ]
      apply SeqDet.stepK
      · rfl
      · intro W hW K hK; refine oper_load_url _ rfl W _ u.cells rfl rfl ((hW.block _ hGz).trans F1.out) ?_; exact hK _ hW
      simp only [Act.put, List.setIfInBounds_toArray, List.set_cons_zero, List.set_cons_succ]
      apply SeqDet.stepK
      · rfl
      · intro W hW K hK; refine oper_load_url _ rfl W _ v.cells rfl rfl ((hW.block _ hGz').trans F2.out) ?_; exact hK _ hW
      simp only [Act.put, List.setIfInBounds_toArray, List.set_cons_zero, List.set_cons_succ]
      apply SeqDet.stepK
      · rfl
      · intro W hW K hK; go_simp; go_at_call 39; refine (same_calls u v _ (R1.out.below hW) (R2.out.below hW) (by omega) (by omega)).mono ?_; rintro e w9 ⟨rfl, hb9⟩; exact hK _ (hW.trans (hb9.mono hW.size))
      simp only [Act.put, List.setIfInBounds_toArray, List.set_cons_zero, List.set_cons_succ]
      apply SeqDet.stepK
      · rfl
      · intro W hW K hK; refine oper_load_url _ rfl W _ u.cells rfl rfl ((hW.block _ hGz).trans F1.out) ?_; exact hK _ hW
      simp only [Act.put, List.setIfInBounds_toArray, List.set_cons_zero, List.set_cons_succ]
      apply SeqDet.stepK
      · rfl
      · intro W hW K hK; refine oper_load_url _ rfl W _ v.cells rfl rfl ((hW.block _ hGz').trans F2.out) ?_; exact hK _ hW
      simp only [Act.put, List.setIfInBounds_toArray, List.set_cons_zero, List.set_cons_succ]
      apply SeqDet.stepK
      · rfl
      · intro W hW K hK; go_simp; go_at_call 40; refine (refUrlSame_calls u v _ (R1.out.below hW) (R2.out.below hW) (by omega) (by omega)).mono ?_; rintro e w9 ⟨rfl, hb9⟩; exact hK _ (hW.trans (hb9.mono hW.size))
      simp only [Act.put, List.setIfInBounds_toArray, List.set_cons_zero, List.set_cons_succ]
      apply SeqDet.stepK
      · rfl
      · intro W hW K hK; go_simp; exact hK _ hW
      simp only [Act.put, List.setIfInBounds_toArray, List.set_cons_zero, List.set_cons_succ]
      apply SeqDet.stepK
      · rfl
      · intro W hW K hK; go_simp; exact hK _ hW
      simp only [Act.put, List.setIfInBounds_toArray, List.set_cons_zero, List.set_cons_succ]
      apply SeqDet.stepK
      · rfl
      · intro W hW K hK; go_simp; exact hK _ hW
      simp only [Act.put, List.setIfInBounds_toArray, List.set_cons_zero, List.set_cons_succ]
      apply SeqDet.stepK
      · rfl
      · intro W hW K hK; refine oper_load_url _ rfl W _ u.cells rfl rfl ((hW.block _ hGz).trans F1.out) ?_; exact hK _ hW
      simp only [Act.put, List.setIfInBounds_toArray, List.set_cons_zero, List.set_cons_succ]
      apply SeqDet.stepK
      · rfl
      · intro W hW K hK; refine oper_load_url _ rfl W _ u.cells rfl rfl ((hW.block _ hGz).trans F1.out) ?_; exact hK _ hW
      simp only [Act.put, List.setIfInBounds_toArray, List.set_cons_zero, List.set_cons_succ]
      apply SeqDet.stepK
      · rfl
      · intro W hW K hK; go_simp; go_at_call 39; refine (same_calls u u _ (R1.out.below hW) (R1.out.below hW) (by omega) (by omega)).mono ?_; rintro e w9 ⟨rfl, hb9⟩; rw [Url.same_self]; exact hK _ (hW.trans (hb9.mono hW.size))
      simp only [Act.put, List.setIfInBounds_toArray, List.set_cons_zero, List.set_cons_succ]
      apply SeqDet.stepK
      · rfl
      · intro W hW K hK; go_simp; exact hK _ hW
      simp only [Act.put, List.setIfInBounds_toArray, List.set_cons_zero, List.set_cons_succ]
      apply SeqDet.stepK
      · rfl
      · intro W hW K hK; go_simp; exact hK _ hW
      simp only [Act.put, List.setIfInBounds_toArray, List.set_cons_zero, List.set_cons_succ]
      refine SeqDet.nil ?_
      intro wz hbz
      have hbe := BW.out.trans (hbz.mono BW.out.size)
      clear hbz
      go_wp2_with fail
      go_ret
      exact ⟨rfl, hbe⟩
end Go.Proofs.Ytmkgjleojfggcaa
