/-
  The walk of RecordSame. Conditions: the addresses are as they can be handed over.
-/
import Derived.Test.YtmkgjleojfggcaaRecSameL
import Derived.Test.YtmkgjleojfggcaaRecPaths
import Derived.Test.YtmkgjleojfggcaaSeqDet
set_option linter.all false
namespace Go.Proofs.Ytmkgjleojfggcaa
open Go.RowKit
theorem lt_heap {w : World} {g : Nat} {o : Obj} (h : w.heap[g]? = some o) : g < w.heap.size := (Array.getElem?_eq_some_iff.1 h).1
theorem same_is (u v : Url) (w : World) (hu : ReadT w u.pathV u.path) (hv : ReadT w v.pathV v.path) (hul : u.path.length ≤ 100000) (hvl : v.path.length ≤ 100000) (b : Bool) (hs : u.same v = b) :
    Calls Try.prog 39 #[.agg u.cells, .agg v.cells] w fun e w' => e = .returned (.bool b) ∧ Below w.heap.size w w' := by
  subst hs
  exact same_calls u v w hu hv hul hvl
theorem alloc3 (w : World) (o o' o'' : Obj) : Below w.heap.size w (((w.alloc o).alloc o').alloc o'') := (alloc2 w o o').alloc (by simp <;> omega) o''
theorem three_heap (w : World) (o1 o2 o3 : Obj) : (((w.alloc o1).alloc o2).alloc o3).heap[w.heap.size]? = some o1 ∧ (((w.alloc o1).alloc o2).alloc o3).heap[w.heap.size + 1]? = some o2 ∧ (((w.alloc o1).alloc o2).alloc o3).heap[w.heap.size + 1 + 1]? = some o3 ∧ (((w.alloc o1).alloc o2).alloc o3).heap.size = w.heap.size + 3 := by
  refine ⟨?_, ?_, ?_, by simp⟩
  · show (((w.heap.push _).push _).push _)[w.heap.size]? = _
    simp only [Array.getElem?_push, Array.size_push]
    rw [if_neg (by omega), if_neg (by omega), if_pos trivial]
  · show (((w.heap.push _).push _).push _)[w.heap.size + 1]? = _
    simp only [Array.getElem?_push, Array.size_push]
    rw [if_neg (by omega), if_pos trivial]
  · show (((w.heap.push _).push _).push _)[w.heap.size + 1 + 1]? = _
    simp only [Array.getElem?_push, Array.size_push]
    rw [if_pos trivial]
set_option maxHeartbeats 16000000 in
set_option maxRecDepth 100000 in
theorem recSame_calls (u v x : Url) (w : World) (hu : ReadT w u.pathV u.path) (hfu : u.Fits) (hv : ReadT w v.pathV v.path) (hfv : v.Fits) (hx : ReadT w x.pathV x.path) (hfx : x.Fits) :
    Calls Try.prog 7 #[u.val, v.val, x.val] w fun e w' => e = .returned (.bool true) ∧ Below w.heap.size w w' := by
  rw [Url.val_eq, Url.val_eq, Url.val_eq]
  have HFU := hid hfu
  have HFV := hid hfv
  have HFX := hid hfx
  have HU := hid hu
  have HV := hid hv
  have HW := hid hx
  clear hfu hfv hfx hu hv hx
  go_enter Try.func7, Try.ntmps7
  go_upto_region 0 with (fail)
  apply wp_region_lit
  refine wpList_box_url rfl _ rfl _ _ rfl ?_
  refine wpList_box_url rfl _ rfl _ _ rfl ?_
  refine wpList_box_url rfl _ rfl _ _ rfl ?_
  simp only [Act.put, List.setIfInBounds_toArray, List.set_cons_zero, List.set_cons_succ, World.size_alloc]
  have hb0 := alloc3 w (.cells u.cells 33) (.cells v.cells 33) (.cells x.cells 33)
  obtain ⟨hg1, hg2, hg3, hz⟩ := three_heap w (.cells u.cells 33) (.cells v.cells 33) (.cells x.cells 33)
  generalize ((w.alloc (.cells u.cells 33)).alloc (.cells v.cells 33)).alloc (.cells x.cells 33) = w0 at *
  have HB := hid hb0
  have HX := hid (Below.refl w0.heap.size w0)
  have H1 := hid hg1
  have H2 := hid hg2
  have H3 := hid hg3
  have HZ := hid hz
  clear hb0 hg1 hg2 hg3 hz
  generalize hG : w.heap.size = G at H1 H2 H3 HZ ⊢
  have HG := hid hG
  clear hG
  (refine wpList_yes rfl ?_; intro K hK; go_simp; refine hK _ _ ?_; clear hK K)
  apply wpList_nil
  go_wp2_with fail
  refine (recSmall_calls _).mono ?_
  rintro e w1 ⟨rfl, hb9⟩
  replace HX := hid (HX.out.trans (hb9.mono HX.out.size))
  clear hb9
  go_upto_region 2 with (fail)
  apply wp_region_lit
  refine wpList_load_urlG rfl _ rfl _ _ _ rfl rfl ((HX.out.block _ (by rw [HZ.out]; omega)).trans H1.out) ?_
  simp only [Act.put, List.setIfInBounds_toArray, List.set_cons_zero, List.set_cons_succ]
  refine wpList_yes rfl ?_; intro K hK; go_simp; go_at_call 35
  refine (few_calls u _ (HU.out.below (HB.out.trans (HX.out.mono HB.out.size))) HFU.out).mono ?_
  rintro e w9 ⟨b2, rfl, hf2, hb9⟩
  refine hK _ _ ?_
  clear hK K
  have HF2 := hid hf2
  replace HX := hid (HX.out.trans (hb9.mono HX.out.size))
  clear hb9 hf2
  (refine wpList_yes rfl ?_; intro K hK; go_simp; refine hK _ _ ?_; clear hK K)
  apply wpList_nil
  go_upto_region 3 with (fail)
  apply wp_region_lit
  refine wpList_load_urlG rfl _ rfl _ _ _ rfl rfl ((HX.out.block _ (by rw [HZ.out]; omega)).trans H2.out) ?_
  simp only [Act.put, List.setIfInBounds_toArray, List.set_cons_zero, List.set_cons_succ]
  refine wpList_yes rfl ?_; intro K hK; go_simp; go_at_call 35
  refine (few_calls v _ (HV.out.below (HB.out.trans (HX.out.mono HB.out.size))) HFV.out).mono ?_
  rintro e w9 ⟨b3, rfl, hf3, hb9⟩
  refine hK _ _ ?_
  clear hK K
  have HF3 := hid hf3
  replace HX := hid (HX.out.trans (hb9.mono HX.out.size))
  clear hb9 hf3
  (refine wpList_yes rfl ?_; intro K hK; go_simp; refine hK _ _ ?_; clear hK K)
  apply wpList_nil
  go_upto_region 4 with (fail)
  apply wp_region_lit
  refine wpList_load_urlG rfl _ rfl _ _ _ rfl rfl ((HX.out.block _ (by rw [HZ.out]; omega)).trans H3.out) ?_
  simp only [Act.put, List.setIfInBounds_toArray, List.set_cons_zero, List.set_cons_succ]
  refine wpList_yes rfl ?_; intro K hK; go_simp; go_at_call 35
  refine (few_calls x _ (HW.out.below (HB.out.trans (HX.out.mono HB.out.size))) HFX.out).mono ?_
  rintro e w9 ⟨b4, rfl, hf4, hb9⟩
  refine hK _ _ ?_
  clear hK K
  have HF4 := hid hf4
  replace HX := hid (HX.out.trans (hb9.mono HX.out.size))
  clear hb9 hf4
  (refine wpList_yes rfl ?_; intro K hK; go_simp; refine hK _ _ ?_; clear hK K)
  apply wpList_nil
  have hbz := hid (HB.out.trans (HX.out.mono HB.out.size))
  cases b2
  · go_wp2_with fail
    go_ret
    exact ⟨rfl, hbz.out⟩
  cases b3
  · go_wp2_with fail
    go_ret
    exact ⟨rfl, hbz.out⟩
  cases b4
  · go_wp2_with fail
    go_ret
    exact ⟨rfl, hbz.out⟩
  have hul : u.path.length ≤ 50 := (HF2.out rfl).1
  have hvl : v.path.length ≤ 50 := (HF3.out rfl).1
  have hxl : x.path.length ≤ 50 := (HF4.out rfl).1
  have hfr : u.frag.size ≤ 1000 := (HF2.out rfl).2
  clear HF2 HF3 HF4 hbz
  have HUR := hid (HU.out.below HB.out)
  have HVR := hid (HV.out.below HB.out)
  have HWR := hid (HW.out.below HB.out)
  go_upto_region 7 with (fail)
  apply wp_region_lit
  refine wpList_load_urlG rfl _ rfl _ _ _ rfl rfl ((HX.out.block _ (by rw [HZ.out]; omega)).trans H1.out) ?_
  simp only [Act.put, List.setIfInBounds_toArray, List.set_cons_zero, List.set_cons_succ]
  refine wpList_alloc_url rfl rfl _ ?_
  refine wpList_store_new rfl _ _ _ rfl _ _ _ _ rfl ?_ rfl ?_ ?_ ?_ ?_
  · simp
  · kernel_rfl
  · rfl
  · exact Url.cells_one HU.out
  simp only [Act.put, List.setIfInBounds_toArray, List.set_cons_zero, List.set_cons_succ, World.size_alloc]
  apply wpList_nil
  have h_wa : (w9.alloc (.cells u.cells 33)).heap[w9.heap.size]? = some (.cells u.cells 33) := by
    show (w9.heap.push _)[w9.heap.size]? = _
    simp
  have hb_wa := alloc_below w9 (.cells u.cells 33)
  obtain ⟨gx, h_gx⟩ : ∃ g, g = w9.heap.size := ⟨_, rfl⟩
  rw [← h_gx] at h_wa ⊢
  generalize w9.alloc (.cells u.cells 33) = wa at *
  have H_wa := hid h_wa
  have HB_wa := hid hb_wa
  have HG_gx := hid h_gx
  clear h_wa hb_wa h_gx
  have hX_wa : Below w0.heap.size w0 wa := HX.out.trans (HB_wa.out.mono HX.out.size)
  have c1 := cell_url ((hX_wa.block G (by rw [HZ.out]; omega)).trans H1.out) 22 (.string u.frag) rfl
  have c2 := cell_url H_wa.out 22 (.string u.frag) rfl
  have c3 := frozen_row (j := 22) H_wa.out
  have HX_wa := hid hX_wa
  clear hX_wa
  go_upto_region 9 with (fail)
  clear c1 c2 c3
  obtain ⟨q1, q2⟩ := set_url (j := 22) (v := .string (u.frag ++ ⟨#[97]⟩)) HB_wa.out (Nat.le_of_eq HG_gx.out.symm) H_wa.out
  have H_wx := hid (show (wa.setCell ⟨gx, 22, none⟩ (.string (u.frag ++ ⟨#[97]⟩))).heap[gx]? = some (.cells (u.withFrag (u.frag ++ ⟨#[97]⟩)).cells 33) from q2)
  have hl_wx := lt_heap q2
  generalize wa.setCell ⟨gx, 22, none⟩ (.string (u.frag ++ ⟨#[97]⟩)) = wx at *
  have HB_wx := hid q1
  have HL_wx := hid hl_wx
  clear q1 q2 hl_wx
  have HX_wx := hid (HX.out.trans (HB_wx.out.mono HX.out.size))
  go_upto_region 9 with (fail)
  apply wp_region_lit
  refine wpList_load_urlG rfl _ rfl _ _ _ rfl rfl ((HX_wx.out.block _ (by rw [HZ.out]; omega)).trans H1.out) ?_
  simp only [Act.put, List.setIfInBounds_toArray, List.set_cons_zero, List.set_cons_succ]
  refine wpList_alloc_url rfl rfl _ ?_
  refine wpList_store_new rfl _ _ _ rfl _ _ _ _ rfl ?_ rfl ?_ ?_ ?_ ?_
  · simp
  · kernel_rfl
  · rfl
  · exact Url.cells_one HU.out
  simp only [Act.put, List.setIfInBounds_toArray, List.set_cons_zero, List.set_cons_succ, World.size_alloc]
  apply wpList_nil
  have h_wb : (wx.alloc (.cells u.cells 33)).heap[wx.heap.size]? = some (.cells u.cells 33) := by
    show (wx.heap.push _)[wx.heap.size]? = _
    simp
  have hb_wb := alloc_below wx (.cells u.cells 33)
  obtain ⟨gy, h_gy⟩ : ∃ g, g = wx.heap.size := ⟨_, rfl⟩
  rw [← h_gy] at h_wb ⊢
  generalize wx.alloc (.cells u.cells 33) = wb at *
  have H_wb := hid h_wb
  have HB_wb := hid hb_wb
  have HG_gy := hid h_gy
  clear h_wb hb_wb h_gy
  have hX_wb : Below w0.heap.size w0 wb := HX_wx.out.trans (HB_wb.out.mono HX_wx.out.size)
  obtain ⟨A, c, hA, hc⟩ := HU.out.len
  have hrb : ReadT wb (.slice A u.path.length c) u.path := by rw [← hA]; exact HUR.out.below hX_wb
  have HRB := hid hrb
  have hgl : G < wb.heap.size := by have := hX_wb.size; rw [HZ.out] at this; omega
  have hcp := ((alloc_below wb (.cells #[] 9)).cell (p := ⟨G, 18, none⟩) hgl).trans (cell_path ((hX_wb.block G (by rw [HZ.out]; omega)).trans H1.out))
  rw [hA] at hcp
  have hcy := cell_path H_wb.out
  rw [hA] at hcy
  have hfy := frozen_row (j := 18) H_wb.out
  have hly := lt_heap H_wb.out
  have HCY := hid hcy
  have HFY := hid hfy
  have HLY := hid hly
  have HXB := hid hX_wb
  have HA := hid hA
  clear hrb hgl hcy hfy hly hX_wb hA
  go_upto_region 11 with (first
    | (at_builtin; refine wpList_append_texts rfl _ _ rfl rfl (OwnT.empty wb) rfl (ReadT.below HRB.out (alloc_below wb _)) (by simp <;> omega) (by simp) ?_; intro v3 w3 ho3 hb3; have hb3 := (alloc_below wb (.cells #[] 9)).trans hb3; have hz3 := hb3.size)
    | (at_builtin; refine wpList_append_texts rfl _ _ rfl rfl (ho3.below (alloc_below w3 _)) rfl (ReadT.one w3 ⟨#[]⟩) (by simp <;> omega) (by simp <;> omega) ?_; intro v4 w4 ho4 hb4; have hb4 := hb3.trans (((Below.refl wb.heap.size w3).alloc hz3 _).trans hb4); rw [List.nil_append] at ho4; obtain ⟨P, hP⟩ : ∃ P, P = u.path ++ [(⟨#[]⟩ : ByteArray)] := ⟨_, rfl⟩; rw [← hP] at ho4; have HP := hid hP; have hPl : 0 < P.length := (by rw [hP]; simp); clear hP; obtain ⟨g7, c7, rfl, hg7⟩ := ho4.form hPl; have hcy := (hb4.cell (p := ⟨gy, 18, none⟩) HLY.out).trans HCY.out; have hfy := (hb4.frozen (p := ⟨gy, 18, none⟩) HLY.out).trans HFY.out)
    | fail)
  clear hcy hfy hcp
  have hread : ReadT (w4.setCell ⟨gy, 18, none⟩ (.slice (some ⟨g7, 0, none⟩) P.length c7)) (.slice (some ⟨g7, 0, none⟩) P.length c7) P := (ho4.setOther HLY.out _).read
  obtain ⟨q1, q2⟩ := set_url (j := 18) (v := .slice (some ⟨g7, 0, none⟩) P.length c7) (HB_wb.out.trans (hb4.mono HB_wb.out.size)) (Nat.le_of_eq HG_gy.out.symm) ((hb4.block gy HLY.out).trans H_wb.out)
  have H_wy := hid (show (w4.setCell ⟨gy, 18, none⟩ (.slice (some ⟨g7, 0, none⟩) P.length c7)).heap[gy]? = some (.cells (u.withPath (.slice (some ⟨g7, 0, none⟩) P.length c7) P).cells 33) from q2)
  have hl_wy := lt_heap q2
  have HPL := hid (show P.length ≤ 51 by rw [HP.out]; simp; omega)
  clear hPl hb3 hb4 ho3 ho4 hz3
  generalize w4.setCell ⟨gy, 18, none⟩ (.slice (some ⟨g7, 0, none⟩) P.length c7) = wy at *
  have HRY := hid hread
  have HB_wy := hid q1
  have HL_wy := hid hl_wy
  clear q1 q2 hl_wy hread
  have HX_wy := hid (HX_wx.out.trans (HB_wy.out.mono HX_wx.out.size))
  go_upto_region 11 with (fail)
  apply wp_region_lit
  refine wpList_load_urlG rfl _ rfl _ _ _ rfl rfl ((HX_wy.out.block _ (by rw [HZ.out]; omega)).trans H1.out) ?_
  simp only [Act.put, List.setIfInBounds_toArray, List.set_cons_zero, List.set_cons_succ]
  refine wpList_alloc_url rfl rfl _ ?_
  refine wpList_store_new rfl _ _ _ rfl _ _ _ _ rfl ?_ rfl ?_ ?_ ?_ ?_
  · simp
  · kernel_rfl
  · rfl
  · exact Url.cells_one HU.out
  simp only [Act.put, List.setIfInBounds_toArray, List.set_cons_zero, List.set_cons_succ, World.size_alloc]
  apply wpList_nil
  have h_wc : (wy.alloc (.cells u.cells 33)).heap[wy.heap.size]? = some (.cells u.cells 33) := by
    show (wy.heap.push _)[wy.heap.size]? = _
    simp
  have hb_wc := alloc_below wy (.cells u.cells 33)
  obtain ⟨gz, h_gz⟩ : ∃ g, g = wy.heap.size := ⟨_, rfl⟩
  rw [← h_gz] at h_wc ⊢
  generalize wy.alloc (.cells u.cells 33) = wc at *
  have H_wc := hid h_wc
  have HB_wc := hid hb_wc
  have HG_gz := hid h_gz
  clear h_wc hb_wc h_gz
  have hX_wc : Below w0.heap.size w0 wc := HX_wy.out.trans (HB_wc.out.mono HX_wy.out.size)
  have c1 := cell_url ((hX_wc.block G (by rw [HZ.out]; omega)).trans H1.out) 19 (.bool u.hasQuery) rfl
  have c2 := cell_url H_wc.out 19 (.bool u.hasQuery) rfl
  have c3 := frozen_row (j := 19) H_wc.out
  have HX_wc := hid hX_wc
  clear hX_wc
  go_upto_region 13 with (fail)
  clear c1 c2 c3
  obtain ⟨q1, q2⟩ := set_url (j := 19) (v := .bool (!u.hasQuery)) HB_wc.out (Nat.le_of_eq HG_gz.out.symm) H_wc.out
  have H_wz := hid (show (wc.setCell ⟨gz, 19, none⟩ (.bool (!u.hasQuery))).heap[gz]? = some (.cells (u.withQuery (!u.hasQuery)).cells 33) from q2)
  have hl_wz := lt_heap q2
  generalize wc.setCell ⟨gz, 19, none⟩ (.bool (!u.hasQuery)) = wz at *
  have HB_wz := hid q1
  have HL_wz := hid hl_wz
  clear q1 q2 hl_wz
  have HX_wz := hid (HX_wy.out.trans (HB_wz.out.mono HX_wy.out.size))
  go_upto_region 13 with (fail)
  apply wp_region_lit
  refine wpList_load_urlG rfl _ rfl _ _ _ rfl rfl ((HX_wz.out.block _ (by rw [HZ.out]; omega)).trans H1.out) ?_
  simp only [Act.put, List.setIfInBounds_toArray, List.set_cons_zero, List.set_cons_succ]
  refine wpList_alloc_url rfl rfl _ ?_
  refine wpList_store_new rfl _ _ _ rfl _ _ _ _ rfl ?_ rfl ?_ ?_ ?_ ?_
  · simp
  · kernel_rfl
  · rfl
  · exact Url.cells_one HU.out
  simp only [Act.put, List.setIfInBounds_toArray, List.set_cons_zero, List.set_cons_succ, World.size_alloc]
  apply wpList_nil
  have h_wd : (wz.alloc (.cells u.cells 33)).heap[wz.heap.size]? = some (.cells u.cells 33) := by
    show (wz.heap.push _)[wz.heap.size]? = _
    simp
  have hb_wd := alloc_below wz (.cells u.cells 33)
  obtain ⟨gt, h_gt⟩ : ∃ g, g = wz.heap.size := ⟨_, rfl⟩
  rw [← h_gt] at h_wd ⊢
  generalize wz.alloc (.cells u.cells 33) = wd at *
  have H_wd := hid h_wd
  have HB_wd := hid hb_wd
  have HG_gt := hid h_gt
  clear h_wd hb_wd h_gt
  have hX_wd : Below w0.heap.size w0 wd := HX_wz.out.trans (HB_wd.out.mono HX_wz.out.size)
  have c1 := cell_url ((hX_wd.block G (by rw [HZ.out]; omega)).trans H1.out) 9 (.int .u16 u.x3) rfl
  have c2 := cell_url H_wd.out 9 (.int .u16 u.x3) rfl
  have c3 := frozen_row (j := 9) H_wd.out
  have HX_wd := hid hX_wd
  clear hX_wd
  go_upto_region 15 with (fail)
  clear c1 c2 c3
  obtain ⟨q1, q2⟩ := set_url (j := 9) (v := .int .u16 (bits .xor .u16 u.x3 1)) HB_wd.out (Nat.le_of_eq HG_gt.out.symm) H_wd.out
  have H_wt := hid (show (wd.setCell ⟨gt, 9, none⟩ (.int .u16 (bits .xor .u16 u.x3 1))).heap[gt]? = some (.cells (u.withSix (bits .xor .u16 u.x3 1)).cells 33) from q2)
  have hl_wt := lt_heap q2
  generalize wd.setCell ⟨gt, 9, none⟩ (.int .u16 (bits .xor .u16 u.x3 1)) = wt at *
  have HB_wt := hid q1
  have HL_wt := hid hl_wt
  clear q1 q2 hl_wt
  have HX_wt := hid (HX_wz.out.trans (HB_wt.out.mono HX_wz.out.size))
  have hyt := HB_wz.out.trans (HB_wt.out.mono HB_wz.out.size)
  have hxt := HB_wy.out.trans (hyt.mono HB_wy.out.size)
  have F3 := hid ((HX_wt.out.block G (by rw [HZ.out]; omega)).trans H1.out)
  have F4 := hid ((HX_wt.out.block (G + 1) (by rw [HZ.out]; omega)).trans H2.out)
  have F5 := hid ((HX_wt.out.block (G + 1 + 1) (by rw [HZ.out]; omega)).trans H3.out)
  have F11 := hid ((hxt.block gx HL_wx.out).trans H_wx.out)
  have F12 := hid ((hyt.block gy HL_wy.out).trans H_wy.out)
  have F13 := hid ((HB_wt.out.block gz HL_wz.out).trans H_wz.out)
  have F14 := hid H_wt.out
  have RU := hid (HUR.out.below HX_wt.out)
  have RV := hid (HVR.out.below HX_wt.out)
  have RX := hid (HWR.out.below HX_wt.out)
  have RY := hid (HRY.out.below hyt)
  have BW := hid (HB.out.trans (HX_wt.out.mono HB.out.size))
  clear hxt hyt
  obtain ⟨ux, hux⟩ : ∃ y, y = u.withFrag (u.frag ++ ⟨#[97]⟩) := ⟨_, rfl⟩
  have SX := hid (show u.same ux = false by rw [hux]; exact same_frag u)
  have RUX := hid (show ReadT wt ux.pathV ux.path by rw [hux]; exact RU.out)
  have lux : ux.path.length ≤ 100000 := by rw [hux]; show u.path.length ≤ _; omega
  rw [← hux] at F11
  clear hux
  obtain ⟨uy, huy⟩ : ∃ y, y = u.withPath (.slice (some ⟨g7, 0, none⟩) P.length c7) P := ⟨_, rfl⟩
  have SY := hid (show u.same uy = false by rw [huy, HP.out]; exact same_path u _ _)
  have RUY := hid (show ReadT wt uy.pathV uy.path by rw [huy]; exact RY.out)
  have luy : uy.path.length ≤ 100000 := by rw [huy]; show P.length ≤ _; have := HPL.out; omega
  rw [← huy] at F12
  clear huy
  obtain ⟨uz, huz⟩ : ∃ y, y = u.withQuery (!u.hasQuery) := ⟨_, rfl⟩
  have SZ := hid (show u.same uz = false by rw [huz]; exact same_query u)
  have RUZ := hid (show ReadT wt uz.pathV uz.path by rw [huz]; exact RU.out)
  have luz : uz.path.length ≤ 100000 := by rw [huz]; show u.path.length ≤ _; omega
  rw [← huz] at F13
  clear huz
  obtain ⟨ut, hut⟩ : ∃ y, y = u.withSix (bits .xor .u16 u.x3 1) := ⟨_, rfl⟩
  have ST := hid (show u.same ut = false by rw [hut]; exact same_six u)
  have RUT := hid (show ReadT wt ut.pathV ut.path by rw [hut]; exact RU.out)
  have lut : ut.path.length ≤ 100000 := by rw [hut]; show u.path.length ≤ _; omega
  rw [← hut] at F14
  clear hut
  cases e1 : u.same v
  · have E1 := hid e1
    have E2 := hid (show v.same u = false by rw [Url.same_comm]; exact e1)
    clear e1
    refine region_seq (fun W => Below wt.heap.size wt W) (by kernel_rfl) (by kernel_rfl) (Below.refl _ _).drew ?_
    simp only []
    apply SeqDet.stepK
    · rfl
    · intro W hW K hK; go_simp; exact hK _ hW
    simp only [Act.put, List.setIfInBounds_toArray, List.set_cons_zero, List.set_cons_succ]
    apply SeqDet.stepK
    · rfl
    · intro W hW K hK; go_simp; exact hK _ hW
    simp only [Act.put, List.setIfInBounds_toArray, List.set_cons_zero, List.set_cons_succ]
    apply SeqDet.stepK
    · rfl
    · intro W hW K hK; refine oper_load_url _ rfl W _ u.cells rfl rfl ((hW.block _ (lt_heap F3.out)).trans F3.out) ?_; exact hK _ hW
    simp only [Act.put, List.setIfInBounds_toArray, List.set_cons_zero, List.set_cons_succ]
    apply SeqDet.stepK
    · rfl
    · intro W hW K hK; refine oper_load_url _ rfl W _ v.cells rfl rfl ((hW.block _ (lt_heap F4.out)).trans F4.out) ?_; exact hK _ hW
    simp only [Act.put, List.setIfInBounds_toArray, List.set_cons_zero, List.set_cons_succ]
    apply SeqDet.stepK
    · rfl
    · intro W hW K hK; go_simp; go_at_call 39; refine (same_is u v W (RU.out.below hW) (RV.out.below hW) (by omega) (by omega) _ E1.out).mono ?_; rintro e w9 ⟨rfl, hb9⟩; exact hK _ (hW.trans (hb9.mono hW.size))
    simp only [Act.put, List.setIfInBounds_toArray, List.set_cons_zero, List.set_cons_succ]
    apply SeqDet.stepK
    · rfl
    · intro W hW K hK; refine oper_load_url _ rfl W _ v.cells rfl rfl ((hW.block _ (lt_heap F4.out)).trans F4.out) ?_; exact hK _ hW
    simp only [Act.put, List.setIfInBounds_toArray, List.set_cons_zero, List.set_cons_succ]
    apply SeqDet.stepK
    · rfl
    · intro W hW K hK; refine oper_load_url _ rfl W _ u.cells rfl rfl ((hW.block _ (lt_heap F3.out)).trans F3.out) ?_; exact hK _ hW
    simp only [Act.put, List.setIfInBounds_toArray, List.set_cons_zero, List.set_cons_succ]
    apply SeqDet.stepK
    · rfl
    · intro W hW K hK; go_simp; go_at_call 39; refine (same_is v u W (RV.out.below hW) (RU.out.below hW) (by omega) (by omega) _ E2.out).mono ?_; rintro e w9 ⟨rfl, hb9⟩; exact hK _ (hW.trans (hb9.mono hW.size))
    simp only [Act.put, List.setIfInBounds_toArray, List.set_cons_zero, List.set_cons_succ]
    apply SeqDet.stepK
    · rfl
    · intro W hW K hK; go_simp; exact hK _ hW
    simp only [Act.put, List.setIfInBounds_toArray, List.set_cons_zero, List.set_cons_succ]
    apply SeqDet.stepK
    · rfl
    · intro W hW K hK; go_simp; exact hK _ hW
    simp only [Act.put, List.setIfInBounds_toArray, List.set_cons_zero, List.set_cons_succ]
    apply SeqDet.stepK
    · rfl
    · intro W hW K hK; go_simp; exact hK _ hW
    simp only [Act.put, List.setIfInBounds_toArray, List.set_cons_zero, List.set_cons_succ]
    apply SeqDet.stepK
    · rfl
    · intro W hW K hK; refine oper_load_url _ rfl W _ u.cells rfl rfl ((hW.block _ (lt_heap F3.out)).trans F3.out) ?_; exact hK _ hW
    simp only [Act.put, List.setIfInBounds_toArray, List.set_cons_zero, List.set_cons_succ]
    apply SeqDet.stepK
    · rfl
    · intro W hW K hK; refine oper_load_url _ rfl W _ v.cells rfl rfl ((hW.block _ (lt_heap F4.out)).trans F4.out) ?_; exact hK _ hW
    simp only [Act.put, List.setIfInBounds_toArray, List.set_cons_zero, List.set_cons_succ]
    apply SeqDet.stepK
    · rfl
    · intro W hW K hK; go_simp; go_at_call 39; refine (same_is u v W (RU.out.below hW) (RV.out.below hW) (by omega) (by omega) _ E1.out).mono ?_; rintro e w9 ⟨rfl, hb9⟩; exact hK _ (hW.trans (hb9.mono hW.size))
    simp only [Act.put, List.setIfInBounds_toArray, List.set_cons_zero, List.set_cons_succ]
    apply SeqDet.stepK
    · rfl
    · intro W hW K hK; go_simp; exact hK _ hW
    simp only [Act.put, List.setIfInBounds_toArray, List.set_cons_zero, List.set_cons_succ]
    apply SeqDet.stepK
    · rfl
    · intro W hW K hK; go_simp; exact hK _ hW
    simp only [Act.put, List.setIfInBounds_toArray, List.set_cons_zero, List.set_cons_succ]
    apply SeqDet.skip
    · rfl
    simp only [Act.put, List.setIfInBounds_toArray, List.set_cons_zero, List.set_cons_succ]
    apply SeqDet.skip
    · rfl
    simp only [Act.put, List.setIfInBounds_toArray, List.set_cons_zero, List.set_cons_succ]
    apply SeqDet.skip
    · rfl
    simp only [Act.put, List.setIfInBounds_toArray, List.set_cons_zero, List.set_cons_succ]
    apply SeqDet.skip
    · rfl
    simp only [Act.put, List.setIfInBounds_toArray, List.set_cons_zero, List.set_cons_succ]
    apply SeqDet.stepK
    · rfl
    · intro W hW K hK; go_simp; exact hK _ hW
    simp only [Act.put, List.setIfInBounds_toArray, List.set_cons_zero, List.set_cons_succ]
    apply SeqDet.stepK
    · rfl
    · intro W hW K hK; go_simp; exact hK _ hW
    simp only [Act.put, List.setIfInBounds_toArray, List.set_cons_zero, List.set_cons_succ]
    apply SeqDet.skip
    · rfl
    simp only [Act.put, List.setIfInBounds_toArray, List.set_cons_zero, List.set_cons_succ]
    apply SeqDet.skip
    · rfl
    simp only [Act.put, List.setIfInBounds_toArray, List.set_cons_zero, List.set_cons_succ]
    apply SeqDet.skip
    · rfl
    simp only [Act.put, List.setIfInBounds_toArray, List.set_cons_zero, List.set_cons_succ]
    apply SeqDet.stepK
    · rfl
    · intro W hW K hK; go_simp; exact hK _ hW
    simp only [Act.put, List.setIfInBounds_toArray, List.set_cons_zero, List.set_cons_succ]
    apply SeqDet.stepK
    · rfl
    · intro W hW K hK; go_simp; exact hK _ hW
    simp only [Act.put, List.setIfInBounds_toArray, List.set_cons_zero, List.set_cons_succ]
    apply SeqDet.stepK
    · rfl
    · intro W hW K hK; go_simp; exact hK _ hW
    simp only [Act.put, List.setIfInBounds_toArray, List.set_cons_zero, List.set_cons_succ]
    apply SeqDet.stepK
    · rfl
    · intro W hW K hK; refine oper_load_url _ rfl W _ u.cells rfl rfl ((hW.block _ (lt_heap F3.out)).trans F3.out) ?_; exact hK _ hW
    simp only [Act.put, List.setIfInBounds_toArray, List.set_cons_zero, List.set_cons_succ]
    apply SeqDet.stepK
    · rfl
    · intro W hW K hK; refine oper_load_url _ rfl W _ ux.cells rfl rfl ((hW.block _ (lt_heap F11.out)).trans F11.out) ?_; exact hK _ hW
    simp only [Act.put, List.setIfInBounds_toArray, List.set_cons_zero, List.set_cons_succ]
    apply SeqDet.stepK
    · rfl
    · intro W hW K hK; go_simp; go_at_call 39; refine (same_is u ux W (RU.out.below hW) (RUX.out.below hW) (by omega) (by omega) _ SX.out).mono ?_; rintro e w9 ⟨rfl, hb9⟩; exact hK _ (hW.trans (hb9.mono hW.size))
    simp only [Act.put, List.setIfInBounds_toArray, List.set_cons_zero, List.set_cons_succ]
    apply SeqDet.stepK
    · rfl
    · intro W hW K hK; go_simp; exact hK _ hW
    simp only [Act.put, List.setIfInBounds_toArray, List.set_cons_zero, List.set_cons_succ]
    apply SeqDet.stepK
    · rfl
    · intro W hW K hK; go_simp; exact hK _ hW
    simp only [Act.put, List.setIfInBounds_toArray, List.set_cons_zero, List.set_cons_succ]
    apply SeqDet.stepK
    · rfl
    · intro W hW K hK; go_simp; exact hK _ hW
    simp only [Act.put, List.setIfInBounds_toArray, List.set_cons_zero, List.set_cons_succ]
    apply SeqDet.stepK
    · rfl
    · intro W hW K hK; refine oper_load_url _ rfl W _ u.cells rfl rfl ((hW.block _ (lt_heap F3.out)).trans F3.out) ?_; exact hK _ hW
    simp only [Act.put, List.setIfInBounds_toArray, List.set_cons_zero, List.set_cons_succ]
    apply SeqDet.stepK
    · rfl
    · intro W hW K hK; refine oper_load_url _ rfl W _ uy.cells rfl rfl ((hW.block _ (lt_heap F12.out)).trans F12.out) ?_; exact hK _ hW
    simp only [Act.put, List.setIfInBounds_toArray, List.set_cons_zero, List.set_cons_succ]
    apply SeqDet.stepK
    · rfl
    · intro W hW K hK; go_simp; go_at_call 39; refine (same_is u uy W (RU.out.below hW) (RUY.out.below hW) (by omega) (by omega) _ SY.out).mono ?_; rintro e w9 ⟨rfl, hb9⟩; exact hK _ (hW.trans (hb9.mono hW.size))
    simp only [Act.put, List.setIfInBounds_toArray, List.set_cons_zero, List.set_cons_succ]
    apply SeqDet.stepK
    · rfl
    · intro W hW K hK; go_simp; exact hK _ hW
    simp only [Act.put, List.setIfInBounds_toArray, List.set_cons_zero, List.set_cons_succ]
    apply SeqDet.stepK
    · rfl
    · intro W hW K hK; go_simp; exact hK _ hW
    simp only [Act.put, List.setIfInBounds_toArray, List.set_cons_zero, List.set_cons_succ]
    apply SeqDet.stepK
    · rfl
    · intro W hW K hK; go_simp; exact hK _ hW
    simp only [Act.put, List.setIfInBounds_toArray, List.set_cons_zero, List.set_cons_succ]
    apply SeqDet.stepK
    · rfl
    · intro W hW K hK; refine oper_load_url _ rfl W _ u.cells rfl rfl ((hW.block _ (lt_heap F3.out)).trans F3.out) ?_; exact hK _ hW
    simp only [Act.put, List.setIfInBounds_toArray, List.set_cons_zero, List.set_cons_succ]
    apply SeqDet.stepK
    · rfl
    · intro W hW K hK; refine oper_load_url _ rfl W _ uz.cells rfl rfl ((hW.block _ (lt_heap F13.out)).trans F13.out) ?_; exact hK _ hW
    simp only [Act.put, List.setIfInBounds_toArray, List.set_cons_zero, List.set_cons_succ]
    apply SeqDet.stepK
    · rfl
    · intro W hW K hK; go_simp; go_at_call 39; refine (same_is u uz W (RU.out.below hW) (RUZ.out.below hW) (by omega) (by omega) _ SZ.out).mono ?_; rintro e w9 ⟨rfl, hb9⟩; exact hK _ (hW.trans (hb9.mono hW.size))
    simp only [Act.put, List.setIfInBounds_toArray, List.set_cons_zero, List.set_cons_succ]
    apply SeqDet.stepK
    · rfl
    · intro W hW K hK; go_simp; exact hK _ hW
    simp only [Act.put, List.setIfInBounds_toArray, List.set_cons_zero, List.set_cons_succ]
    apply SeqDet.stepK
    · rfl
    · intro W hW K hK; go_simp; exact hK _ hW
    simp only [Act.put, List.setIfInBounds_toArray, List.set_cons_zero, List.set_cons_succ]
    apply SeqDet.stepK
    · rfl
    · intro W hW K hK; go_simp; exact hK _ hW
    simp only [Act.put, List.setIfInBounds_toArray, List.set_cons_zero, List.set_cons_succ]
    apply SeqDet.stepK
    · rfl
    · intro W hW K hK; refine oper_load_url _ rfl W _ u.cells rfl rfl ((hW.block _ (lt_heap F3.out)).trans F3.out) ?_; exact hK _ hW
    simp only [Act.put, List.setIfInBounds_toArray, List.set_cons_zero, List.set_cons_succ]
    apply SeqDet.stepK
    · rfl
    · intro W hW K hK; refine oper_load_url _ rfl W _ ut.cells rfl rfl ((hW.block _ (lt_heap F14.out)).trans F14.out) ?_; exact hK _ hW
    simp only [Act.put, List.setIfInBounds_toArray, List.set_cons_zero, List.set_cons_succ]
    apply SeqDet.stepK
    · rfl
    · intro W hW K hK; go_simp; go_at_call 39; refine (same_is u ut W (RU.out.below hW) (RUT.out.below hW) (by omega) (by omega) _ ST.out).mono ?_; rintro e w9 ⟨rfl, hb9⟩; exact hK _ (hW.trans (hb9.mono hW.size))
    simp only [Act.put, List.setIfInBounds_toArray, List.set_cons_zero, List.set_cons_succ]
    apply SeqDet.stepK
    · rfl
    · intro W hW K hK; go_simp; exact hK _ hW
    simp only [Act.put, List.setIfInBounds_toArray, List.set_cons_zero, List.set_cons_succ]
    apply SeqDet.stepK
    · rfl
    · intro W hW K hK; go_simp; exact hK _ hW
    simp only [Act.put, List.setIfInBounds_toArray, List.set_cons_zero, List.set_cons_succ]
    apply SeqDet.stepK
    · rfl
    · intro W hW K hK; go_simp; exact hK _ hW
    simp only [Act.put, List.setIfInBounds_toArray, List.set_cons_zero, List.set_cons_succ]
    refine SeqDet.nil ?_
    intro wz9 hbz9
    have hbe := BW.out.trans (hbz9.mono BW.out.size)
    clear hbz9
    go_wp2_with fail
    go_ret
    exact ⟨rfl, hbe⟩
  cases e3 : v.same x
  · have E1 := hid e1
    have E2 := hid (show v.same u = true by rw [Url.same_comm]; exact e1)
    have E3 := hid e3
    clear e1 e3
    refine region_seq (fun W => Below wt.heap.size wt W) (by kernel_rfl) (by kernel_rfl) (Below.refl _ _).drew ?_
    simp only []
    apply SeqDet.stepK
    · rfl
    · intro W hW K hK; go_simp; exact hK _ hW
    simp only [Act.put, List.setIfInBounds_toArray, List.set_cons_zero, List.set_cons_succ]
    apply SeqDet.stepK
    · rfl
    · intro W hW K hK; go_simp; exact hK _ hW
    simp only [Act.put, List.setIfInBounds_toArray, List.set_cons_zero, List.set_cons_succ]
    apply SeqDet.stepK
    · rfl
    · intro W hW K hK; refine oper_load_url _ rfl W _ u.cells rfl rfl ((hW.block _ (lt_heap F3.out)).trans F3.out) ?_; exact hK _ hW
    simp only [Act.put, List.setIfInBounds_toArray, List.set_cons_zero, List.set_cons_succ]
    apply SeqDet.stepK
    · rfl
    · intro W hW K hK; refine oper_load_url _ rfl W _ v.cells rfl rfl ((hW.block _ (lt_heap F4.out)).trans F4.out) ?_; exact hK _ hW
    simp only [Act.put, List.setIfInBounds_toArray, List.set_cons_zero, List.set_cons_succ]
    apply SeqDet.stepK
    · rfl
    · intro W hW K hK; go_simp; go_at_call 39; refine (same_is u v W (RU.out.below hW) (RV.out.below hW) (by omega) (by omega) _ E1.out).mono ?_; rintro e w9 ⟨rfl, hb9⟩; exact hK _ (hW.trans (hb9.mono hW.size))
    simp only [Act.put, List.setIfInBounds_toArray, List.set_cons_zero, List.set_cons_succ]
    apply SeqDet.stepK
    · rfl
    · intro W hW K hK; refine oper_load_url _ rfl W _ v.cells rfl rfl ((hW.block _ (lt_heap F4.out)).trans F4.out) ?_; exact hK _ hW
    simp only [Act.put, List.setIfInBounds_toArray, List.set_cons_zero, List.set_cons_succ]
    apply SeqDet.stepK
    · rfl
    · intro W hW K hK; refine oper_load_url _ rfl W _ u.cells rfl rfl ((hW.block _ (lt_heap F3.out)).trans F3.out) ?_; exact hK _ hW
    simp only [Act.put, List.setIfInBounds_toArray, List.set_cons_zero, List.set_cons_succ]
    apply SeqDet.stepK
    · rfl
    · intro W hW K hK; go_simp; go_at_call 39; refine (same_is v u W (RV.out.below hW) (RU.out.below hW) (by omega) (by omega) _ E2.out).mono ?_; rintro e w9 ⟨rfl, hb9⟩; exact hK _ (hW.trans (hb9.mono hW.size))
    simp only [Act.put, List.setIfInBounds_toArray, List.set_cons_zero, List.set_cons_succ]
    apply SeqDet.stepK
    · rfl
    · intro W hW K hK; go_simp; exact hK _ hW
    simp only [Act.put, List.setIfInBounds_toArray, List.set_cons_zero, List.set_cons_succ]
    apply SeqDet.stepK
    · rfl
    · intro W hW K hK; go_simp; exact hK _ hW
    simp only [Act.put, List.setIfInBounds_toArray, List.set_cons_zero, List.set_cons_succ]
    apply SeqDet.stepK
    · rfl
    · intro W hW K hK; go_simp; exact hK _ hW
    simp only [Act.put, List.setIfInBounds_toArray, List.set_cons_zero, List.set_cons_succ]
    apply SeqDet.stepK
    · rfl
    · intro W hW K hK; refine oper_load_url _ rfl W _ u.cells rfl rfl ((hW.block _ (lt_heap F3.out)).trans F3.out) ?_; exact hK _ hW
    simp only [Act.put, List.setIfInBounds_toArray, List.set_cons_zero, List.set_cons_succ]
    apply SeqDet.stepK
    · rfl
    · intro W hW K hK; refine oper_load_url _ rfl W _ v.cells rfl rfl ((hW.block _ (lt_heap F4.out)).trans F4.out) ?_; exact hK _ hW
    simp only [Act.put, List.setIfInBounds_toArray, List.set_cons_zero, List.set_cons_succ]
    apply SeqDet.stepK
    · rfl
    · intro W hW K hK; go_simp; go_at_call 39; refine (same_is u v W (RU.out.below hW) (RV.out.below hW) (by omega) (by omega) _ E1.out).mono ?_; rintro e w9 ⟨rfl, hb9⟩; exact hK _ (hW.trans (hb9.mono hW.size))
    simp only [Act.put, List.setIfInBounds_toArray, List.set_cons_zero, List.set_cons_succ]
    apply SeqDet.stepK
    · rfl
    · intro W hW K hK; go_simp; exact hK _ hW
    simp only [Act.put, List.setIfInBounds_toArray, List.set_cons_zero, List.set_cons_succ]
    apply SeqDet.stepK
    · rfl
    · intro W hW K hK; go_simp; exact hK _ hW
    simp only [Act.put, List.setIfInBounds_toArray, List.set_cons_zero, List.set_cons_succ]
    apply SeqDet.stepK
    · rfl
    · intro W hW K hK; refine oper_load_url _ rfl W _ v.cells rfl rfl ((hW.block _ (lt_heap F4.out)).trans F4.out) ?_; exact hK _ hW
    simp only [Act.put, List.setIfInBounds_toArray, List.set_cons_zero, List.set_cons_succ]
    apply SeqDet.stepK
    · rfl
    · intro W hW K hK; refine oper_load_url _ rfl W _ x.cells rfl rfl ((hW.block _ (lt_heap F5.out)).trans F5.out) ?_; exact hK _ hW
    simp only [Act.put, List.setIfInBounds_toArray, List.set_cons_zero, List.set_cons_succ]
    apply SeqDet.stepK
    · rfl
    · intro W hW K hK; go_simp; go_at_call 39; refine (same_is v x W (RV.out.below hW) (RX.out.below hW) (by omega) (by omega) _ E3.out).mono ?_; rintro e w9 ⟨rfl, hb9⟩; exact hK _ (hW.trans (hb9.mono hW.size))
    simp only [Act.put, List.setIfInBounds_toArray, List.set_cons_zero, List.set_cons_succ]
    apply SeqDet.stepK
    · rfl
    · intro W hW K hK; go_simp; exact hK _ hW
    simp only [Act.put, List.setIfInBounds_toArray, List.set_cons_zero, List.set_cons_succ]
    apply SeqDet.stepK
    · rfl
    · intro W hW K hK; go_simp; exact hK _ hW
    simp only [Act.put, List.setIfInBounds_toArray, List.set_cons_zero, List.set_cons_succ]
    apply SeqDet.stepK
    · rfl
    · intro W hW K hK; go_simp; exact hK _ hW
    simp only [Act.put, List.setIfInBounds_toArray, List.set_cons_zero, List.set_cons_succ]
    apply SeqDet.skip
    · rfl
    simp only [Act.put, List.setIfInBounds_toArray, List.set_cons_zero, List.set_cons_succ]
    apply SeqDet.skip
    · rfl
    simp only [Act.put, List.setIfInBounds_toArray, List.set_cons_zero, List.set_cons_succ]
    apply SeqDet.skip
    · rfl
    simp only [Act.put, List.setIfInBounds_toArray, List.set_cons_zero, List.set_cons_succ]
    apply SeqDet.stepK
    · rfl
    · intro W hW K hK; go_simp; exact hK _ hW
    simp only [Act.put, List.setIfInBounds_toArray, List.set_cons_zero, List.set_cons_succ]
    apply SeqDet.stepK
    · rfl
    · intro W hW K hK; go_simp; exact hK _ hW
    simp only [Act.put, List.setIfInBounds_toArray, List.set_cons_zero, List.set_cons_succ]
    apply SeqDet.stepK
    · rfl
    · intro W hW K hK; go_simp; exact hK _ hW
    simp only [Act.put, List.setIfInBounds_toArray, List.set_cons_zero, List.set_cons_succ]
    apply SeqDet.stepK
    · rfl
    · intro W hW K hK; refine oper_load_url _ rfl W _ u.cells rfl rfl ((hW.block _ (lt_heap F3.out)).trans F3.out) ?_; exact hK _ hW
    simp only [Act.put, List.setIfInBounds_toArray, List.set_cons_zero, List.set_cons_succ]
    apply SeqDet.stepK
    · rfl
    · intro W hW K hK; refine oper_load_url _ rfl W _ ux.cells rfl rfl ((hW.block _ (lt_heap F11.out)).trans F11.out) ?_; exact hK _ hW
    simp only [Act.put, List.setIfInBounds_toArray, List.set_cons_zero, List.set_cons_succ]
    apply SeqDet.stepK
    · rfl
    · intro W hW K hK; go_simp; go_at_call 39; refine (same_is u ux W (RU.out.below hW) (RUX.out.below hW) (by omega) (by omega) _ SX.out).mono ?_; rintro e w9 ⟨rfl, hb9⟩; exact hK _ (hW.trans (hb9.mono hW.size))
    simp only [Act.put, List.setIfInBounds_toArray, List.set_cons_zero, List.set_cons_succ]
    apply SeqDet.stepK
    · rfl
    · intro W hW K hK; go_simp; exact hK _ hW
    simp only [Act.put, List.setIfInBounds_toArray, List.set_cons_zero, List.set_cons_succ]
    apply SeqDet.stepK
    · rfl
    · intro W hW K hK; go_simp; exact hK _ hW
    simp only [Act.put, List.setIfInBounds_toArray, List.set_cons_zero, List.set_cons_succ]
    apply SeqDet.stepK
    · rfl
    · intro W hW K hK; go_simp; exact hK _ hW
    simp only [Act.put, List.setIfInBounds_toArray, List.set_cons_zero, List.set_cons_succ]
    apply SeqDet.stepK
    · rfl
    · intro W hW K hK; refine oper_load_url _ rfl W _ u.cells rfl rfl ((hW.block _ (lt_heap F3.out)).trans F3.out) ?_; exact hK _ hW
    simp only [Act.put, List.setIfInBounds_toArray, List.set_cons_zero, List.set_cons_succ]
    apply SeqDet.stepK
    · rfl
    · intro W hW K hK; refine oper_load_url _ rfl W _ uy.cells rfl rfl ((hW.block _ (lt_heap F12.out)).trans F12.out) ?_; exact hK _ hW
    simp only [Act.put, List.setIfInBounds_toArray, List.set_cons_zero, List.set_cons_succ]
    apply SeqDet.stepK
    · rfl
    · intro W hW K hK; go_simp; go_at_call 39; refine (same_is u uy W (RU.out.below hW) (RUY.out.below hW) (by omega) (by omega) _ SY.out).mono ?_; rintro e w9 ⟨rfl, hb9⟩; exact hK _ (hW.trans (hb9.mono hW.size))
    simp only [Act.put, List.setIfInBounds_toArray, List.set_cons_zero, List.set_cons_succ]
    apply SeqDet.stepK
    · rfl
    · intro W hW K hK; go_simp; exact hK _ hW
    simp only [Act.put, List.setIfInBounds_toArray, List.set_cons_zero, List.set_cons_succ]
    apply SeqDet.stepK
    · rfl
    · intro W hW K hK; go_simp; exact hK _ hW
    simp only [Act.put, List.setIfInBounds_toArray, List.set_cons_zero, List.set_cons_succ]
    apply SeqDet.stepK
    · rfl
    · intro W hW K hK; go_simp; exact hK _ hW
    simp only [Act.put, List.setIfInBounds_toArray, List.set_cons_zero, List.set_cons_succ]
    apply SeqDet.stepK
    · rfl
    · intro W hW K hK; refine oper_load_url _ rfl W _ u.cells rfl rfl ((hW.block _ (lt_heap F3.out)).trans F3.out) ?_; exact hK _ hW
    simp only [Act.put, List.setIfInBounds_toArray, List.set_cons_zero, List.set_cons_succ]
    apply SeqDet.stepK
    · rfl
    · intro W hW K hK; refine oper_load_url _ rfl W _ uz.cells rfl rfl ((hW.block _ (lt_heap F13.out)).trans F13.out) ?_; exact hK _ hW
    simp only [Act.put, List.setIfInBounds_toArray, List.set_cons_zero, List.set_cons_succ]
    apply SeqDet.stepK
    · rfl
    · intro W hW K hK; go_simp; go_at_call 39; refine (same_is u uz W (RU.out.below hW) (RUZ.out.below hW) (by omega) (by omega) _ SZ.out).mono ?_; rintro e w9 ⟨rfl, hb9⟩; exact hK _ (hW.trans (hb9.mono hW.size))
    simp only [Act.put, List.setIfInBounds_toArray, List.set_cons_zero, List.set_cons_succ]
    apply SeqDet.stepK
    · rfl
    · intro W hW K hK; go_simp; exact hK _ hW
    simp only [Act.put, List.setIfInBounds_toArray, List.set_cons_zero, List.set_cons_succ]
    apply SeqDet.stepK
    · rfl
    · intro W hW K hK; go_simp; exact hK _ hW
    simp only [Act.put, List.setIfInBounds_toArray, List.set_cons_zero, List.set_cons_succ]
    apply SeqDet.stepK
    · rfl
    · intro W hW K hK; go_simp; exact hK _ hW
    simp only [Act.put, List.setIfInBounds_toArray, List.set_cons_zero, List.set_cons_succ]
    apply SeqDet.stepK
    · rfl
    · intro W hW K hK; refine oper_load_url _ rfl W _ u.cells rfl rfl ((hW.block _ (lt_heap F3.out)).trans F3.out) ?_; exact hK _ hW
    simp only [Act.put, List.setIfInBounds_toArray, List.set_cons_zero, List.set_cons_succ]
    apply SeqDet.stepK
    · rfl
    · intro W hW K hK; refine oper_load_url _ rfl W _ ut.cells rfl rfl ((hW.block _ (lt_heap F14.out)).trans F14.out) ?_; exact hK _ hW
    simp only [Act.put, List.setIfInBounds_toArray, List.set_cons_zero, List.set_cons_succ]
    apply SeqDet.stepK
    · rfl
    · intro W hW K hK; go_simp; go_at_call 39; refine (same_is u ut W (RU.out.below hW) (RUT.out.below hW) (by omega) (by omega) _ ST.out).mono ?_; rintro e w9 ⟨rfl, hb9⟩; exact hK _ (hW.trans (hb9.mono hW.size))
    simp only [Act.put, List.setIfInBounds_toArray, List.set_cons_zero, List.set_cons_succ]
    apply SeqDet.stepK
    · rfl
    · intro W hW K hK; go_simp; exact hK _ hW
    simp only [Act.put, List.setIfInBounds_toArray, List.set_cons_zero, List.set_cons_succ]
    apply SeqDet.stepK
    · rfl
    · intro W hW K hK; go_simp; exact hK _ hW
    simp only [Act.put, List.setIfInBounds_toArray, List.set_cons_zero, List.set_cons_succ]
    apply SeqDet.stepK
    · rfl
    · intro W hW K hK; go_simp; exact hK _ hW
    simp only [Act.put, List.setIfInBounds_toArray, List.set_cons_zero, List.set_cons_succ]
    refine SeqDet.nil ?_
    intro wz9 hbz9
    have hbe := BW.out.trans (hbz9.mono BW.out.size)
    clear hbz9
    go_wp2_with fail
    go_ret
    exact ⟨rfl, hbe⟩
  · have E1 := hid e1
    have E2 := hid (show v.same u = true by rw [Url.same_comm]; exact e1)
    have E3 := hid e3
    have E4 := hid (Url.same_trans e1 e3)
    clear e1 e3
    refine region_seq (fun W => Below wt.heap.size wt W) (by kernel_rfl) (by kernel_rfl) (Below.refl _ _).drew ?_
    simp only []
    apply SeqDet.stepK
    · rfl
    · intro W hW K hK; go_simp; exact hK _ hW
    simp only [Act.put, List.setIfInBounds_toArray, List.set_cons_zero, List.set_cons_succ]
    apply SeqDet.stepK
    · rfl
    · intro W hW K hK; go_simp; exact hK _ hW
    simp only [Act.put, List.setIfInBounds_toArray, List.set_cons_zero, List.set_cons_succ]
    apply SeqDet.stepK
    · rfl
    · intro W hW K hK; refine oper_load_url _ rfl W _ u.cells rfl rfl ((hW.block _ (lt_heap F3.out)).trans F3.out) ?_; exact hK _ hW
    simp only [Act.put, List.setIfInBounds_toArray, List.set_cons_zero, List.set_cons_succ]
    apply SeqDet.stepK
    · rfl
    · intro W hW K hK; refine oper_load_url _ rfl W _ v.cells rfl rfl ((hW.block _ (lt_heap F4.out)).trans F4.out) ?_; exact hK _ hW
    simp only [Act.put, List.setIfInBounds_toArray, List.set_cons_zero, List.set_cons_succ]
    apply SeqDet.stepK
    · rfl
    · intro W hW K hK; go_simp; go_at_call 39; refine (same_is u v W (RU.out.below hW) (RV.out.below hW) (by omega) (by omega) _ E1.out).mono ?_; rintro e w9 ⟨rfl, hb9⟩; exact hK _ (hW.trans (hb9.mono hW.size))
    simp only [Act.put, List.setIfInBounds_toArray, List.set_cons_zero, List.set_cons_succ]
    apply SeqDet.stepK
    · rfl
    · intro W hW K hK; refine oper_load_url _ rfl W _ v.cells rfl rfl ((hW.block _ (lt_heap F4.out)).trans F4.out) ?_; exact hK _ hW
    simp only [Act.put, List.setIfInBounds_toArray, List.set_cons_zero, List.set_cons_succ]
    apply SeqDet.stepK
    · rfl
    · intro W hW K hK; refine oper_load_url _ rfl W _ u.cells rfl rfl ((hW.block _ (lt_heap F3.out)).trans F3.out) ?_; exact hK _ hW
    simp only [Act.put, List.setIfInBounds_toArray, List.set_cons_zero, List.set_cons_succ]
    apply SeqDet.stepK
    · rfl
    · intro W hW K hK; go_simp; go_at_call 39; refine (same_is v u W (RV.out.below hW) (RU.out.below hW) (by omega) (by omega) _ E2.out).mono ?_; rintro e w9 ⟨rfl, hb9⟩; exact hK _ (hW.trans (hb9.mono hW.size))
    simp only [Act.put, List.setIfInBounds_toArray, List.set_cons_zero, List.set_cons_succ]
    apply SeqDet.stepK
    · rfl
    · intro W hW K hK; go_simp; exact hK _ hW
    simp only [Act.put, List.setIfInBounds_toArray, List.set_cons_zero, List.set_cons_succ]
    apply SeqDet.stepK
    · rfl
    · intro W hW K hK; go_simp; exact hK _ hW
    simp only [Act.put, List.setIfInBounds_toArray, List.set_cons_zero, List.set_cons_succ]
    apply SeqDet.stepK
    · rfl
    · intro W hW K hK; go_simp; exact hK _ hW
    simp only [Act.put, List.setIfInBounds_toArray, List.set_cons_zero, List.set_cons_succ]
    apply SeqDet.stepK
    · rfl
    · intro W hW K hK; refine oper_load_url _ rfl W _ u.cells rfl rfl ((hW.block _ (lt_heap F3.out)).trans F3.out) ?_; exact hK _ hW
    simp only [Act.put, List.setIfInBounds_toArray, List.set_cons_zero, List.set_cons_succ]
    apply SeqDet.stepK
    · rfl
    · intro W hW K hK; refine oper_load_url _ rfl W _ v.cells rfl rfl ((hW.block _ (lt_heap F4.out)).trans F4.out) ?_; exact hK _ hW
    simp only [Act.put, List.setIfInBounds_toArray, List.set_cons_zero, List.set_cons_succ]
    apply SeqDet.stepK
    · rfl
    · intro W hW K hK; go_simp; go_at_call 39; refine (same_is u v W (RU.out.below hW) (RV.out.below hW) (by omega) (by omega) _ E1.out).mono ?_; rintro e w9 ⟨rfl, hb9⟩; exact hK _ (hW.trans (hb9.mono hW.size))
    simp only [Act.put, List.setIfInBounds_toArray, List.set_cons_zero, List.set_cons_succ]
    apply SeqDet.stepK
    · rfl
    · intro W hW K hK; go_simp; exact hK _ hW
    simp only [Act.put, List.setIfInBounds_toArray, List.set_cons_zero, List.set_cons_succ]
    apply SeqDet.stepK
    · rfl
    · intro W hW K hK; go_simp; exact hK _ hW
    simp only [Act.put, List.setIfInBounds_toArray, List.set_cons_zero, List.set_cons_succ]
    apply SeqDet.stepK
    · rfl
    · intro W hW K hK; refine oper_load_url _ rfl W _ v.cells rfl rfl ((hW.block _ (lt_heap F4.out)).trans F4.out) ?_; exact hK _ hW
    simp only [Act.put, List.setIfInBounds_toArray, List.set_cons_zero, List.set_cons_succ]
    apply SeqDet.stepK
    · rfl
    · intro W hW K hK; refine oper_load_url _ rfl W _ x.cells rfl rfl ((hW.block _ (lt_heap F5.out)).trans F5.out) ?_; exact hK _ hW
    simp only [Act.put, List.setIfInBounds_toArray, List.set_cons_zero, List.set_cons_succ]
    apply SeqDet.stepK
    · rfl
    · intro W hW K hK; go_simp; go_at_call 39; refine (same_is v x W (RV.out.below hW) (RX.out.below hW) (by omega) (by omega) _ E3.out).mono ?_; rintro e w9 ⟨rfl, hb9⟩; exact hK _ (hW.trans (hb9.mono hW.size))
    simp only [Act.put, List.setIfInBounds_toArray, List.set_cons_zero, List.set_cons_succ]
    apply SeqDet.stepK
    · rfl
    · intro W hW K hK; go_simp; exact hK _ hW
    simp only [Act.put, List.setIfInBounds_toArray, List.set_cons_zero, List.set_cons_succ]
    apply SeqDet.stepK
    · rfl
    · intro W hW K hK; go_simp; exact hK _ hW
    simp only [Act.put, List.setIfInBounds_toArray, List.set_cons_zero, List.set_cons_succ]
    apply SeqDet.stepK
    · rfl
    · intro W hW K hK; go_simp; exact hK _ hW
    simp only [Act.put, List.setIfInBounds_toArray, List.set_cons_zero, List.set_cons_succ]
    apply SeqDet.stepK
    · rfl
    · intro W hW K hK; refine oper_load_url _ rfl W _ u.cells rfl rfl ((hW.block _ (lt_heap F3.out)).trans F3.out) ?_; exact hK _ hW
    simp only [Act.put, List.setIfInBounds_toArray, List.set_cons_zero, List.set_cons_succ]
    apply SeqDet.stepK
    · rfl
    · intro W hW K hK; refine oper_load_url _ rfl W _ x.cells rfl rfl ((hW.block _ (lt_heap F5.out)).trans F5.out) ?_; exact hK _ hW
    simp only [Act.put, List.setIfInBounds_toArray, List.set_cons_zero, List.set_cons_succ]
    apply SeqDet.stepK
    · rfl
    · intro W hW K hK; go_simp; go_at_call 39; refine (same_is u x W (RU.out.below hW) (RX.out.below hW) (by omega) (by omega) _ E4.out).mono ?_; rintro e w9 ⟨rfl, hb9⟩; exact hK _ (hW.trans (hb9.mono hW.size))
    simp only [Act.put, List.setIfInBounds_toArray, List.set_cons_zero, List.set_cons_succ]
    apply SeqDet.stepK
    · rfl
    · intro W hW K hK; go_simp; exact hK _ hW
    simp only [Act.put, List.setIfInBounds_toArray, List.set_cons_zero, List.set_cons_succ]
    apply SeqDet.stepK
    · rfl
    · intro W hW K hK; go_simp; exact hK _ hW
    simp only [Act.put, List.setIfInBounds_toArray, List.set_cons_zero, List.set_cons_succ]
    apply SeqDet.stepK
    · rfl
    · intro W hW K hK; go_simp; exact hK _ hW
    simp only [Act.put, List.setIfInBounds_toArray, List.set_cons_zero, List.set_cons_succ]
    apply SeqDet.stepK
    · rfl
    · intro W hW K hK; refine oper_load_url _ rfl W _ u.cells rfl rfl ((hW.block _ (lt_heap F3.out)).trans F3.out) ?_; exact hK _ hW
    simp only [Act.put, List.setIfInBounds_toArray, List.set_cons_zero, List.set_cons_succ]
    apply SeqDet.stepK
    · rfl
    · intro W hW K hK; refine oper_load_url _ rfl W _ ux.cells rfl rfl ((hW.block _ (lt_heap F11.out)).trans F11.out) ?_; exact hK _ hW
    simp only [Act.put, List.setIfInBounds_toArray, List.set_cons_zero, List.set_cons_succ]
    apply SeqDet.stepK
    · rfl
    · intro W hW K hK; go_simp; go_at_call 39; refine (same_is u ux W (RU.out.below hW) (RUX.out.below hW) (by omega) (by omega) _ SX.out).mono ?_; rintro e w9 ⟨rfl, hb9⟩; exact hK _ (hW.trans (hb9.mono hW.size))
    simp only [Act.put, List.setIfInBounds_toArray, List.set_cons_zero, List.set_cons_succ]
    apply SeqDet.stepK
    · rfl
    · intro W hW K hK; go_simp; exact hK _ hW
    simp only [Act.put, List.setIfInBounds_toArray, List.set_cons_zero, List.set_cons_succ]
    apply SeqDet.stepK
    · rfl
    · intro W hW K hK; go_simp; exact hK _ hW
    simp only [Act.put, List.setIfInBounds_toArray, List.set_cons_zero, List.set_cons_succ]
    apply SeqDet.stepK
    · rfl
    · intro W hW K hK; go_simp; exact hK _ hW
    simp only [Act.put, List.setIfInBounds_toArray, List.set_cons_zero, List.set_cons_succ]
    apply SeqDet.stepK
    · rfl
    · intro W hW K hK; refine oper_load_url _ rfl W _ u.cells rfl rfl ((hW.block _ (lt_heap F3.out)).trans F3.out) ?_; exact hK _ hW
    simp only [Act.put, List.setIfInBounds_toArray, List.set_cons_zero, List.set_cons_succ]
    apply SeqDet.stepK
    · rfl
    · intro W hW K hK; refine oper_load_url _ rfl W _ uy.cells rfl rfl ((hW.block _ (lt_heap F12.out)).trans F12.out) ?_; exact hK _ hW
    simp only [Act.put, List.setIfInBounds_toArray, List.set_cons_zero, List.set_cons_succ]
    apply SeqDet.stepK
    · rfl
    · intro W hW K hK; go_simp; go_at_call 39; refine (same_is u uy W (RU.out.below hW) (RUY.out.below hW) (by omega) (by omega) _ SY.out).mono ?_; rintro e w9 ⟨rfl, hb9⟩; exact hK _ (hW.trans (hb9.mono hW.size))
    simp only [Act.put, List.setIfInBounds_toArray, List.set_cons_zero, List.set_cons_succ]
    apply SeqDet.stepK
    · rfl
    · intro W hW K hK; go_simp; exact hK _ hW
    simp only [Act.put, List.setIfInBounds_toArray, List.set_cons_zero, List.set_cons_succ]
    apply SeqDet.stepK
    · rfl
    · intro W hW K hK; go_simp; exact hK _ hW
    simp only [Act.put, List.setIfInBounds_toArray, List.set_cons_zero, List.set_cons_succ]
    apply SeqDet.stepK
    · rfl
    · intro W hW K hK; go_simp; exact hK _ hW
    simp only [Act.put, List.setIfInBounds_toArray, List.set_cons_zero, List.set_cons_succ]
    apply SeqDet.stepK
    · rfl
    · intro W hW K hK; refine oper_load_url _ rfl W _ u.cells rfl rfl ((hW.block _ (lt_heap F3.out)).trans F3.out) ?_; exact hK _ hW
    simp only [Act.put, List.setIfInBounds_toArray, List.set_cons_zero, List.set_cons_succ]
    apply SeqDet.stepK
    · rfl
    · intro W hW K hK; refine oper_load_url _ rfl W _ uz.cells rfl rfl ((hW.block _ (lt_heap F13.out)).trans F13.out) ?_; exact hK _ hW
    simp only [Act.put, List.setIfInBounds_toArray, List.set_cons_zero, List.set_cons_succ]
    apply SeqDet.stepK
    · rfl
    · intro W hW K hK; go_simp; go_at_call 39; refine (same_is u uz W (RU.out.below hW) (RUZ.out.below hW) (by omega) (by omega) _ SZ.out).mono ?_; rintro e w9 ⟨rfl, hb9⟩; exact hK _ (hW.trans (hb9.mono hW.size))
    simp only [Act.put, List.setIfInBounds_toArray, List.set_cons_zero, List.set_cons_succ]
    apply SeqDet.stepK
    · rfl
    · intro W hW K hK; go_simp; exact hK _ hW
    simp only [Act.put, List.setIfInBounds_toArray, List.set_cons_zero, List.set_cons_succ]
    apply SeqDet.stepK
    · rfl
    · intro W hW K hK; go_simp; exact hK _ hW
    simp only [Act.put, List.setIfInBounds_toArray, List.set_cons_zero, List.set_cons_succ]
    apply SeqDet.stepK
    · rfl
    · intro W hW K hK; go_simp; exact hK _ hW
    simp only [Act.put, List.setIfInBounds_toArray, List.set_cons_zero, List.set_cons_succ]
    apply SeqDet.stepK
    · rfl
    · intro W hW K hK; refine oper_load_url _ rfl W _ u.cells rfl rfl ((hW.block _ (lt_heap F3.out)).trans F3.out) ?_; exact hK _ hW
    simp only [Act.put, List.setIfInBounds_toArray, List.set_cons_zero, List.set_cons_succ]
    apply SeqDet.stepK
    · rfl
    · intro W hW K hK; refine oper_load_url _ rfl W _ ut.cells rfl rfl ((hW.block _ (lt_heap F14.out)).trans F14.out) ?_; exact hK _ hW
    simp only [Act.put, List.setIfInBounds_toArray, List.set_cons_zero, List.set_cons_succ]
    apply SeqDet.stepK
    · rfl
    · intro W hW K hK; go_simp; go_at_call 39; refine (same_is u ut W (RU.out.below hW) (RUT.out.below hW) (by omega) (by omega) _ ST.out).mono ?_; rintro e w9 ⟨rfl, hb9⟩; exact hK _ (hW.trans (hb9.mono hW.size))
    simp only [Act.put, List.setIfInBounds_toArray, List.set_cons_zero, List.set_cons_succ]
    apply SeqDet.stepK
    · rfl
    · intro W hW K hK; go_simp; exact hK _ hW
    simp only [Act.put, List.setIfInBounds_toArray, List.set_cons_zero, List.set_cons_succ]
    apply SeqDet.stepK
    · rfl
    · intro W hW K hK; go_simp; exact hK _ hW
    simp only [Act.put, List.setIfInBounds_toArray, List.set_cons_zero, List.set_cons_succ]
    apply SeqDet.stepK
    · rfl
    · intro W hW K hK; go_simp; exact hK _ hW
    simp only [Act.put, List.setIfInBounds_toArray, List.set_cons_zero, List.set_cons_succ]
    refine SeqDet.nil ?_
    intro wz9 hbz9
    have hbe := BW.out.trans (hbz9.mono BW.out.size)
    clear hbz9
    go_wp2_with fail
    go_ret
    exact ⟨rfl, hbe⟩
end Go.Proofs.Ytmkgjleojfggcaa
