/-
  The small case of layer 6, and the walk of EscapeBack. Conditions: the arguments are as they can be handed over.
-/
import Derived.Test.YtmcjljjagfpkkaaEscCalls
set_option linter.all false
namespace Go.Proofs.Ytmcjljjagfpkkaa
open Go.RowKit
theorem plain_of (s : ByteArray) (b : Bool) (h : plainL s.data.toList = b) (hs : s.size ≤ 100000) (w : World) :
    Calls Try.prog 26 #[.string s] w fun e w' => e = .returned (.bool b) ∧ Below w.heap.size w w' := by subst h; exact plain_calls s w hs
theorem escape_of (s x : ByteArray) (h : strB (escAll s.data.toList) = x) (hs : s.size ≤ 20000) (w : World) :
    Calls Try.prog 24 #[.string s] w fun e w' => e = .returned (.string x) ∧ Below w.heap.size w w' := by subst h; exact escape_calls s w hs
theorem ahead_of (s x : ByteArray) (c : UInt8) (n : Int) (hn : n = (c.toNat : Int)) (h : strB (aheadL c s.data.toList) = x) (w : World) :
    Calls Try.prog 30 #[.string s, .int .u8 n] w fun e w' => e = .returned (.string x) ∧ w = w' := by subst h hn; exact ahead_calls s c w
set_option maxHeartbeats 4000000 in
set_option maxRecDepth 100000 in
theorem escSmall_calls (w : World) : Calls Try.prog 23 #[] w fun e w' => e = .returned (.bool true) ∧ Below w.heap.size w w' := by
  have e_0 := hid (fun w => escape_of ⟨#[97, 38, 98, 39, 99, 34, 60, 62, 96, 195]⟩ ⟨#[97, 38, 97, 109, 112, 59, 98, 38, 35, 51, 57, 59, 99, 38, 35, 51, 52, 59, 38, 35, 54, 48, 59, 38, 35, 54, 50, 59, 38, 35, 57, 54, 59, 195]⟩ (congrArg strB (show escAll [97, 38, 98, 39, 99, 34, 60, 62, 96, 195] = [97, 38, 97, 109, 112, 59, 98, 38, 35, 51, 57, 59, 99, 38, 35, 51, 52, 59, 38, 35, 54, 48, 59, 38, 35, 54, 50, 59, 38, 35, 57, 54, 59, 195] by decide +kernel)) (by decide) w)
  have p_0 := hid (fun w => plain_of ⟨#[97, 32, 38, 97, 109, 112, 59, 38, 35, 51, 52, 59, 126]⟩ true (show plainL [97, 32, 38, 97, 109, 112, 59, 38, 35, 51, 52, 59, 126] = true by decide +kernel) (by decide) w)
  have p_1 := hid (fun w => plain_of ⟨#[97, 38, 98]⟩ false (show plainL [97, 38, 98] = false by decide +kernel) (by decide) w)
  have p_2 := hid (fun w => plain_of ⟨#[39]⟩ false (show plainL [39] = false by decide +kernel) (by decide) w)
  have p_3 := hid (fun w => plain_of ⟨#[9]⟩ false (show plainL [9] = false by decide +kernel) (by decide) w)
  have s_0 := hid (fun w => settled_calls ⟨#[97, 38, 97, 109, 112, 59, 98]⟩ true (by rw [show decE (⟨#[97, 38, 97, 109, 112, 59, 98]⟩ : ByteArray).data.toList = [97, 38, 98] from decE_const [97, 38, 97, 109, 112, 59, 98] _ (by decide +kernel)]; decide +kernel) w (by decide))
  have s_1 := hid (fun w => settled_calls ⟨#[97, 38, 98]⟩ false (by rw [show decE (⟨#[97, 38, 98]⟩ : ByteArray).data.toList = [97, 38, 98] from decE_const [97, 38, 98] _ (by decide +kernel)]; decide +kernel) w (by decide))
  have s_2 := hid (fun w => settled_calls ⟨#[38, 35, 51, 56, 59]⟩ false (by rw [show decE (⟨#[38, 35, 51, 56, 59]⟩ : ByteArray).data.toList = [38] from decE_const [38, 35, 51, 56, 59] _ (by decide +kernel)]; decide +kernel) w (by decide))
  have a_0 := hid (fun w => ahead_of ⟨#[97, 98, 39, 99]⟩ ⟨#[97, 98]⟩ 39 39 rfl (congrArg strB (show aheadL 39 [97, 98, 39, 99] = [97, 98] by decide +kernel)) w)
  have a_1 := hid (fun w => ahead_of ⟨#[97, 98]⟩ ⟨#[97, 98]⟩ 99 99 rfl (congrArg strB (show aheadL 99 [97, 98] = [97, 98] by decide +kernel)) w)
  have k_0 : ((⟨#[97, 38, 97, 109, 112, 59, 98, 38, 35, 51, 57, 59, 99, 38, 35, 51, 52, 59, 38, 35, 54, 48, 59, 38, 35, 54, 50, 59, 38, 35, 57, 54, 59, 195]⟩ : ByteArray).toList == [97, 38, 97, 109, 112, 59, 98, 38, 35, 51, 57, 59, 99, 38, 35, 51, 52, 59, 38, 35, 54, 48, 59, 38, 35, 54, 50, 59, 38, 35, 57, 54, 59, 195]) = true := lit_same [97, 38, 97, 109, 112, 59, 98, 38, 35, 51, 57, 59, 99, 38, 35, 51, 52, 59, 38, 35, 54, 48, 59, 38, 35, 54, 50, 59, 38, 35, 57, 54, 59, 195]
  have k_1 : ((⟨#[97, 98]⟩ : ByteArray).toList == [97, 98]) = true := lit_same [97, 98]
  have HB := hid (Below.refl w.heap.size w)
  go_enter Try.func23, Try.ntmps23
  go_wp2_with fail
  refine (e_0.out _).mono ?_
  rintro e w10 ⟨rfl, hb10⟩
  have HB := hid (HB.out.trans (hb10.mono HB.out.size))
  clear hb10
  go_wp2_with fail
  refine (p_0.out _).mono ?_
  rintro e w11 ⟨rfl, hb11⟩
  have HB := hid (HB.out.trans (hb11.mono HB.out.size))
  clear hb11
  go_wp2_with fail
  refine (p_1.out _).mono ?_
  rintro e w12 ⟨rfl, hb12⟩
  have HB := hid (HB.out.trans (hb12.mono HB.out.size))
  clear hb12
  go_wp2_with fail
  refine (p_2.out _).mono ?_
  rintro e w13 ⟨rfl, hb13⟩
  have HB := hid (HB.out.trans (hb13.mono HB.out.size))
  clear hb13
  go_wp2_with fail
  refine (p_3.out _).mono ?_
  rintro e w14 ⟨rfl, hb14⟩
  have HB := hid (HB.out.trans (hb14.mono HB.out.size))
  clear hb14
  go_wp2_with fail
  refine (s_0.out _).mono ?_
  rintro e w15 ⟨rfl, hb15⟩
  have HB := hid (HB.out.trans (hb15.mono HB.out.size))
  clear hb15
  go_wp2_with fail
  refine (s_1.out _).mono ?_
  rintro e w16 ⟨rfl, hb16⟩
  have HB := hid (HB.out.trans (hb16.mono HB.out.size))
  clear hb16
  go_wp2_with fail
  refine (s_2.out _).mono ?_
  rintro e w17 ⟨rfl, hb17⟩
  have HB := hid (HB.out.trans (hb17.mono HB.out.size))
  clear hb17
  go_wp2_with fail
  refine (a_0.out _).mono ?_
  rintro e w' ⟨rfl, rfl⟩
  go_wp2_with fail
  refine (a_1.out _).mono ?_
  rintro e w' ⟨rfl, rfl⟩
  go_wp2_with fail
  go_ret
  exact ⟨rfl, HB.out⟩
set_option maxHeartbeats 8000000 in
set_option maxRecDepth 100000 in
theorem escapeBack_walk (a b : ByteArray) (w : World) (ha : a.size ≤ maxLen) (hb : b.size ≤ maxLen) :
    Calls Try.prog 9 #[.string a, .string b] w fun e w' => e = .returned (.bool true) ∧ Below w.heap.size w w' := by
  unfold maxLen at ha hb
  go_enter Try.func9, Try.ntmps9
  go_wp2_with fail
  refine (escSmall_calls _).mono ?_
  rintro e w1 ⟨rfl, hb1⟩
  have HB := hid hb1
  clear hb1
  by_cases ha3 : a.size ≤ 300
  rotate_left
  · go_wp2_with fail
    go_ret
    exact ⟨rfl, HB.out⟩
  by_cases hb3 : b.size ≤ 300
  rotate_left
  · go_wp2_with fail
    go_ret
    exact ⟨rfl, HB.out⟩
  have hla := escAll_len a.data.toList
  have hlb := escAll_len b.data.toList
  have haz : a.data.toList.length = a.size := by simp
  have hbz : b.data.toList.length = b.size := by simp
  have E1 := hid (fun w => escape_of a _ rfl (by omega) w)
  have E2 := hid (fun w => escape_of b _ rfl (by omega) w)
  have E3 := hid (fun w => escape_of (a ++ b) (strB (escAll a.data.toList) ++ strB (escAll b.data.toList)) (by rw [list_app, escAll_app, strB_app]) (by simp; omega) w)
  have D1 := hid (fun w => decode_of (strB (escAll a.data.toList)) a (by rw [strB_list, dec_esc', strB_of]) (by rw [strB_size]; omega) w)
  have D2 := hid (fun w => decode_of (strB (escAll a.data.toList) ++ strB (escAll b.data.toList)) (a ++ b) (by rw [list_app, strB_list, strB_list, ← escAll_app, dec_esc', strB_app, strB_of, strB_of]) (by simp [strB_size]; omega) w)
  have S1 := hid (fun w => settled_calls (strB (escAll a.data.toList)) true (by rw [strB_list, dec_esc']; simp) w (by rw [strB_size]; omega))
  have z1 : (strB (escAll a.data.toList)).size ≤ 5 * a.size := by rw [strB_size]; omega
  have z2 : (strB (escAll b.data.toList)).size ≤ 1500 := by rw [strB_size]; omega
  have z3 : a.size ≤ (strB (escAll a.data.toList)).size := by rw [strB_size]; omega
  generalize strB (escAll a.data.toList) = x at *
  generalize strB (escAll b.data.toList) = y at *
  clear hla hlb haz hbz
  have hm : IntKind.i64.wrap (5 * (a.size : Int)) = 5 * (a.size : Int) := IntWalk.i64_in _ (by omega)
  have hd1 : decide ((x.size : Int) ≤ 5 * (a.size : Int)) = true := decide_eq_true (by omega)
  have hd2 : decide (a.size ≤ x.size) = true := decide_eq_true z3
  go_wp2_with fail
  refine (E1.out _).mono ?_
  rintro e w18 ⟨rfl, hb18⟩
  have HB := hid (HB.out.trans (hb18.mono HB.out.size))
  clear hb18
  go_wp2_with fail
  refine (E2.out _).mono ?_
  rintro e w19 ⟨rfl, hb19⟩
  have HB := hid (HB.out.trans (hb19.mono HB.out.size))
  clear hb19
  go_wp2_with fail
  refine (D1.out _).mono ?_
  rintro e w20 ⟨rfl, hb20⟩
  have HB := hid (HB.out.trans (hb20.mono HB.out.size))
  clear hb20
  go_wp2_with fail
  refine (S1.out _).mono ?_
  rintro e w21 ⟨rfl, hb21⟩
  have HB := hid (HB.out.trans (hb21.mono HB.out.size))
  clear hb21
  go_wp2_with fail
  refine (E3.out _).mono ?_
  rintro e w22 ⟨rfl, hb22⟩
  have HB := hid (HB.out.trans (hb22.mono HB.out.size))
  clear hb22
  go_wp2_with fail
  refine (D2.out _).mono ?_
  rintro e w23 ⟨rfl, hb23⟩
  have HB := hid (HB.out.trans (hb23.mono HB.out.size))
  clear hb23
  go_wp2_with fail
  go_ret
  exact ⟨rfl, HB.out⟩
end Go.Proofs.Ytmcjljjagfpkkaa
