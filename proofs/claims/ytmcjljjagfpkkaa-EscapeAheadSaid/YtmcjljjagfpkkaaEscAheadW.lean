/-
  The walk of EscapeAhead. Conditions: the arguments are as they can be handed over.
-/
import Derived.Test.YtmcjljjagfpkkaaEscBackW
set_option linter.all false
namespace Go.Proofs.Ytmcjljjagfpkkaa
open Go.RowKit
theorem take_split {q : UInt8} {l x : List UInt8} (h : l = x ∨ ∃ r, l = x ++ q :: r) : l.take x.length = x := by
  rcases h with h | ⟨r, h⟩
  · rw [h]; exact List.take_length
  · rw [h]; exact List.take_left
theorem ahead_split (q : UInt8) (l : List UInt8) : (∀ x ∈ aheadL q l, x ≠ q) ∧ (l = aheadL q l ∨ ∃ r, l = aheadL q l ++ q :: r) := by
  rcases index_find q l with ⟨_, hno⟩ | ⟨a, r, hr, ha, _⟩
  · rw [ahead_none hno]
    exact ⟨hno, .inl rfl⟩
  · rw [hr, ahead_cut ha]
    exact ⟨ha, .inr ⟨r, rfl⟩⟩
set_option maxHeartbeats 8000000 in
set_option maxRecDepth 100000 in
theorem escapeAhead_walk (a b : ByteArray) (n : Int) (w : World) (ha : a.size ≤ maxLen) (hb : b.size ≤ maxLen) (hn : (Lit.int .u8 n).wf = true) :
    Calls Try.prog 11 #[.string a, .string b, .int .u8 n] w fun e w' => e = .returned (.bool true) ∧ Below w.heap.size w w' := by
  obtain ⟨c, rfl⟩ := u8_of hn
  unfold maxLen at ha hb
  clear hn
  go_enter Try.func11, Try.ntmps11
  go_wp2_with fail
  refine (escSmall_calls _).mono ?_
  rintro e w1 ⟨rfl, hb1⟩
  have HB := hid hb1
  clear hb1
  by_cases ha3 : a.size ≤ 300
  rotate_left
  · go_wp2_with fail
    go_ret
    exact ⟨rfl, HB.out⟩
  by_cases hb3 : b.size ≤ 300
  rotate_left
  · go_wp2_with fail
    go_ret
    exact ⟨rfl, HB.out⟩
  obtain ⟨hno, hsp⟩ := ahead_split c a.data.toList
  have haz : a.data.toList.length = a.size := by simp
  have A1 := hid (fun w => ahead_of a _ c _ rfl rfl w)
  have A2 := hid (fun w => ahead_of (strB (aheadL c a.data.toList)) (strB (aheadL c a.data.toList)) c _ rfl (by rw [strB_list, ahead_none hno]) w)
  have A3 := hid (fun w => ahead_of (a ++ ⟨#[c]⟩ ++ b) (strB (aheadL c a.data.toList)) c _ rfl (by
    rw [list_app, list_app]
    show strB (aheadL c (a.data.toList ++ [c] ++ b.data.toList)) = _
    congr 1
    rcases hsp with h | ⟨r, h⟩
    · rw [← h]
      rw [← h] at hno
      rw [List.append_assoc]
      exact ahead_cut hno
    · have e : a.data.toList ++ [c] ++ b.data.toList = aheadL c a.data.toList ++ c :: (r ++ [c] ++ b.data.toList) := by
        conv => lhs; rw [h]
        simp
      rw [e]
      exact ahead_cut hno) w)
  have hxl : (strB (aheadL c a.data.toList)).data.toList = aheadL c a.data.toList := strB_list _
  have hxz : (strB (aheadL c a.data.toList)).size = (aheadL c a.data.toList).length := strB_size _
  have hle : (aheadL c a.data.toList).length ≤ a.size := by
    rcases hsp with h | ⟨r, h⟩
    · have := congrArg List.length h; omega
    · have := congrArg List.length h; simp at this; omega
  have hcut : a.extract 0 (aheadL c a.data.toList).length = strB (aheadL c a.data.toList) := by
    rw [ext_listE, Nat.sub_zero, List.drop_zero, take_split hsp]
  have hat : ∀ h : (aheadL c a.data.toList).length < a.size, a[(aheadL c a.data.toList).length] = c := fun h => by
    have e : a[(aheadL c a.data.toList).length] = a.data.toList[(aheadL c a.data.toList).length]'(by rw [haz]; exact h) := by simp; rfl
    rw [e]
    rcases hsp with h' | ⟨r, h'⟩
    · have := congrArg List.length h'; omega
    · have hg : a.data.toList[(aheadL c a.data.toList).length]? = some c := by
        conv => lhs; lhs; rw [h']
        simp
      rw [List.getElem?_eq_getElem (by rw [haz]; exact h)] at hg
      simpa using hg
  rw [← hxz] at hle hcut hat
  rw [← hxl] at hno
  have hd : ∀ W : World, (convert 34 9 (.slice (some ⟨W.heap.size, 0, none⟩) 1 1)).run Try.prog (W.alloc (.cells #[.int .u8 (c.toNat : Int)] 5)) = .ok (.string ⟨#[c]⟩) (W.alloc (.cells #[.int .u8 (c.toNat : Int)] 5)) := fun W => lit_conv W [c]
  have z1 : (⟨#[c]⟩ : ByteArray).size = 1 := rfl
  generalize strB (aheadL c a.data.toList) = x at *
  have HNO := hid hno
  have HCUT := hid hcut
  have HAT := hid hat
  clear hno hsp haz hxl hxz hcut hat
  go_wp2_with fail
  refine (A1.out _).mono ?_
  rintro e w' ⟨rfl, rfl⟩
  go_wp2_with fail
  go_loopw [9] (fun i wr => ∃ k : Nat, k ≤ x.size ∧ i = .int .i64 k ∧ Below w1.heap.size w1 wr) (fun i _ => x.size - (intOf i).toNat)
  case atStart => exact ⟨0, Nat.zero_le _, rfl, Below.refl _ _⟩
  case round =>
    obtain ⟨k, hk, rfl, hbw⟩ := hrel
    have HBW := hid hbw
    clear hbw
    by_cases hlt : k < x.size
    · have hne : x[k] ≠ c := HNO.out x[k] (by have : x[k] = x.data.toList[k]'(by simpa using hlt) := by simp; rfl
                                              rw [this]; exact List.getElem_mem _)
      have hb0 : (((x[k]).toNat : Int) == (c.toNat : Int)) = false := by
        rw [beq_eq_false_iff_ne]
        intro e
        exact hne (by rw [← UInt8.toNat_inj]; omega)
      clear hne
      go_wp2_with fail
      go_roundw
      case rel => exact ⟨k + 1, by omega, by go_num, HBW.out⟩
      case measure => simp [intOf]; omega
    · obtain rfl : k = x.size := by omega
      have HB := hid (HB.out.trans (HBW.out.mono HB.out.size))
      have hcut := HCUT.out
      by_cases hl : x.size < a.size
      · have hq : a[x.size] = c := HAT.out hl
        have hqb : (((a[x.size]).toNat : Int) != (c.toNat : Int)) = false := by rw [hq]; simp
        clear hq
        go_wp2_with fail
        refine (A3.out _).mono ?_
        rintro e w' ⟨rfl, rfl⟩
        go_wp2_with fail
        refine (A2.out _).mono ?_
        rintro e w' ⟨rfl, rfl⟩
        go_wp2_with fail
        go_ret
        exact ⟨rfl, HB.out.trans ((Below.refl _ _).alloc HB.out.size _)⟩
      · have hge : a.size ≤ x.size := by omega
        go_wp2_with fail
        refine (A3.out _).mono ?_
        rintro e w' ⟨rfl, rfl⟩
        go_wp2_with fail
        refine (A2.out _).mono ?_
        rintro e w' ⟨rfl, rfl⟩
        go_wp2_with fail
        go_ret
        exact ⟨rfl, HB.out.trans ((Below.refl _ _).alloc HB.out.size _)⟩
end Go.Proofs.Ytmcjljjagfpkkaa
