/-
  The contracts of Split, the program's and the document's. Conditions: the text has at most 100000 bytes.
-/
import Derived.Test.YtmkgjleojfggcaaSegCut
import Derived.Test.YtmkgjleojfggcaaRecConst
import Derived.Test.YtmkgjleojfggcaaRecDot
set_option linter.all false
namespace Go.Proofs.Ytmkgjleojfggcaa
open Go.RowKit
def strB (l : List UInt8) : ByteArray := ⟨l.toArray⟩
theorem strB_list (l : List UInt8) : (strB l).data.toList = l := by simp [strB]
theorem strB_of (s : ByteArray) : strB s.data.toList = s := by
  obtain ⟨a⟩ := s
  simp [strB]
theorem strB_ext (s : ByteArray) (i j : Nat) : s.extract i j = strB ((s.data.toList.drop i).take (j - i)) := by
  rw [← ext_list, strB_of]
theorem strB_inj {a b : List UInt8} (h : strB a = strB b) : a = b := by
  have := congrArg (fun s : ByteArray => s.data.toList) h
  simpa [strB] using this
theorem byte_is (c : UInt8) (n : Nat) (h : n < 256) : ((c.toNat : Int) == (n : Int)) = (c == UInt8.ofNat n) := by
  rw [Bool.eq_iff_iff]
  simp only [beq_iff_eq]
  constructor
  · intro e
    have : c.toNat = n := by omega
    rw [← this]; simp
  · intro e
    subst e
    simp [Nat.mod_eq_of_lt h]
theorem isSl_eq (sp : Bool) (c : UInt8) : isSl sp c = (((c.toNat : Int) == 47) || (sp && ((c.toNat : Int) == 92))) := by
  have h1 := byte_is c 47 (by decide)
  have h2 := byte_is c 92 (by decide)
  have e1 : ((c.toNat : Int) == 47) = (c == 47) := h1
  have e2 : ((c.toNat : Int) == 92) = (c == 92) := h2
  rw [e1, e2]; rfl
/-- what stands done, and what is open, behind k bytes -/
def CutAt (sp : Bool) (l : List UInt8) (k f : Nat) (D : List (List UInt8)) : Prop := segs sp (l.take k) = D ++ [(l.take k).drop f]
theorem CutAt.start (sp : Bool) (l : List UInt8) : CutAt sp l 0 0 [] := rfl
theorem CutAt.cut {sp : Bool} {l : List UInt8} {k f : Nat} {D : List (List UInt8)} (h : CutAt sp l k f D) (hk : k < l.length) (hs : isSl sp l[k] = true) : CutAt sp l (k + 1) (k + 1) (D ++ [(l.take k).drop f]) := by
  unfold CutAt at h ⊢
  rw [List.take_succ_eq_append_getElem hk, segs_snoc sp _ _ D _ h, if_pos hs]
  have : (l.take k ++ [l[k]]).drop (k + 1) = [] := by
    apply List.drop_eq_nil_of_le
    simp; omega
  rw [this]
  simp
theorem CutAt.go {sp : Bool} {l : List UInt8} {k f : Nat} {D : List (List UInt8)} (h : CutAt sp l k f D) (hk : k < l.length) (hf : f ≤ k) (hs : isSl sp l[k] = false) : CutAt sp l (k + 1) f D := by
  unfold CutAt at h ⊢
  rw [List.take_succ_eq_append_getElem hk, segs_snoc sp _ _ D _ h, if_neg (by rw [hs]; decide)]
  rw [List.drop_append_of_le_length (by rw [List.length_take]; omega)]
theorem CutAt.all {sp : Bool} {l : List UInt8} {f : Nat} {D : List (List UInt8)} (h : CutAt sp l l.length f D) : segs sp l = D ++ [l.drop f] := by
  unfold CutAt at h
  rwa [List.take_length] at h
theorem cut_piece (s : ByteArray) (f k : Nat) (h : k ≤ s.size) : s.extract f k = strB ((s.data.toList.take k).drop f) := by
  rw [strB_ext, List.drop_take]
theorem cut_rest (s : ByteArray) (f : Nat) : s.extract f s.size = strB (s.data.toList.drop f) := by
  have := ext_drop s f
  rw [← this, strB_of]
set_option maxHeartbeats 4000000 in
set_option maxRecDepth 100000 in
theorem split_calls (s : ByteArray) (sp : Bool) (w : World) (hs : s.size ≤ 100000) :
    Calls Try.prog 55 #[.string s, .bool sp] w fun e w' => ∃ v, e = .returned v ∧ OwnT w' w.heap.size v ((segs sp s.data.toList).map strB) ∧ Below w.heap.size w w' := by
  have hlen : Hid (s.data.toList.length = s.size) := hid (by simp)
  go_enter Try.func55, Try.ntmps55
  go_wp2_with fail
  go_loopw [5, 6, 7] (fun v fr i wr => ∃ (k f : Nat) (D : List (List UInt8)), k ≤ s.size ∧ f ≤ k ∧ i = .int .i64 k ∧ fr = .int .i64 f ∧ CutAt sp s.data.toList k f D ∧ D.length ≤ k ∧ OwnT wr w.heap.size v (D.map strB) ∧ Below w.heap.size w wr) (fun _ _ i _ => s.size - (intOf i).toNat)
  case atStart => exact ⟨0, 0, [], Nat.zero_le _, Nat.le_refl _, rfl, rfl, CutAt.start _ _, Nat.le_refl _, OwnT.nil _ _, Below.refl _ _⟩
  case round =>
    obtain ⟨k, f, D, hk, hf, rfl, rfl, hcut, hD, hown, hb⟩ := hrel
    obtain ⟨Av, cv, hv, _⟩ := hown.read.len
    rw [List.length_map] at hv
    subst hv
    have HC := hid hcut
    have HO := hid hown
    have HB := hid hb
    clear hcut hown hb
    by_cases hlt : k < s.size
    · have hkl : k < s.data.toList.length := by rw [hlen.out]; exact hlt
      have hbyte : s[k] = s.data.toList[k] := by simp; rfl
      have hsl := isSl_eq sp s[k]
      cases h1 : (((s[k]).toNat : Int) == 47)
      · cases sp
        · have HN := hid (HC.out.go hkl hf (by rw [← hbyte, hsl, h1]; rfl))
          clear hsl hbyte
          go_wp2_with fail
          go_roundw
          case rel => exact ⟨k + 1, f, D, by omega, by omega, by go_num, rfl, HN.out, by omega, HO.out, HB.out⟩
          case measure => simp [intOf]; omega
        · cases h2 : (((s[k]).toNat : Int) == 92)
          · have HN := hid (HC.out.go hkl hf (by rw [← hbyte, hsl, h1, h2]; rfl))
            clear hsl hbyte
            go_wp2_with fail
            go_roundw
            case rel => exact ⟨k + 1, f, D, by omega, by omega, by go_num, rfl, HN.out, by omega, HO.out, HB.out⟩
            case measure => simp [intOf]; omega
          · have HN := hid (HC.out.cut hkl (by rw [← hbyte, hsl, h1, h2]; rfl))
            have HP := hid (cut_piece s f k (by omega))
            clear hsl hbyte
            go_wp2_with (at_builtin; refine wpList_append_texts rfl _ _ rfl rfl (HO.out.below (alloc_below wr _)) rfl (ReadT.one wr _) (by simp <;> omega) (Nat.le_trans HB.out.size (by simp)) ?_; intro v2 w2 ho2 hb2; have hb2 := hid (HB.out.trans (((Below.refl w.heap.size wr).alloc HB.out.size _).trans hb2)))
            go_roundw
            case rel => exact ⟨k + 1, k + 1, D ++ [(s.data.toList.take k).drop f], by omega, by omega, by go_num, by go_num, HN.out, by simp; omega, by rw [List.map_append, List.map_cons, List.map_nil, ← HP.out]; exact ho2, hb2.out⟩
            case measure => simp [intOf]; omega
      · have HN := hid (HC.out.cut hkl (by rw [← hbyte, hsl, h1]; rfl))
        have HP := hid (cut_piece s f k (by omega))
        clear hsl hbyte
        go_wp2_with (at_builtin; refine wpList_append_texts rfl _ _ rfl rfl (HO.out.below (alloc_below wr _)) rfl (ReadT.one wr _) (by simp <;> omega) (Nat.le_trans HB.out.size (by simp)) ?_; intro v2 w2 ho2 hb2; have hb2 := hid (HB.out.trans (((Below.refl w.heap.size wr).alloc HB.out.size _).trans hb2)))
        go_roundw
        case rel => exact ⟨k + 1, k + 1, D ++ [(s.data.toList.take k).drop f], by omega, by omega, by go_num, by go_num, HN.out, by simp; omega, by rw [List.map_append, List.map_cons, List.map_nil, ← HP.out]; exact ho2, hb2.out⟩
        case measure => simp [intOf]; omega
    · obtain rfl : k = s.size := by omega
      have HA := hid (CutAt.all (by have := HC.out; rwa [← hlen.out] at this))
      have HP := hid (cut_rest s f)
      go_wp2_with (at_builtin; refine wpList_append_texts rfl _ _ rfl rfl (HO.out.below (alloc_below wr _)) rfl (ReadT.one wr _) (by simp <;> omega) (Nat.le_trans HB.out.size (by simp)) ?_; intro v2 w2 ho2 hb2; have hb2 := hid (HB.out.trans (((Below.refl w.heap.size wr).alloc HB.out.size _).trans hb2)))
      go_ret
      exact ⟨_, rfl, by rw [HA.out, List.map_append, List.map_cons, List.map_nil, ← HP.out]; exact ho2, hb2.out⟩
end Go.Proofs.Ytmkgjleojfggcaa
