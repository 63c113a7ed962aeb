/-
  The contract of the document's Split. Conditions: the text has at most 100000 bytes.
-/
import Derived.Test.YtmkgjleojfggcaaSegSplit
set_option linter.all false
namespace Go.Proofs.Ytmkgjleojfggcaa
open Go.RowKit
set_option maxHeartbeats 4000000 in
set_option maxRecDepth 100000 in
theorem refSplit_calls (s : ByteArray) (sp : Bool) (w : World) (hs : s.size ≤ 100000) :
    Calls Try.prog 56 #[.string s, .bool sp] w fun e w' => ∃ v, e = .returned v ∧ OwnT w' w.heap.size v ((segs sp s.data.toList).map strB) ∧ Below w.heap.size w w' := by
  have hlen : Hid (s.data.toList.length = s.size) := hid (by simp)
  go_enter Try.func56, Try.ntmps56
  go_wp2_with fail
  go_loopw [5, 6, 7] (fun v fr i wr => ∃ (k f : Nat) (D : List (List UInt8)), k ≤ s.size + 1 ∧ f ≤ k ∧ i = .int .i64 k ∧ fr = .int .i64 f ∧ (k ≤ s.size → CutAt sp s.data.toList k f D) ∧ (k = s.size + 1 → D = segs sp s.data.toList) ∧ D.length ≤ k ∧ OwnT wr w.heap.size v (D.map strB) ∧ Below w.heap.size w wr) (fun _ _ i _ => s.size + 1 - (intOf i).toNat)
  case atStart => exact ⟨0, 0, [], Nat.zero_le _, Nat.le_refl _, rfl, rfl, (fun _ => CutAt.start _ _), (fun h => by omega), Nat.le_refl _, OwnT.nil _ _, Below.refl _ _⟩
  case round =>
    obtain ⟨k, f, D, hk, hf, rfl, rfl, hcut, hall, hD, hown, hb⟩ := hrel
    have HALL := hid hall
    clear hall
    obtain ⟨Av, cv, hv, _⟩ := hown.read.len
    rw [List.length_map] at hv
    subst hv
    have HC := hid hcut
    have HO := hid hown
    have HB := hid hb
    clear hcut hown hb
    by_cases hlt : k < s.size
    · have hkl : k < s.data.toList.length := by rw [hlen.out]; exact hlt
      have hbyte : s[k] = s.data.toList[k] := by simp; rfl
      have hsl := isSl_eq sp s[k]
      cases h1 : (((s[k]).toNat : Int) == 47)
      · cases sp
        · have HN := hid ((HC.out (by omega)).go hkl hf (by rw [← hbyte, hsl, h1]; rfl))
          clear hsl hbyte
          go_wp2_with fail
          go_roundw
          case rel => exact ⟨k + 1, f, D, by omega, by omega, by go_num, rfl, (fun _ => HN.out), (fun h => by omega), by omega, HO.out, HB.out⟩
          case measure => simp [intOf]; omega
        · cases h2 : (((s[k]).toNat : Int) == 92)
          · have HN := hid ((HC.out (by omega)).go hkl hf (by rw [← hbyte, hsl, h1, h2]; rfl))
            clear hsl hbyte
            go_wp2_with fail
            go_roundw
            case rel => exact ⟨k + 1, f, D, by omega, by omega, by go_num, rfl, (fun _ => HN.out), (fun h => by omega), by omega, HO.out, HB.out⟩
            case measure => simp [intOf]; omega
          · have HN := hid ((HC.out (by omega)).cut hkl (by rw [← hbyte, hsl, h1, h2]; rfl))
            have HP := hid (cut_piece s f k (by omega))
            clear hsl hbyte
            go_wp2_with (at_builtin; refine wpList_append_texts rfl _ _ rfl rfl (HO.out.below (alloc_below wr _)) rfl (ReadT.one wr _) (by simp <;> omega) (Nat.le_trans HB.out.size (by simp)) ?_; intro v2 w2 ho2 hb2; have hb2 := hid (HB.out.trans (((Below.refl w.heap.size wr).alloc HB.out.size _).trans hb2)))
            go_roundw
            case rel => exact ⟨k + 1, k + 1, D ++ [(s.data.toList.take k).drop f], by omega, by omega, by go_num, by go_num, (fun _ => HN.out), (fun h => by omega), by simp; omega, by rw [List.map_append, List.map_cons, List.map_nil, ← HP.out]; exact ho2, hb2.out⟩
            case measure => simp [intOf]; omega
      · have HN := hid ((HC.out (by omega)).cut hkl (by rw [← hbyte, hsl, h1]; rfl))
        have HP := hid (cut_piece s f k (by omega))
        clear hsl hbyte
        go_wp2_with (at_builtin; refine wpList_append_texts rfl _ _ rfl rfl (HO.out.below (alloc_below wr _)) rfl (ReadT.one wr _) (by simp <;> omega) (Nat.le_trans HB.out.size (by simp)) ?_; intro v2 w2 ho2 hb2; have hb2 := hid (HB.out.trans (((Below.refl w.heap.size wr).alloc HB.out.size _).trans hb2)))
        go_roundw
        case rel => exact ⟨k + 1, k + 1, D ++ [(s.data.toList.take k).drop f], by omega, by omega, by go_num, by go_num, (fun _ => HN.out), (fun h => by omega), by simp; omega, by rw [List.map_append, List.map_cons, List.map_nil, ← HP.out]; exact ho2, hb2.out⟩
        case measure => simp [intOf]; omega
    · by_cases hq : k = s.size
      · obtain rfl : k = s.size := hq
        have HA := hid (CutAt.all (by have := HC.out (Nat.le_refl _); rwa [← hlen.out] at this))
        have HP := hid (cut_rest s f)
        go_wp2_with (at_builtin; refine wpList_append_texts rfl _ _ rfl rfl (HO.out.below (alloc_below wr _)) rfl (ReadT.one wr _) (by simp <;> omega) (Nat.le_trans HB.out.size (by simp)) ?_; intro v2 w2 ho2 hb2; have hb2 := hid (HB.out.trans (((Below.refl w.heap.size wr).alloc HB.out.size _).trans hb2)))
        go_roundw
        case rel => exact ⟨s.size + 1, s.size + 1, D ++ [s.data.toList.drop f], by omega, by omega, by go_num, by go_num, (fun h => by omega), (fun _ => HA.out.symm), by simp; omega, by rw [List.map_append, List.map_cons, List.map_nil, ← HP.out]; exact ho2, hb2.out⟩
        case measure => simp [intOf]
      · obtain rfl : k = s.size + 1 := by omega
        have HD := hid (HALL.out rfl)
        go_wp2_with fail
        go_ret
        exact ⟨_, rfl, by rw [← HD.out]; exact HO.out, HB.out⟩
end Go.Proofs.Ytmkgjleojfggcaa
