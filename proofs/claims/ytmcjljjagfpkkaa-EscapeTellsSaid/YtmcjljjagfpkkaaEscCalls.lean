/-
  The contracts of layer 6: Escape, Plain, Settled, Ahead. Conditions: the text has at most 20000 bytes.
-/
import Derived.Test.YtmcjljjagfpkkaaEscPlain
set_option linter.all false
namespace Go.Proofs.Ytmcjljjagfpkkaa
open Go.RowKit
theorem byte_isnt {c : UInt8} {n : Nat} (hn : n < 256) (h : c ≠ UInt8.ofNat n) : ((c.toNat : Int) == (n : Int)) = false := by
  rw [byte_eq c n hn]
  simpa using h
set_option maxHeartbeats 2000000 in
theorem escaped_calls (c : UInt8) (w : World) : Calls Try.prog 47 #[.int .u8 (c.toNat : Int)] w fun e w' => e = .returned (.string (strB (esc1 c))) ∧ w = w' := by
  cases h : six c with
  | false =>
    have he := (esc_no h).1
    have hn : ¬ (c = 38 ∨ c = 34 ∨ c = 39 ∨ c = 60 ∨ c = 62 ∨ c = 96) := by simpa [six] using h
    have k38 : ((c.toNat : Int) == 38) = false := byte_isnt (n := 38) (by decide) (fun e => hn (by rw [e]; decide))
    have k34 : ((c.toNat : Int) == 34) = false := byte_isnt (n := 34) (by decide) (fun e => hn (by rw [e]; decide))
    have k39 : ((c.toNat : Int) == 39) = false := byte_isnt (n := 39) (by decide) (fun e => hn (by rw [e]; decide))
    have k60 : ((c.toNat : Int) == 60) = false := byte_isnt (n := 60) (by decide) (fun e => hn (by rw [e]; decide))
    have k62 : ((c.toNat : Int) == 62) = false := byte_isnt (n := 62) (by decide) (fun e => hn (by rw [e]; decide))
    have k96 : ((c.toNat : Int) == 96) = false := byte_isnt (n := 96) (by decide) (fun e => hn (by rw [e]; decide))
    have HE := hid he
    clear hn h he
    go_enter Try.func47, Try.ntmps47
    go_wp2
    go_ret
    exact ⟨by rw [HE.out]; rfl, rfl⟩
  | true =>
    rcases six_cases h with rfl | rfl | rfl | rfl | rfl | rfl
    all_goals
      clear h
      go_enter Try.func47, Try.ntmps47
      go_wp2
      go_ret
      exact ⟨rfl, rfl⟩
theorem take_snocE (s : ByteArray) (k : Nat) (h : k < s.size) : s.data.toList.take (k + 1) = s.data.toList.take k ++ [s[k]] := by
  rw [List.take_succ_eq_append_getElem (by simpa using h)]
  rfl
theorem take_lenE (s : ByteArray) (k : Nat) (h : k ≤ s.size) : (s.data.toList.take k).length = k := by
  rw [List.length_take]; simp; omega
theorem take_allE (s : ByteArray) : s.data.toList.take s.size = s.data.toList := List.take_of_length_le (by simp)
set_option maxHeartbeats 2000000 in
theorem escape_calls (s : ByteArray) (w : World) (hs : s.size ≤ 20000) :
    Calls Try.prog 24 #[.string s] w fun e w' => e = .returned (.string (strB (escAll s.data.toList))) ∧ Below w.heap.size w w' := by
  have hb0 := Bld.fresh w
  have hbel0 : Below w.heap.size w (w.alloc (.cells #[.pointer none, .slice none 0 0] 47)) := (Below.refl _ _).alloc (Nat.le_refl _) _
  have HB0 := hid hb0
  have HBE := hid hbel0
  clear hb0 hbel0
  go_enter Try.func24, Try.ntmps24
  go_wp2_with fail
  go_loopw [8] (fun i wr => ∃ k : Nat, k ≤ s.size ∧ i = .int .i64 k ∧ Bld wr w.heap.size w.heap.size (escAll (s.data.toList.take k)) ∧ Below w.heap.size w wr) (fun i _ => s.size - (intOf i).toNat)
  case atStart => exact ⟨0, Nat.zero_le _, rfl, HB0.out, HBE.out⟩
  case round =>
    obtain ⟨k, hk, rfl, hbl, hbw⟩ := hrel
    have HBL := hid hbl
    have HBW := hid hbw
    clear hbl hbw
    by_cases hlt : k < s.size
    · have hn : Hid (escAll (s.data.toList.take (k + 1)) = escAll (s.data.toList.take k) ++ escB s[k]) := hid (by rw [take_snocE s k hlt, escAll_app]; simp [escAll])
      have hll : (escAll (s.data.toList.take k)).length ≤ 100000 := by have := (escAll_len (s.data.toList.take k)).2; rw [take_lenE s k hk] at this; omega
      have HESC := hid (fun w => escaped_calls s[k] w)
      have hx1 : (s[k]).toNat < 256 := s[k].toNat_lt
      have hemp := strB_empty (esc1 s[k])
      cases h6 : six s[k] with
      | false =>
        have he : (strB (esc1 s[k])).toList.isEmpty = true := by rw [hemp, (esc_no h6).1]; rfl
        have HN : Hid (escB s[k] = [s[k]]) := hid (esc_no h6).2
        have HW := hid (fun w1 hb hs1 => write_calls w1 w.heap.size w.heap.size (escAll (s.data.toList.take k)) s[k] rfl hb (by omega) hs1)
        generalize strB (esc1 s[k]) = x at *
        clear hemp h6
        go_wp2_with fail
        refine (HESC.out _).mono ?_
        rintro e w' ⟨rfl, rfl⟩
        go_wp2_with fail
        refine (HW.out _ HBL.out HBW.out.size).mono ?_
        rintro e w4 ⟨rfl, hb4, hbb4⟩
        have HB4 := hid hb4
        have HBB4 := hid (HBW.out.trans hbb4)
        clear hb4 hbb4
        go_wp2_with fail
        go_roundw
        case rel => exact ⟨k + 1, by omega, by go_num, by rw [hn.out, HN.out]; exact HB4.out, HBB4.out⟩
        case measure => simp [intOf]; omega
      | true =>
        have hne := (esc_six h6).2.1
        have he : (strB (esc1 s[k])).toList.isEmpty = false := by rw [hemp]; cases hq : esc1 s[k] with | nil => exact absurd hq hne | cons a b => rfl
        have HN : Hid (escB s[k] = esc1 s[k]) := hid (esc_six h6).1
        have hz : (strB (esc1 s[k])).size ≤ 5 := by rw [strB_size, (esc_six h6).2.2]; omega
        have HW := hid (fun w1 hb hs1 => writeS_calls w1 w.heap.size w.heap.size (escAll (s.data.toList.take k)) (strB (esc1 s[k])) hb (by omega) hs1)
        rw [strB_list] at HW
        generalize strB (esc1 s[k]) = x at *
        clear hemp h6 hne
        go_wp2_with fail
        refine (HESC.out _).mono ?_
        rintro e w' ⟨rfl, rfl⟩
        go_wp2_with fail
        refine (HW.out _ HBL.out HBW.out.size).mono ?_
        rintro e w4 ⟨rfl, hb4, hbb4⟩
        have HB4 := hid hb4
        have HBB4 := hid (HBW.out.trans hbb4)
        clear hb4 hbb4
        go_wp2_with fail
        go_roundw
        case rel => exact ⟨k + 1, by omega, by go_num, by rw [hn.out, HN.out]; exact HB4.out, HBB4.out⟩
        case measure => simp [intOf]; omega
    · obtain rfl : k = s.size := by omega
      have HF : Hid (escAll (s.data.toList.take s.size) = escAll s.data.toList) := hid (by rw [take_allE])
      go_wp2_with fail
      refine (bldString_calls _ _ _ _ HBL.out HBW.out.size).mono ?_
      rintro e w4 ⟨rfl, hb4⟩
      have HB4 := hid (HBW.out.trans hb4)
      clear hb4
      go_wp2_with fail
      go_ret
      exact ⟨by rw [← HF.out]; rfl, HB4.out⟩
theorem prefix_calls (s p : ByteArray) (b : Bool) (h : Lib.hasPrefix s.data.toList p.data.toList = b) (w : World) :
    Calls Try.prog 56 #[.string s, .string p] w fun e w' => e = .returned (.bool b) ∧ w = w' := by
  subst h
  refine (Try.strings_HasPrefix s p w).mono ?_
  rintro e w' ⟨rfl, rfl⟩
  exact ⟨rfl, rfl⟩
theorem any_step {P : List (List UInt8)} {f : List UInt8 → Bool} (k : Nat) (h : (P.take k).any f = false) (hk : k < P.length) (hf : f P[k] = false) : (P.take (k + 1)).any f = false := by
  rw [List.take_succ_eq_append_getElem hk, List.any_append, h]
  simp [hf]
set_option maxHeartbeats 4000000 in
set_option maxRecDepth 100000 in
theorem written_calls (s : ByteArray) (w : World) : Calls Try.prog 50 #[.string s] w fun e w' => e = .returned (.bool (writtenL s.data.toList)) ∧ Below w.heap.size w w' := by
  go_enter Try.func50, Try.ntmps50
  go_wp2_with fail
  go_loopw [6] (fun i wr => ∃ k : Nat, k ≤ 6 ∧ i = .int .i64 k ∧ Hid ((writtenT.take k).any (fun p => Lib.hasPrefix s.data.toList p) = false) ∧ Below w.heap.size w wr) (fun i _ => 6 - (intOf i).toNat)
  case atStart => exact ⟨0, by omega, rfl, hid rfl, Below.refl _ _⟩
  case round =>
    obtain ⟨k, hk, rfl, hany, hbw⟩ := hrel
    have HBW := hid hbw
    clear hbw
    by_cases hlt : k < 6
    · have hks : k = 0 ∨ k = 1 ∨ k = 2 ∨ k = 3 ∨ k = 4 ∨ k = 5 := by omega
      rcases hks with rfl | rfl | rfl | rfl | rfl | rfl
      · have hix : ∀ W, (Instr.index 61 (.agg #[.string ⟨#[38, 97, 109, 112, 59]⟩, .string ⟨#[38, 35, 51, 52, 59]⟩, .string ⟨#[38, 35, 51, 57, 59]⟩, .string ⟨#[38, 35, 54, 48, 59]⟩, .string ⟨#[38, 35, 54, 50, 59]⟩, .string ⟨#[38, 35, 57, 54, 59]⟩]) (.int .i64 0)).run Try.prog W = .ok (.string ⟨#[38, 97, 109, 112, 59]⟩) W := fun W => by kernel_rfl
        cases hp : Lib.hasPrefix s.data.toList [38, 97, 109, 112, 59]
        · have HNX : Hid ((writtenT.take 1).any (fun p => Lib.hasPrefix s.data.toList p) = false) := hid (any_step 0 hany.out (by decide) hp)
          have HC := hid (fun w => prefix_calls s ⟨#[38, 97, 109, 112, 59]⟩ false hp w)
          clear hp
          go_wp2_with fail
          refine (HC.out _).mono ?_
          rintro e w' ⟨rfl, rfl⟩
          go_wp2_with fail
          go_roundw
          case rel => exact ⟨1, by omega, by go_num, HNX, HBW.out⟩
          case measure => simp [intOf]
        · have HT : Hid (writtenL s.data.toList = true) := hid (by unfold writtenL; rw [List.any_eq_true]; exact ⟨[38, 97, 109, 112, 59], by decide, hp⟩)
          have HC := hid (fun w => prefix_calls s ⟨#[38, 97, 109, 112, 59]⟩ true hp w)
          clear hp
          go_wp2_with fail
          refine (HC.out _).mono ?_
          rintro e w' ⟨rfl, rfl⟩
          go_wp2_with fail
          go_ret
          exact ⟨by rw [HT.out]; rfl, HBW.out⟩
      · have hix : ∀ W, (Instr.index 61 (.agg #[.string ⟨#[38, 97, 109, 112, 59]⟩, .string ⟨#[38, 35, 51, 52, 59]⟩, .string ⟨#[38, 35, 51, 57, 59]⟩, .string ⟨#[38, 35, 54, 48, 59]⟩, .string ⟨#[38, 35, 54, 50, 59]⟩, .string ⟨#[38, 35, 57, 54, 59]⟩]) (.int .i64 1)).run Try.prog W = .ok (.string ⟨#[38, 35, 51, 52, 59]⟩) W := fun W => by kernel_rfl
        cases hp : Lib.hasPrefix s.data.toList [38, 35, 51, 52, 59]
        · have HNX : Hid ((writtenT.take 2).any (fun p => Lib.hasPrefix s.data.toList p) = false) := hid (any_step 1 hany.out (by decide) hp)
          have HC := hid (fun w => prefix_calls s ⟨#[38, 35, 51, 52, 59]⟩ false hp w)
          clear hp
          go_wp2_with fail
          refine (HC.out _).mono ?_
          rintro e w' ⟨rfl, rfl⟩
          go_wp2_with fail
          go_roundw
          case rel => exact ⟨2, by omega, by go_num, HNX, HBW.out⟩
          case measure => simp [intOf]
        · have HT : Hid (writtenL s.data.toList = true) := hid (by unfold writtenL; rw [List.any_eq_true]; exact ⟨[38, 35, 51, 52, 59], by decide, hp⟩)
          have HC := hid (fun w => prefix_calls s ⟨#[38, 35, 51, 52, 59]⟩ true hp w)
          clear hp
          go_wp2_with fail
          refine (HC.out _).mono ?_
          rintro e w' ⟨rfl, rfl⟩
          go_wp2_with fail
          go_ret
          exact ⟨by rw [HT.out]; rfl, HBW.out⟩
      · have hix : ∀ W, (Instr.index 61 (.agg #[.string ⟨#[38, 97, 109, 112, 59]⟩, .string ⟨#[38, 35, 51, 52, 59]⟩, .string ⟨#[38, 35, 51, 57, 59]⟩, .string ⟨#[38, 35, 54, 48, 59]⟩, .string ⟨#[38, 35, 54, 50, 59]⟩, .string ⟨#[38, 35, 57, 54, 59]⟩]) (.int .i64 2)).run Try.prog W = .ok (.string ⟨#[38, 35, 51, 57, 59]⟩) W := fun W => by kernel_rfl
        cases hp : Lib.hasPrefix s.data.toList [38, 35, 51, 57, 59]
        · have HNX : Hid ((writtenT.take 3).any (fun p => Lib.hasPrefix s.data.toList p) = false) := hid (any_step 2 hany.out (by decide) hp)
          have HC := hid (fun w => prefix_calls s ⟨#[38, 35, 51, 57, 59]⟩ false hp w)
          clear hp
          go_wp2_with fail
          refine (HC.out _).mono ?_
          rintro e w' ⟨rfl, rfl⟩
          go_wp2_with fail
          go_roundw
          case rel => exact ⟨3, by omega, by go_num, HNX, HBW.out⟩
          case measure => simp [intOf]
        · have HT : Hid (writtenL s.data.toList = true) := hid (by unfold writtenL; rw [List.any_eq_true]; exact ⟨[38, 35, 51, 57, 59], by decide, hp⟩)
          have HC := hid (fun w => prefix_calls s ⟨#[38, 35, 51, 57, 59]⟩ true hp w)
          clear hp
          go_wp2_with fail
          refine (HC.out _).mono ?_
          rintro e w' ⟨rfl, rfl⟩
          go_wp2_with fail
          go_ret
          exact ⟨by rw [HT.out]; rfl, HBW.out⟩
      · have hix : ∀ W, (Instr.index 61 (.agg #[.string ⟨#[38, 97, 109, 112, 59]⟩, .string ⟨#[38, 35, 51, 52, 59]⟩, .string ⟨#[38, 35, 51, 57, 59]⟩, .string ⟨#[38, 35, 54, 48, 59]⟩, .string ⟨#[38, 35, 54, 50, 59]⟩, .string ⟨#[38, 35, 57, 54, 59]⟩]) (.int .i64 3)).run Try.prog W = .ok (.string ⟨#[38, 35, 54, 48, 59]⟩) W := fun W => by kernel_rfl
        cases hp : Lib.hasPrefix s.data.toList [38, 35, 54, 48, 59]
        · have HNX : Hid ((writtenT.take 4).any (fun p => Lib.hasPrefix s.data.toList p) = false) := hid (any_step 3 hany.out (by decide) hp)
          have HC := hid (fun w => prefix_calls s ⟨#[38, 35, 54, 48, 59]⟩ false hp w)
          clear hp
          go_wp2_with fail
          refine (HC.out _).mono ?_
          rintro e w' ⟨rfl, rfl⟩
          go_wp2_with fail
          go_roundw
          case rel => exact ⟨4, by omega, by go_num, HNX, HBW.out⟩
          case measure => simp [intOf]
        · have HT : Hid (writtenL s.data.toList = true) := hid (by unfold writtenL; rw [List.any_eq_true]; exact ⟨[38, 35, 54, 48, 59], by decide, hp⟩)
          have HC := hid (fun w => prefix_calls s ⟨#[38, 35, 54, 48, 59]⟩ true hp w)
          clear hp
          go_wp2_with fail
          refine (HC.out _).mono ?_
          rintro e w' ⟨rfl, rfl⟩
          go_wp2_with fail
          go_ret
          exact ⟨by rw [HT.out]; rfl, HBW.out⟩
      · have hix : ∀ W, (Instr.index 61 (.agg #[.string ⟨#[38, 97, 109, 112, 59]⟩, .string ⟨#[38, 35, 51, 52, 59]⟩, .string ⟨#[38, 35, 51, 57, 59]⟩, .string ⟨#[38, 35, 54, 48, 59]⟩, .string ⟨#[38, 35, 54, 50, 59]⟩, .string ⟨#[38, 35, 57, 54, 59]⟩]) (.int .i64 4)).run Try.prog W = .ok (.string ⟨#[38, 35, 54, 50, 59]⟩) W := fun W => by kernel_rfl
        cases hp : Lib.hasPrefix s.data.toList [38, 35, 54, 50, 59]
        · have HNX : Hid ((writtenT.take 5).any (fun p => Lib.hasPrefix s.data.toList p) = false) := hid (any_step 4 hany.out (by decide) hp)
          have HC := hid (fun w => prefix_calls s ⟨#[38, 35, 54, 50, 59]⟩ false hp w)
          clear hp
          go_wp2_with fail
          refine (HC.out _).mono ?_
          rintro e w' ⟨rfl, rfl⟩
          go_wp2_with fail
          go_roundw
          case rel => exact ⟨5, by omega, by go_num, HNX, HBW.out⟩
          case measure => simp [intOf]
        · have HT : Hid (writtenL s.data.toList = true) := hid (by unfold writtenL; rw [List.any_eq_true]; exact ⟨[38, 35, 54, 50, 59], by decide, hp⟩)
          have HC := hid (fun w => prefix_calls s ⟨#[38, 35, 54, 50, 59]⟩ true hp w)
          clear hp
          go_wp2_with fail
          refine (HC.out _).mono ?_
          rintro e w' ⟨rfl, rfl⟩
          go_wp2_with fail
          go_ret
          exact ⟨by rw [HT.out]; rfl, HBW.out⟩
      · have hix : ∀ W, (Instr.index 61 (.agg #[.string ⟨#[38, 97, 109, 112, 59]⟩, .string ⟨#[38, 35, 51, 52, 59]⟩, .string ⟨#[38, 35, 51, 57, 59]⟩, .string ⟨#[38, 35, 54, 48, 59]⟩, .string ⟨#[38, 35, 54, 50, 59]⟩, .string ⟨#[38, 35, 57, 54, 59]⟩]) (.int .i64 5)).run Try.prog W = .ok (.string ⟨#[38, 35, 57, 54, 59]⟩) W := fun W => by kernel_rfl
        cases hp : Lib.hasPrefix s.data.toList [38, 35, 57, 54, 59]
        · have HNX : Hid ((writtenT.take 6).any (fun p => Lib.hasPrefix s.data.toList p) = false) := hid (any_step 5 hany.out (by decide) hp)
          have HC := hid (fun w => prefix_calls s ⟨#[38, 35, 57, 54, 59]⟩ false hp w)
          clear hp
          go_wp2_with fail
          refine (HC.out _).mono ?_
          rintro e w' ⟨rfl, rfl⟩
          go_wp2_with fail
          go_roundw
          case rel => exact ⟨6, by omega, by go_num, HNX, HBW.out⟩
          case measure => simp [intOf]
        · have HT : Hid (writtenL s.data.toList = true) := hid (by unfold writtenL; rw [List.any_eq_true]; exact ⟨[38, 35, 57, 54, 59], by decide, hp⟩)
          have HC := hid (fun w => prefix_calls s ⟨#[38, 35, 57, 54, 59]⟩ true hp w)
          clear hp
          go_wp2_with fail
          refine (HC.out _).mono ?_
          rintro e w' ⟨rfl, rfl⟩
          go_wp2_with fail
          go_ret
          exact ⟨by rw [HT.out]; rfl, HBW.out⟩
    · obtain rfl : k = 6 := by omega
      have HT := hid (show writtenL s.data.toList = false from hany.out)
      go_wp2_with fail
      go_ret
      exact ⟨by rw [HT.out]; rfl, HBW.out⟩
set_option maxHeartbeats 4000000 in
set_option maxRecDepth 100000 in
theorem plain_calls (s : ByteArray) (w : World) (hs : s.size ≤ 100000) : Calls Try.prog 26 #[.string s] w fun e w' => e = .returned (.bool (plainL s.data.toList)) ∧ Below w.heap.size w w' := by
  go_enter Try.func26, Try.ntmps26
  go_wp2_with fail
  go_loopw [7] (fun i wr => ∃ k : Nat, k ≤ s.size ∧ i = .int .i64 k ∧ Hid (plainL s.data.toList = plainL (s.data.toList.drop k)) ∧ Below w.heap.size w wr) (fun i _ => s.size - (intOf i).toNat)
  case atStart => exact ⟨0, Nat.zero_le _, rfl, hid rfl, Below.refl _ _⟩
  case round =>
    obtain ⟨k, hk, rfl, hpl, hbw⟩ := hrel
    have HBW := hid hbw
    clear hbw
    by_cases hlt : k < s.size
    · have hdr : s.data.toList.drop k = s[k] :: s.data.toList.drop (k + 1) := by rw [List.drop_eq_getElem_cons (by simpa using hlt)]; rfl
      have hp2 : plainL s.data.toList = (plainB (s.data.toList.drop k) && plainL (s.data.toList.drop (k + 1))) := by rw [hpl.out, hdr]; rfl
      have hpb : plainB (s.data.toList.drop k) = (fairB s[k] && (if s[k] = 38 then writtenL (s.data.toList.drop k) else decide (esc1 s[k] = []))) := by rw [hdr]; rfl
      have hex : s.extract k s.size = strB (s.data.toList.drop k) := by rw [ext_listE, List.take_of_length_le (by simp)]
      have h38 := byte_eq s[k] 38 (by decide)
      have hx1 : (s[k]).toNat < 256 := s[k].toNat_lt
      have HWR := hid (fun w => written_calls (strB (s.data.toList.drop k)) w)
      rw [strB_list] at HWR
      have HES := hid (fun w => escaped_calls s[k] w)
      have hemp := strB_empty (esc1 s[k])
      have HEX := hid hex
      clear hdr hex
      by_cases hf : 32 ≤ (s[k]).toNat ∧ (s[k]).toNat ≤ 126
      · have d1 : decide (((s[k]).toNat : Int) < 32) = false := decide_eq_false (by omega)
        have d2 : decide (126 < ((s[k]).toNat : Int)) = false := decide_eq_false (by omega)
        have hfb : fairB s[k] = true := by unfold fairB; rw [decide_eq_true hf.1, decide_eq_true hf.2]; rfl
        rw [hfb, Bool.true_and] at hpb
        clear hf hfb
        cases hc : (((s[k]).toNat : Int) == 38)
        · have hne : s[k] ≠ 38 := by
            have h' : (((s[k]).toNat : Int) == 38) = (s[k] == 38) := h38
            rw [hc] at h'
            intro e
            rw [e] at h'
            revert h'
            decide
          have hcn : (((s[k]).toNat : Int) != 38) = true := by simp [bne, hc]
          rw [if_neg hne] at hpb
          cases h6 : six s[k] with
          | false =>
            have he : (strB (esc1 s[k])).toList.isEmpty = true := by rw [hemp, (esc_no h6).1]; rfl
            have HNX : Hid (plainL s.data.toList = plainL (s.data.toList.drop (k + 1))) := hid (by rw [hp2, hpb, decide_eq_true (esc_no h6).1, Bool.true_and])
            generalize strB (esc1 s[k]) = x at *
            clear hp2 hpb h38 hne hemp h6 hpl
            go_wp2_with fail
            refine (HES.out _).mono ?_
            rintro e w' ⟨rfl, rfl⟩
            go_wp2_with fail
            go_roundw
            case rel => exact ⟨k + 1, by omega, by go_num, HNX, HBW.out⟩
            case measure => simp [intOf]; omega
          | true =>
            have hne6 := (esc_six h6).2.1
            have he : (strB (esc1 s[k])).toList.isEmpty = false := by rw [hemp]; cases hq : esc1 s[k] with | nil => exact absurd hq hne6 | cons a b => rfl
            have HF : Hid (plainL s.data.toList = false) := hid (by rw [hp2, hpb, decide_eq_false hne6, Bool.false_and])
            generalize strB (esc1 s[k]) = x at *
            clear hp2 hpb h38 hne hemp h6 hpl hne6
            go_wp2_with fail
            refine (HES.out _).mono ?_
            rintro e w' ⟨rfl, rfl⟩
            go_wp2_with fail
            go_ret
            exact ⟨by rw [HF.out]; rfl, HBW.out⟩
        · have heq : s[k] = 38 := by
            have h' : (((s[k]).toNat : Int) == 38) = (s[k] == 38) := h38
            rw [hc] at h'
            simpa using h'.symm
          have hcn : (((s[k]).toNat : Int) != 38) = false := by simp [bne, hc]
          rw [if_pos heq] at hpb
          have hex := HEX.out
          cases hw : writtenL (s.data.toList.drop k)
          · have HF : Hid (plainL s.data.toList = false) := hid (by rw [hp2, hpb, hw, Bool.false_and])
            have HWF : Hid (∀ w, Calls Try.prog 50 #[.string (strB (s.data.toList.drop k))] w fun e w' => e = .returned (.bool false) ∧ Below w.heap.size w w') := hid (fun w => by have := HWR.out w; rwa [hw] at this)
            clear hp2 hpb h38 hemp hpl heq hw
            go_wp2_with fail
            refine (HWF.out _).mono ?_
            rintro e w4 ⟨rfl, hb4⟩
            have HB4 := hid (HBW.out.trans (hb4.mono HBW.out.size))
            clear hb4
            go_wp2_with fail
            go_ret
            exact ⟨by rw [HF.out]; rfl, HB4.out⟩
          · have HNX : Hid (plainL s.data.toList = plainL (s.data.toList.drop (k + 1))) := hid (by rw [hp2, hpb, hw, Bool.true_and])
            have HWT : Hid (∀ w, Calls Try.prog 50 #[.string (strB (s.data.toList.drop k))] w fun e w' => e = .returned (.bool true) ∧ Below w.heap.size w w') := hid (fun w => by have := HWR.out w; rwa [hw] at this)
            clear hp2 hpb h38 hemp hpl heq hw
            go_wp2_with fail
            refine (HWT.out _).mono ?_
            rintro e w4 ⟨rfl, hb4⟩
            have HB4 := hid (HBW.out.trans (hb4.mono HBW.out.size))
            clear hb4 hex
            go_wp2_with fail
            go_roundw
            case rel => exact ⟨k + 1, by omega, by go_num, HNX, HB4.out⟩
            case measure => simp [intOf]; omega
      · have hfb : fairB s[k] = false := by
          unfold fairB
          rw [Bool.and_eq_false_iff, decide_eq_false_iff_not, decide_eq_false_iff_not]
          omega
        have HF : Hid (plainL s.data.toList = false) := hid (by rw [hp2, hpb, hfb]; simp)
        clear hp2 hpb h38 hemp hpl hfb
        by_cases h32 : (s[k]).toNat < 32
        · have d1 : decide (((s[k]).toNat : Int) < 32) = true := decide_eq_true (by omega)
          clear hf h32
          go_wp2_with fail
          go_ret
          exact ⟨by rw [HF.out]; rfl, HBW.out⟩
        · have d1 : decide (((s[k]).toNat : Int) < 32) = false := decide_eq_false (by omega)
          have d2 : decide (126 < ((s[k]).toNat : Int)) = true := decide_eq_true (by omega)
          clear hf h32
          go_wp2_with fail
          go_ret
          exact ⟨by rw [HF.out]; rfl, HBW.out⟩
    · obtain rfl : k = s.size := by omega
      have HT : Hid (plainL s.data.toList = true) := hid (by rw [hpl.out, List.drop_eq_nil_of_le (by simp)]; rfl)
      clear hpl
      go_wp2_with fail
      go_ret
      exact ⟨by rw [HT.out]; rfl, HBW.out⟩
theorem settled_calls (s : ByteArray) (b : Bool) (hb : (escAll (decE s.data.toList) == s.data.toList) = b) (w : World) (hs : s.size ≤ 20000) :
    Calls Try.prog 28 #[.string s] w fun e w' => e = .returned (.bool b) ∧ Below w.heap.size w w' := by
  have D := hid (fun w => decodeE_calls s w (by omega))
  have hz := decE_len s.data.toList
  have E := hid (fun w => escape_calls (strB (decE s.data.toList)) w (by rw [strB_size]; simp at hz; omega))
  rw [strB_list] at E
  have HK : Hid (((strB (escAll (decE s.data.toList))).toList == s.toList) = b) := hid (by rw [ByteArray.toList_eq, ByteArray.toList_eq, strB_list]; exact hb)
  clear hb hz
  generalize strB (escAll (decE s.data.toList)) = y at *
  generalize strB (decE s.data.toList) = x at *
  go_enter Try.func28, Try.ntmps28
  go_wp2_with fail
  refine (D.out _).mono ?_
  rintro e w1 ⟨rfl, hb1⟩
  have HB := hid hb1
  clear hb1
  go_wp2_with fail
  refine (E.out _).mono ?_
  rintro e w2 ⟨rfl, hb2⟩
  have HB := hid (HB.out.trans (hb2.mono HB.out.size))
  clear hb2
  go_wp2_with fail
  go_ret
  exact ⟨ret_bool HK.out, HB.out⟩
theorem ahead_calls (s : ByteArray) (c : UInt8) (w : World) : Calls Try.prog 30 #[.string s, .int .u8 (c.toNat : Int)] w fun e w' => e = .returned (.string (strB (aheadL c s.data.toList))) ∧ w = w' := by
  rcases index_find c s.data.toList with ⟨hi, hno⟩ | ⟨a, r, hr, ha, hi⟩
  · have HI := hid (fun w => index_calls s c _ rfl (-1) hi w)
    have HF : Hid (strB (aheadL c s.data.toList) = s) := hid (by rw [ahead_none hno, strB_of])
    clear hi hno
    go_enter Try.func30, Try.ntmps30
    go_wp2_with fail
    refine (HI.out _).mono ?_
    rintro e w' ⟨rfl, rfl⟩
    go_wp2_with fail
    go_ret
    exact ⟨by rw [HF.out]; rfl, rfl⟩
  · have HI := hid (fun w => index_calls s c _ rfl (a.length : Int) hi w)
    have hle : a.length ≤ s.size := by
      have := congrArg List.length hr
      simp at this
      omega
    have hex : s.extract 0 a.length = strB a := by rw [ext_listE, hr]; simp
    have HF : Hid (strB (aheadL c s.data.toList) = strB a) := hid (by rw [hr, ahead_cut ha])
    clear hi ha hr
    go_enter Try.func30, Try.ntmps30
    go_wp2_with fail
    refine (HI.out _).mono ?_
    rintro e w' ⟨rfl, rfl⟩
    go_wp2_with fail
    go_ret
    exact ⟨by rw [HF.out]; rfl, rfl⟩
end Go.Proofs.Ytmcjljjagfpkkaa
