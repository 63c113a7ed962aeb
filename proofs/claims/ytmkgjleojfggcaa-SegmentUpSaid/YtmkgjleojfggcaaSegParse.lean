/-
  The contract of Parse. Conditions: the path ahead has at most 1000 pieces, the text at most 5000 bytes.
-/
import Derived.Test.YtmkgjleojfggcaaSegWays
import Derived.Test.YtmkgjleojfggcaaPctEnc
set_option linter.all false
namespace Go.Proofs.Ytmkgjleojfggcaa
open Go.RowKit
theorem encode_strB (p : List UInt8) (hp : p.length ≤ 5000) (w : World) :
    Calls Try.prog 45 #[.string (strB p), .int .i64 4] w fun e w' => e = .returned (.string (strB (encL 4 p))) ∧ Below w.heap.size w w' := by
  have := encode_calls (strB p) 4 w (by simpa [strB, ByteArray.size] using hp)
  rw [strB_list] at this
  exact this
theorem strB_size (p : List UInt8) : (strB p).size = p.length := by simp [strB, ByteArray.size]
theorem dots_strB (p : List UInt8) (b : Bool) (hb : dotsL p = b) (hs : p.length ≤ 5000) (w : World) :
    Calls Try.prog 33 #[.string (strB p)] w fun e w' => e = .returned (.bool b) ∧ Below w.heap.size w w' := dots_const _ b (by rw [strB_list]; exact hb) (by rw [strB_size]; omega) w
theorem dot_strB (p : List UInt8) (b : Bool) (hb : dotL p = b) (hs : p.length ≤ 5000) (w : World) :
    Calls Try.prog 31 #[.string (strB p)] w fun e w' => e = .returned (.bool b) ∧ Below w.heap.size w w' := dot_const _ b (by rw [strB_list]; exact hb) (by rw [strB_size]; omega) w
theorem drive_strB (p : List UInt8) (b : Bool) (hb : driveL p = b) (w : World) :
    Calls Try.prog 25 #[.string (strB p)] w fun e w' => e = .returned (.bool b) ∧ w = w' := drive_const _ b (by rw [strB_list]; exact hb) w
theorem map_nil_one (L : List (List UInt8)) : (L ++ [[]]).map strB = L.map strB ++ [⟨#[]⟩] := by simp [strB]
theorem map_one (L : List (List UInt8)) (p : List UInt8) : (L ++ [p]).map strB = L.map strB ++ [strB p] := by simp
theorem drive_len {p : List UInt8} (h : driveL p = true) : p.length = 2 := by
  unfold driveL at h
  match p with
  | [] => simp at h
  | [_] => simp at h
  | [_, _] => rfl
  | _ :: _ :: _ :: _ => simp at h
theorem cut_one {p : List UInt8} (h : p.length = 2) : (strB p).extract 0 1 ++ ⟨#[58]⟩ = strB (p.take 1 ++ [58]) := by
  match p with
  | [a, b] => rfl
set_option maxHeartbeats 4000000 in
set_option maxRecDepth 100000 in
theorem parse_calls (s : ByteArray) (v : Value) (l : List (List UInt8)) (t : ByteArray) (w : World) (hv : ReadT w v (l.map strB)) (hl : l.length ≤ 1000) (ht : t.size ≤ 5000) :
    Calls Try.prog 53 #[.string s, v, .string t] w fun e w' => ∃ v', e = .returned v' ∧ OwnT w' w.heap.size v' ((parseS segWays (fileB s) l (segs (special s) t.data.toList)).map strB) ∧ Below w.heap.size w w' := by
  have hP0 := segs_ne (special s) t.data.toList
  have hPl := segs_len (special s) t.data.toList
  have hPp := segs_piece (special s) t.data.toList
  have hSC := split_calls t (special s) w (by omega)
  generalize segs (special s) t.data.toList = P at *
  have htl : t.data.toList.length = t.size := by simp
  rw [htl] at hPl hPp
  have HP0 := hid hP0
  have HPp := hid hPp
  have HV := hid hv
  have HSC := hid hSC
  clear hP0 hPp htl hv hSC
  go_enter Try.func53, Try.ntmps53
  go_wp2_with fail
  refine (special_calls _ _).mono ?_
  rintro e w' ⟨rfl, rfl⟩
  go_wp2_with fail
  refine HSC.out.mono ?_
  rintro e w1 ⟨v1, rfl, ho1, hb1⟩
  obtain ⟨A1, c1, hv1, hc1⟩ := ho1.read.len
  rw [List.length_map] at hv1 hc1
  subst hv1
  have HO1 := hid ho1.read
  have HB1 := hid hb1
  clear ho1 hb1
  go_wp2_with fail
  refine (clone_calls v _ w1 (HV.out.below HB1.out) (by simp; omega)).mono ?_
  rintro e w2 ⟨v2, rfl, ho2, hb2⟩
  have HO2 := hid ho2
  have HB2 := hid hb2
  clear ho2 hb2
  go_wp2_with fail
  go_loopw [8, 20] (fun out i wr => ∃ k : Nat, k ≤ P.length ∧ i = .int .i64 k ∧ OwnT wr w1.heap.size out ((outAt (fileB s) l P k).map strB) ∧ Below w1.heap.size w1 wr) (fun _ i _ => P.length - (intOf i).toNat)
  case atStart => exact ⟨0, Nat.zero_le _, rfl, by rw [outAt_start _ _ _ HP0.out]; exact HO2.out, HB2.out⟩
  case round =>
    obtain ⟨k, hk, rfl, hown, hbw⟩ := hrel
    obtain ⟨A2, c2, hv2, hc2⟩ := hown.read.len
    have HO := hid hown
    have HB := hid hbw
    clear hown hbw
    by_cases hlt : k < P.length
    · obtain ⟨g, off, hA, hcell⟩ := (HO1.out.below HB.out).cellAt (k := k) (by rw [List.length_map]; exact hlt)
      rw [List.getElem_map] at hcell
      have hlen := outAt_len (fileB s) l P k hlt
      rw [List.length_map] at hv2 hc2
      subst hv2
      subst hA
      have HPz : Hid ((P[k]).length ≤ 5000) := hid (by have := HPp.out P[k] (List.getElem_mem hlt); omega)
      have HSx : Hid ((outAt (fileB s) l P k).length ≤ 6100) := hid (by omega)
      clear hlen
      cases h1 : dotsL P[k]
      · cases h2 : dotL P[k]
        · have H1 := hid h1
          have H2 := hid h2
          clear h1 h2
          cases hf : (s.toList == [102, 105, 108, 101])
          · have HN := hid (outAt_enc (file := fileB s) (out := l) hlt H1.out H2.out (by show ((s.toList == [102, 105, 108, 101]) && _) = false; rw [hf]; rfl))
            go_wp2_with fail
            refine (dots_strB _ _ H1.out HPz.out _).mono ?_
            rintro e w3 ⟨rfl, hb3⟩
            have HB3 := hid (HB.out.trans (hb3.mono HB.out.size))
            have HO3 := hid (HO.out.below hb3)
            clear hb3
            go_wp2_with fail
            refine (dot_strB _ _ H2.out HPz.out _).mono ?_
            rintro e w4 ⟨rfl, hb4⟩
            have HB4 := hid (HB3.out.trans (hb4.mono HB3.out.size))
            have HO4 := hid (HO3.out.below hb4)
            clear hb4
            go_wp2_with fail
            refine (encode_strB _ HPz.out _).mono ?_
            rintro e w6 ⟨rfl, hb6⟩
            have HB6 := hid (HB4.out.trans (hb6.mono HB4.out.size))
            have HO6 := hid (HO4.out.below hb6)
            clear hb6
            go_wp2_with (at_builtin; refine wpList_append_texts rfl _ _ rfl rfl (HO6.out.below (alloc_below _ _)) rfl (ReadT.one _ _) (by have := HSx.out; simp <;> omega) (Nat.le_trans HB6.out.size (by simp)) ?_; intro v8 w8 ho8 hb8; have HB8 := hid (HB6.out.trans (((Below.refl w1.heap.size _).alloc HB6.out.size _).trans hb8)); have HO8 := hid ho8; clear hb8 ho8)
            go_roundw
            case rel => exact ⟨k + 1, by omega, by go_num, by rw [HN.out]; exact by rw [map_one]; exact HO8.out, HB8.out⟩
            case measure => simp [intOf]; omega
          · by_cases h0 : (outAt (fileB s) l P k).length = 0
            · have hemp : (outAt (fileB s) l P k).isEmpty = true := by rw [List.isEmpty_iff]; exact List.length_eq_zero_iff.1 h0
              have hz : (((outAt (fileB s) l P k).length : Int) == 0) = true := by rw [beq_iff_eq]; omega
              have hzz := hid h0
              clear h0
              cases h3 : driveL P[k]
              · have HN := hid (outAt_enc (file := fileB s) (out := l) hlt H1.out H2.out (by rw [hemp, h3]; simp))
                have H3 := hid h3
                clear h3 hemp
                go_wp2_with fail
                refine (dots_strB _ _ H1.out HPz.out _).mono ?_
                rintro e w3 ⟨rfl, hb3⟩
                have HB3 := hid (HB.out.trans (hb3.mono HB.out.size))
                have HO3 := hid (HO.out.below hb3)
                clear hb3
                go_wp2_with fail
                refine (dot_strB _ _ H2.out HPz.out _).mono ?_
                rintro e w4 ⟨rfl, hb4⟩
                have HB4 := hid (HB3.out.trans (hb4.mono HB3.out.size))
                have HO4 := hid (HO3.out.below hb4)
                clear hb4
                go_wp2_with fail
                refine (drive_strB _ _ H3.out _).mono ?_
                rintro e w5 ⟨rfl, rfl⟩
                go_wp2_with fail
                refine (encode_strB _ HPz.out _).mono ?_
                rintro e w6 ⟨rfl, hb6⟩
                have HB6 := hid (HB4.out.trans (hb6.mono HB4.out.size))
                have HO6 := hid (HO4.out.below hb6)
                clear hb6
                go_wp2_with (at_builtin; refine wpList_append_texts rfl _ _ rfl rfl (HO6.out.below (alloc_below _ _)) rfl (ReadT.one _ _) (by have := HSx.out; simp <;> omega) (Nat.le_trans HB6.out.size (by simp)) ?_; intro v8 w8 ho8 hb8; have HB8 := hid (HB6.out.trans (((Below.refl w1.heap.size _).alloc HB6.out.size _).trans hb8)); have HO8 := hid ho8; clear hb8 ho8)
                go_roundw
                case rel => exact ⟨k + 1, by omega, by go_num, by rw [HN.out]; exact by rw [map_one]; exact HO8.out, HB8.out⟩
                case measure => simp [intOf]; omega
              · have HN := hid (outAt_drive (file := fileB s) (out := l) hlt H1.out H2.out (by show ((s.toList == [102, 105, 108, 101]) && _) = true; rw [hf, hemp, h3]; rfl))
                have H3 := hid h3
                have h2z := drive_len h3
                have HC := hid (cut_one h2z)
                have hsz : 1 ≤ (strB P[k]).size := by rw [strB_size]; omega
                clear h3 hemp h2z
                go_wp2_with fail
                refine (dots_strB _ _ H1.out HPz.out _).mono ?_
                rintro e w3 ⟨rfl, hb3⟩
                have HB3 := hid (HB.out.trans (hb3.mono HB.out.size))
                have HO3 := hid (HO.out.below hb3)
                clear hb3
                go_wp2_with fail
                refine (dot_strB _ _ H2.out HPz.out _).mono ?_
                rintro e w4 ⟨rfl, hb4⟩
                have HB4 := hid (HB3.out.trans (hb4.mono HB3.out.size))
                have HO4 := hid (HO3.out.below hb4)
                clear hb4
                go_wp2_with fail
                refine (drive_strB _ _ H3.out _).mono ?_
                rintro e w5 ⟨rfl, rfl⟩
                go_wp2_with (at_builtin; refine wpList_append_texts rfl _ _ rfl rfl (HO4.out.below (alloc_below _ _)) rfl (ReadT.one _ _) (by have := HSx.out; simp <;> omega) (Nat.le_trans HB4.out.size (by simp)) ?_; intro v8 w8 ho8 hb8; have HB8 := hid (HB4.out.trans (((Below.refl w1.heap.size _).alloc HB4.out.size _).trans hb8)); have HO8 := hid ho8; clear hb8 ho8)
                go_roundw
                case rel => exact ⟨k + 1, by omega, by go_num, by rw [HN.out]; exact by rw [map_one, ← HC.out]; exact HO8.out, HB8.out⟩
                case measure => simp [intOf]; omega
            · have hemp : (outAt (fileB s) l P k).isEmpty = false := by rw [Bool.eq_false_iff]; intro e; rw [List.isEmpty_iff] at e; rw [e] at h0; exact h0 rfl
              have hz : (((outAt (fileB s) l P k).length : Int) == 0) = false := by rw [beq_eq_false_iff_ne]; omega
              have hzz := hid h0
              clear h0
              have HN := hid (outAt_enc (file := fileB s) (out := l) hlt H1.out H2.out (by rw [hemp]; simp))
              clear hemp
              go_wp2_with fail
              refine (dots_strB _ _ H1.out HPz.out _).mono ?_
              rintro e w3 ⟨rfl, hb3⟩
              have HB3 := hid (HB.out.trans (hb3.mono HB.out.size))
              have HO3 := hid (HO.out.below hb3)
              clear hb3
              go_wp2_with fail
              refine (dot_strB _ _ H2.out HPz.out _).mono ?_
              rintro e w4 ⟨rfl, hb4⟩
              have HB4 := hid (HB3.out.trans (hb4.mono HB3.out.size))
              have HO4 := hid (HO3.out.below hb4)
              clear hb4
              go_wp2_with fail
              refine (encode_strB _ HPz.out _).mono ?_
              rintro e w6 ⟨rfl, hb6⟩
              have HB6 := hid (HB4.out.trans (hb6.mono HB4.out.size))
              have HO6 := hid (HO4.out.below hb6)
              clear hb6
              go_wp2_with (at_builtin; refine wpList_append_texts rfl _ _ rfl rfl (HO6.out.below (alloc_below _ _)) rfl (ReadT.one _ _) (by have := HSx.out; simp <;> omega) (Nat.le_trans HB6.out.size (by simp)) ?_; intro v8 w8 ho8 hb8; have HB8 := hid (HB6.out.trans (((Below.refl w1.heap.size _).alloc HB6.out.size _).trans hb8)); have HO8 := hid ho8; clear hb8 ho8)
              go_roundw
              case rel => exact ⟨k + 1, by omega, by go_num, by rw [HN.out]; exact by rw [map_one]; exact HO8.out, HB8.out⟩
              case measure => simp [intOf]; omega
        · by_cases he : k + 1 = P.length
          · have HN := hid (outAt_dot (file := fileB s) (out := l) hlt h1 h2)
            rw [if_pos he] at HN
            have hq : ((k : Int) == (P.length : Int) - 1) = true := by simp; omega
            have H1 := hid h1
            have H2 := hid h2
            clear h1 h2
            go_wp2_with fail
            refine (dots_strB _ _ H1.out HPz.out _).mono ?_
            rintro e w3 ⟨rfl, hb3⟩
            have HB3 := hid (HB.out.trans (hb3.mono HB.out.size))
            have HO3 := hid (HO.out.below hb3)
            clear hb3
            go_wp2_with fail
            refine (dot_strB _ _ H2.out HPz.out _).mono ?_
            rintro e w4 ⟨rfl, hb4⟩
            have HB4 := hid (HB3.out.trans (hb4.mono HB3.out.size))
            have HO4 := hid (HO3.out.below hb4)
            clear hb4
            go_wp2_with (at_builtin; refine wpList_append_texts rfl _ _ rfl rfl (HO4.out.below (alloc_below _ _)) rfl (ReadT.one _ _) (by have := HSx.out; simp <;> omega) (Nat.le_trans HB4.out.size (by simp)) ?_; intro v8 w8 ho8 hb8; have HB8 := hid (HB4.out.trans (((Below.refl w1.heap.size _).alloc HB4.out.size _).trans hb8)); have HO8 := hid ho8; clear hb8 ho8)
            go_roundw
            case rel => exact ⟨k + 1, by omega, by go_num, by rw [HN.out]; exact by rw [map_nil_one]; exact HO8.out, HB8.out⟩
            case measure => simp [intOf]; omega
          · have HN := hid (outAt_dot (file := fileB s) (out := l) hlt h1 h2)
            rw [if_neg he, List.append_nil] at HN
            have hq : ((k : Int) == (P.length : Int) - 1) = false := by simp; omega
            have H1 := hid h1
            have H2 := hid h2
            clear h1 h2
            go_wp2_with fail
            refine (dots_strB _ _ H1.out HPz.out _).mono ?_
            rintro e w3 ⟨rfl, hb3⟩
            have HB3 := hid (HB.out.trans (hb3.mono HB.out.size))
            have HO3 := hid (HO.out.below hb3)
            clear hb3
            go_wp2_with fail
            refine (dot_strB _ _ H2.out HPz.out _).mono ?_
            rintro e w4 ⟨rfl, hb4⟩
            have HB4 := hid (HB3.out.trans (hb4.mono HB3.out.size))
            have HO4 := hid (HO3.out.below hb4)
            clear hb4
            go_wp2_with fail
            go_roundw
            case rel => exact ⟨k + 1, by omega, by go_num, by rw [HN.out]; exact HO4.out, HB4.out⟩
            case measure => simp [intOf]; omega
      · by_cases he : k + 1 = P.length
        · have HN := hid (outAt_dots (file := fileB s) (out := l) hlt h1)
          rw [if_pos he] at HN
          have hq : ((k : Int) == (P.length : Int) - 1) = true := by simp; omega
          have H1 := hid h1
          clear h1
          go_wp2_with fail
          refine (dots_strB _ _ H1.out HPz.out _).mono ?_
          rintro e w3 ⟨rfl, hb3⟩
          have HB3 := hid (HB.out.trans (hb3.mono HB.out.size))
          have HO3 := hid (HO.out.below hb3)
          clear hb3
          go_wp2_with fail
          refine (up_calls s _ _ w1.heap.size _ HO3.out (by rw [List.length_map]; have := HSx.out; omega)).mono ?_
          rintro e w4 ⟨v4, rfl, ho4, hb4⟩
          rw [shortT_strB] at ho4
          obtain ⟨A4, c4, hv4, hc4⟩ := ho4.read.len
          rw [List.length_map] at hv4 hc4
          subst hv4
          have HB4 := hid (HB3.out.trans (hb4.mono HB3.out.size))
          have HO4 := hid ho4
          have HU : Hid ((upS segWays (fileB s) (outAt (fileB s) l P k)).length ≤ 6100) := hid (by have := upS_len segWays (fileB s) (outAt (fileB s) l P k); have := HSx.out; omega)
          clear hb4 ho4
          go_wp2_with (at_builtin; refine wpList_append_texts rfl _ _ rfl rfl (HO4.out.below (alloc_below _ _)) rfl (ReadT.one _ _) (by have := HU.out; simp <;> omega) (Nat.le_trans HB4.out.size (by simp)) ?_; intro v8 w8 ho8 hb8; have HB8 := hid (HB4.out.trans (((Below.refl w1.heap.size _).alloc HB4.out.size _).trans hb8)); have HO8 := hid ho8; clear hb8 ho8)
          go_roundw
          case rel => exact ⟨k + 1, by omega, by go_num, by rw [HN.out]; exact by rw [map_nil_one]; exact HO8.out, HB8.out⟩
          case measure => simp [intOf]; omega
        · have HN := hid (outAt_dots (file := fileB s) (out := l) hlt h1)
          rw [if_neg he, List.append_nil] at HN
          have hq : ((k : Int) == (P.length : Int) - 1) = false := by simp; omega
          have H1 := hid h1
          clear h1
          go_wp2_with fail
          refine (dots_strB _ _ H1.out HPz.out _).mono ?_
          rintro e w3 ⟨rfl, hb3⟩
          have HB3 := hid (HB.out.trans (hb3.mono HB.out.size))
          have HO3 := hid (HO.out.below hb3)
          clear hb3
          go_wp2_with fail
          refine (up_calls s _ _ w1.heap.size _ HO3.out (by rw [List.length_map]; have := HSx.out; omega)).mono ?_
          rintro e w4 ⟨v4, rfl, ho4, hb4⟩
          rw [shortT_strB] at ho4
          obtain ⟨A4, c4, hv4, hc4⟩ := ho4.read.len
          rw [List.length_map] at hv4 hc4
          subst hv4
          have HB4 := hid (HB3.out.trans (hb4.mono HB3.out.size))
          have HO4 := hid ho4
          have HU : Hid ((upS segWays (fileB s) (outAt (fileB s) l P k)).length ≤ 6100) := hid (by have := upS_len segWays (fileB s) (outAt (fileB s) l P k); have := HSx.out; omega)
          clear hb4 ho4
          go_wp2_with fail
          go_roundw
          case rel => exact ⟨k + 1, by omega, by go_num, by rw [HN.out]; exact HO4.out, HB4.out⟩
          case measure => simp [intOf]; omega
    · obtain rfl : k = P.length := by omega
      rw [outAt_end] at HO hv2 hc2
      subst hv2
      go_wp2_with fail
      go_ret
      exact ⟨_, rfl, HO.out.mono (HB1.out.size), HB1.out.trans (HB.out.mono HB1.out.size)⟩
end Go.Proofs.Ytmkgjleojfggcaa
