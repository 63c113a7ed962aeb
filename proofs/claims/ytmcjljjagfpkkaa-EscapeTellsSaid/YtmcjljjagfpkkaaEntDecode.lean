/-
  The contract of entity's Decode. Conditions: the text has at most 100000 bytes.
-/
import Derived.Test.YtmcjljjagfpkkaaEntRef
import Derived.Test.YtmcjljjagfpkkaaBuildStr
set_option linter.all false
namespace Go.Proofs.Ytmcjljjagfpkkaa
open Go.RowKit
theorem index_find (c : UInt8) : ∀ l : List UInt8, (Lib.indexByte l c = -1 ∧ ∀ x ∈ l, x ≠ c) ∨ ∃ a r, l = a ++ c :: r ∧ (∀ x ∈ a, x ≠ c) ∧ Lib.indexByte l c = (a.length : Int)
  | [] => .inl ⟨rfl, by simp⟩
  | b :: l => by
    by_cases hb : b = c
    · subst hb
      exact .inr ⟨[], l, rfl, by simp, by simp [Lib.indexByte]⟩
    · have hbf : (b == c) = false := by simpa using hb
      rcases index_find c l with ⟨h1, h2⟩ | ⟨a, r, h1, h2, h3⟩
      · refine .inl ⟨by simp [Lib.indexByte, hbf, h1], fun x hx => ?_⟩
        rcases List.mem_cons.1 hx with rfl | hx
        · exact hb
        · exact h2 x hx
      · refine .inr ⟨b :: a, r, by rw [h1]; rfl, fun x hx => ?_, ?_⟩
        · rcases List.mem_cons.1 hx with rfl | hx
          · exact hb
          · exact h2 x hx
        · have h4 : ¬ (Lib.indexByte l c = -1) := by omega
          rw [Lib.indexByte, hbf, h3]
          have h5 : ((a.length : Int) == -1) = false := by rw [beq_eq_false_iff_ne]; omega
          rw [h5]
          simp
theorem index_calls (s : ByteArray) (c : UInt8) (n : Int) (hn : n = (c.toNat : Int)) (j : Int) (hj : Lib.indexByte s.data.toList c = j) (w : World) :
    Calls Try.prog 41 #[.string s, .int .u8 n] w fun e w' => e = .returned (.int .i64 j) ∧ w = w' := by
  subst hn hj
  refine (Try.strings_IndexByte s (c.toNat : Int) w).mono ?_
  rintro e w' ⟨rfl, rfl⟩
  refine ⟨?_, rfl⟩
  simp
theorem reference_some (s : ByteArray) (r t : List UInt8) (n : Nat) (h : refE r = some (t, n)) (hs : s.data.toList = 38 :: r) (hz : s.size ≤ 100000) (w : World) :
    Calls Try.prog 43 #[.string s] w fun e w' => e = .returned (.tuple #[.string (strB t), .int .i64 ((n + 1 : Nat) : Int)]) ∧ Below w.heap.size w w' := by
  have := reference_calls s r w hs hz
  rw [h] at this
  exact this
theorem reference_no (s : ByteArray) (r : List UInt8) (h : refE r = none) (hs : s.data.toList = 38 :: r) (hz : s.size ≤ 100000) (w : World) :
    Calls Try.prog 43 #[.string s] w fun e w' => e = .returned (.tuple #[.string ⟨#[38]⟩, .int .i64 1]) ∧ Below w.heap.size w w' := by
  have := reference_calls s r w hs hz
  rw [h] at this
  exact this
theorem ownsRow_below {w w' : World} {base : Nat} {e : TypeId} {size : Nat} {v : Value} {n : Nat} {xs : List Value} (h : w.ownsRow base e size v n xs) (hb : Below w.heap.size w w') : w'.ownsRow base e size v n xs := by
  obtain ⟨h1, h2⟩ := h
  refine ⟨h1, ?_⟩
  rcases h2 with h2 | ⟨g, cap, cur, hv, hg, hh, r⟩
  · exact .inl h2
  · exact .inr ⟨g, cap, cur, hv, hg, by rw [hb.block g (Array.getElem?_eq_some_iff.1 hh).1]; exact hh, r⟩
theorem bld_below {w w' : World} {B b : Nat} {l : List UInt8} (h : Bld w B b l) (hb : Below w.heap.size w w') : Bld w' B b l := by
  have key : ∀ p, Lib.BuilderAt 47 5 B b p (Lib.byteCells l) w → Lib.BuilderAt 47 5 B b p (Lib.byteCells l) w' := by
    rintro p ⟨h1, v, h2, h3, h4⟩
    exact ⟨h1, v, by rw [hb.block b (Array.getElem?_eq_some_iff.1 h2).1]; exact h2, ownsRow_below h3 hb, h4⟩
  rcases h with h | h
  · exact .inl (key _ h)
  · exact .inr (key _ h)
theorem strB_inj {a b : List UInt8} (h : strB a = strB b) : a = b := by
  have := congrArg (fun s : ByteArray => s.data.toList) h
  simpa [strB] using this
theorem strB_empty (l : List UInt8) : (strB l).toList.isEmpty = l.isEmpty := by
  rw [ByteArray.toList_eq, strB_list]
set_option maxHeartbeats 4000000 in
set_option maxRecDepth 100000 in
theorem decodeE_calls (s : ByteArray) (w : World) (hs : s.size ≤ 100000) :
    Calls Try.prog 18 #[.string s] w fun e w' => e = .returned (.string (strB (decE s.data.toList))) ∧ Below w.heap.size w w' := by
  have hb0 := Bld.fresh w
  have hbel0 : Below w.heap.size w (w.alloc (.cells #[.pointer none, .slice none 0 0] 47)) := (Below.refl _ _).alloc (Nat.le_refl _) _
  have HB0 := hid hb0
  have HBE := hid hbel0
  have hsl : s.data.toList.length = s.size := by simp
  have hst : s = strB s.data.toList := (strB_of s).symm
  obtain ⟨S, hS⟩ : ∃ S, S = s.data.toList := ⟨_, rfl⟩
  rw [← hS] at hsl hst ⊢
  rw [← hsl] at hs
  subst hst
  clear hb0 hbel0 hsl hS
  go_enter Try.func18, Try.ntmps18
  go_wp2_with fail
  go_loopw [0] (fun v wr => ∃ l rest : List UInt8, v = .string (strB rest) ∧ Hid (decE S = l ++ decE rest) ∧ l.length + rest.length ≤ S.length ∧ Bld wr w.heap.size w.heap.size l ∧ Below w.heap.size w wr) (fun v _ => match v with | .string x => x.size | _ => 0)
  case atStart => exact ⟨[], S, rfl, hid (by simp), by simp, HB0.out, HBE.out⟩
  case round =>
    obtain ⟨l, rest, rfl, hdec, hlr, hbl, hbw⟩ := hrel
    have HBL := hid hbl
    have HBW := hid hbw
    clear hbl hbw
    have hemp := strB_empty rest
    have hrz : (strB rest).data.toList = rest := strB_list _
    have hzz : (strB rest).size = rest.length := strB_size _
    by_cases hrest : rest = []
    · have he : (strB rest).toList.isEmpty = true := by rw [hemp, hrest]; rfl
      have HF : Hid (decE S = l) := hid (by rw [hdec.out, hrest, decE_nil, List.append_nil])
      clear hemp hrest hrz hzz
      go_wp2_with fail
      refine (bldString_calls _ _ _ l HBL.out HBW.out.size).mono ?_
      rintro e w4 ⟨rfl, hb4⟩
      have HB4 := hid (HBW.out.trans hb4)
      clear hb4
      go_wp2_with fail
      go_ret
      exact ⟨by rw [HF.out]; rfl, HB4.out⟩
    · have he : (strB rest).toList.isEmpty = false := by rw [hemp]; cases rest with | nil => exact absurd rfl hrest | cons a b => rfl
      have hr0 : 0 < rest.length := by rcases Nat.eq_zero_or_pos rest.length with h | h; exact absurd (List.length_eq_zero_iff.1 h) hrest; exact h
      clear hemp
      rcases index_find 38 rest with ⟨hi, hno⟩ | ⟨a, r, hr, ha, hi⟩
      · have hd : decE rest = rest := by
          have := decE_pre rest [] hno
          rwa [List.append_nil, decE_nil, List.append_nil] at this
        have HF : Hid (decE S = l ++ rest) := hid (by rw [hdec.out, hd])
        have HI := hid (fun w => index_calls (strB rest) 38 38 rfl (-1) (by rw [hrz]; exact hi) w)
        have HRZ := hid hrz
        have HW := hid (fun w1 (h : Bld w1 w.heap.size w.heap.size l) (hb : w.heap.size ≤ w1.heap.size) => writeS_calls w1 w.heap.size w.heap.size l (strB rest) h (by rw [hzz]; omega) hb)
        rw [HRZ.out] at HW
        clear hrz hzz hi hd hno hrest
        go_wp2_with fail
        refine (HI.out _).mono ?_
        rintro e w' ⟨rfl, rfl⟩
        go_wp2_with fail
        refine (HW.out _ HBL.out HBW.out.size).mono ?_
        rintro e w4 ⟨rfl, hbl4, hb4⟩
        have HBL4 := hid hbl4
        have HB4 := hid (HBW.out.trans hb4)
        clear hbl4 hb4
        go_wp2_with fail
        refine (bldString_calls _ _ _ (l ++ rest) HBL4.out HB4.out.size).mono ?_
        rintro e w5 ⟨rfl, hb5⟩
        have HB5 := hid (HB4.out.trans hb5)
        clear hb5
        go_wp2_with fail
        go_ret
        exact ⟨by rw [HF.out]; rfl, HB5.out⟩
      · have hal : a.length + (r.length + 1) = rest.length := by rw [hr]; simp
        have hd : decE rest = a ++ decE (38 :: r) := by rw [hr]; exact decE_pre a _ ha
        have HI := hid (fun w => index_calls (strB rest) 38 38 rfl (a.length : Int) (by rw [hrz]; exact hi) w)
        have hx1 : (strB rest).extract 0 a.length = strB a := by rw [ext_listE, hrz, hr]; simp
        have hx2 : (strB rest).extract a.length (strB rest).size = strB (38 :: r) := by
          rw [ext_listE, hrz, hzz, hr]
          simp
        have hx3 : ∀ n, n ≤ r.length → (strB rest).extract (a.length + (n + 1)) (strB rest).size = strB (r.drop n) := fun n hn => by
          rw [ext_listE, hrz, hzz, hr]
          rw [show a.length + (n + 1) = a.length + 1 + n by omega, ← List.drop_drop, ← List.drop_drop, List.drop_left]
          simp
          rw [List.take_of_length_le (by simp; omega)]
        have HX1 := hid hx1
        have HX2 := hid hx2
        have HX3 := hid hx3
        have HWA := hid (fun w1 (h : Bld w1 w.heap.size w.heap.size l) (hb : w.heap.size ≤ w1.heap.size) => writeS_calls w1 w.heap.size w.heap.size l (strB a) h (by rw [strB_size]; omega) hb)
        rw [strB_list] at HWA
        have hle1 : a.length ≤ (strB rest).size := by rw [hzz]; omega
        have HSZ := hid hzz
        have HD := hid hd
        have hrz2 : (strB (38 :: r)).size ≤ 100000 := by rw [strB_size]; simp; omega
        clear hx3 hrz hi hd hrest ha hr hzz
        cases hrf : refE r with
        | none =>
          have HR := hid (fun w => reference_no (strB (38 :: r)) r hrf (strB_list _) hrz2 w)
          have HF : Hid (decE S = (l ++ a ++ [38]) ++ decE r) := hid (by rw [hdec.out, HD.out, decE_none hrf]; simp)
          have HWT := hid (fun w1 (h : Bld w1 w.heap.size w.heap.size (l ++ a)) (hb : w.heap.size ≤ w1.heap.size) => writeS_calls w1 w.heap.size w.heap.size (l ++ a) (strB [38]) h (by rw [strB_size]; simp; omega) hb)
          rw [strB_list] at HWT
          obtain ⟨z, hz⟩ : ∃ z, z = a.length + 1 := ⟨_, rfl⟩
          have hWz : IntKind.i64.wrap ((a.length : Int) + 1) = (z : Int) := by rw [IntWalk.i64_in _ (by omega)]; omega
          have hx4 : (strB rest).extract z (strB rest).size = strB r := by have := HX3.out 0 (by omega); rw [hz]; simpa using this
          have hz1 : z ≤ (strB rest).size := by rw [HSZ.out]; omega
          have HX4 := hid hx4
          have HWZ := hid hWz
          have HZ := hid hz
          clear hrf hz hx4 hWz
          go_wp2_with fail
          refine (HI.out _).mono ?_
          rintro e w' ⟨rfl, rfl⟩
          go_wp2_with fail
          refine (HWA.out _ HBL.out HBW.out.size).mono ?_
          rintro e w4 ⟨rfl, hbl4, hb4⟩
          have HBL4 := hid hbl4
          have HB4 := hid (HBW.out.trans hb4)
          clear hbl4 hb4 hx1
          go_wp2_with fail
          refine (HR.out _).mono ?_
          rintro e w5 ⟨rfl, hb5⟩
          have HBL5 := hid (bld_below HBL4.out hb5)
          have HB5 := hid (HB4.out.trans (hb5.mono HB4.out.size))
          clear hb5
          go_wp2_with fail
          refine (HWT.out _ HBL5.out HB5.out.size).mono ?_
          rintro e w6 ⟨rfl, hbl6, hb6⟩
          have HBL6 := hid hbl6
          have HB6 := hid (HB5.out.trans hb6)
          have hWz := HWZ.out
          have hx4 := HX4.out
          clear hbl6 hb6 hx2
          go_wp2_with fail
          go_roundw
          case rel => exact ⟨l ++ a ++ [38], r, rfl, HF, by simp; omega, HBL6.out, HB6.out⟩
          case measure => have := HSZ.out; simp only [strB_size] at *; omega
        | some p =>
          obtain ⟨t, n⟩ := p
          have HR := hid (fun w => reference_some (strB (38 :: r)) r t n hrf (strB_list _) hrz2 w)
          have HF : Hid (decE S = (l ++ a ++ t) ++ decE (r.drop n)) := hid (by rw [hdec.out, HD.out, decE_some hrf]; simp)
          obtain ⟨ht1, ht2, ht3⟩ := refE_len hrf
          have HWT := hid (fun w1 (h : Bld w1 w.heap.size w.heap.size (l ++ a)) (hb : w.heap.size ≤ w1.heap.size) => writeS_calls w1 w.heap.size w.heap.size (l ++ a) (strB t) h (by rw [strB_size]; simp; omega) hb)
          rw [strB_list] at HWT
          obtain ⟨z, hz⟩ : ∃ z, z = a.length + (n + 1) := ⟨_, rfl⟩
          have hWz : IntKind.i64.wrap ((a.length : Int) + ((n : Int) + 1)) = (z : Int) := by rw [IntWalk.i64_in _ (by omega)]; omega
          have hx4 : (strB rest).extract z (strB rest).size = strB (r.drop n) := by have := HX3.out n (by omega); rw [hz]; exact this
          have hz1 : z ≤ (strB rest).size := by rw [HSZ.out]; omega
          have HX4 := hid hx4
          have HWZ := hid hWz
          have HZ := hid hz
          clear hrf hz hx4 hWz
          go_wp2_with fail
          refine (HI.out _).mono ?_
          rintro e w' ⟨rfl, rfl⟩
          go_wp2_with fail
          refine (HWA.out _ HBL.out HBW.out.size).mono ?_
          rintro e w4 ⟨rfl, hbl4, hb4⟩
          have HBL4 := hid hbl4
          have HB4 := hid (HBW.out.trans hb4)
          clear hbl4 hb4 hx1
          go_wp2_with fail
          refine (HR.out _).mono ?_
          rintro e w5 ⟨rfl, hb5⟩
          have HBL5 := hid (bld_below HBL4.out hb5)
          have HB5 := hid (HB4.out.trans (hb5.mono HB4.out.size))
          clear hb5
          go_wp2_with fail
          refine (HWT.out _ HBL5.out HB5.out.size).mono ?_
          rintro e w6 ⟨rfl, hbl6, hb6⟩
          have HBL6 := hid hbl6
          have HB6 := hid (HB5.out.trans hb6)
          have hWz := HWZ.out
          have hx4 := HX4.out
          clear hbl6 hb6 hx2
          go_wp2_with fail
          go_roundw
          case rel => exact ⟨l ++ a ++ t, r.drop n, rfl, HF, by simp; omega, HBL6.out, HB6.out⟩
          case measure => have := HSZ.out; have hdl : (List.drop n r).length = r.length - n := List.length_drop; simp only [strB_size] at *; omega
end Go.Proofs.Ytmcjljjagfpkkaa
