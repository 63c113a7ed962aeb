/-
  The contract of the document's number. Conditions: the text has at most 100000 bytes.
-/
import Derived.Test.YtmcjljjagfpkkaaEntRefNamed
set_option linter.all false
namespace Go.Proofs.Ytmcjljjagfpkkaa
open Go.RowKit
/-- what the document tells of a reference: no bytes, where there is none -/
def refV2 (o : Option (List UInt8 × Nat)) : Value := match o with
  | some (t, n) => .tuple #[.string (strB t), .int .i64 ((n : Nat) : Int)]
  | none => .tuple #[.string ⟨#[]⟩, .int .i64 0]
set_option maxHeartbeats 4000000 in
set_option maxRecDepth 100000 in
theorem refNumber35_calls (s : ByteArray) (r : List UInt8) (w : World) (hs : s.data.toList = 35 :: r) (hz : s.size ≤ 100000) :
    Calls Try.prog 45 #[.string s] w fun e w' => e = .returned (refV2 (numE r)) ∧ Below w.heap.size w w' := by
  have hsz : s.size = r.length + 1 := by
    have : s.data.toList.length = s.size := by simp
    rw [hs] at this
    simpa using this.symm
  have hemp : s.toList.isEmpty = false := by rw [ByteArray.toList_eq, hs]; rfl
  have h0s : 0 < s.size := by omega
  have hz0 : s[0] = 35 := by
    have h1 : s[0] = s.data.toList[0]'(by rw [hs]; simp) := by simp; rfl
    rw [h1]
    simp [hs]
  have hb35 : (((s[0]).toNat : Int) != 35) = false := by rw [hz0]; decide
  have hget : ∀ j, (h : j < r.length) → (h2 : j + 1 < s.size) → s[j + 1]'h2 = r[j] := fun j h h2 => by
    have h1 : s[j + 1]'h2 = s.data.toList[j + 1]'(by rw [hs]; simp; omega) := by simp; rfl
    rw [h1]
    simp only [hs, List.getElem_cons_succ]
  have HG := hid hget
  have HSZ := hid hsz
  clear hget hs hsz hz0
  cases hr : (match r with | c :: _ => isX c | [] => false)
  · have hne : numE r = numAt 10 1 r := by
      cases r with
      | nil => rfl
      | cons c q =>
        have hx : isX c = false := hr
        show (if isX c = true then _ else _) = _
        rw [if_neg (by rw [hx]; decide)]
    have HB := HG
    have hsza : s.size ≤ r.length + 1 := by have := HSZ.out; omega
    have hszb : r.length + 1 ≤ s.size := by have := HSZ.out; omega
    by_cases h2s : 1 < s.size
    · have hc2 : s[1] = r[0]'(by omega) := HG.out 0 (by omega) (by omega)
      have hx : isX r[0] = false := by
        cases r with
        | nil => simp at hsza; omega
        | cons c q => exact hr
      have hx' : (((s[1]).toNat : Int) == 120) = false ∧ (((s[1]).toNat : Int) == 88) = false := by
        have h' : s[1] = r[0] := hc2
        rw [h']
        exact isX_parts hx
      obtain ⟨x1, x2⟩ := hx'
      clear hc2 hx hr
      have HL := hid (digRun_le 10 r)
      have HT : Hid (∀ (k : Nat) (hkl : k < r.length), k < digRun 10 r → 0 ≤ digit (r[k]'hkl) 10) := hid (fun k _ h => digRun_get r k h)
      have HE := hid (fun h => @digRun_end 10 r h)
      have HW := hid (fun k (h : k ≤ digRun 10 r) => worthL_bd (base := 10) (by omega) _ (take_okD h))
      have HSN := hid (fun k h => @worthL_snoc 10 r k h)
      have hnum : numE r = numAt 10 1 r := by exact hne
      unfold numAt at hnum
      generalize hD : digRun 10 r = D at *
      have HN := hid hnum
      have hDl := HL.out
      clear hD hnum
      clear hne
      go_enter Try.func45, Try.ntmps45
      go_wp2_with fail
      go_loopw [4, 7] (fun i u wr => ∃ k : Nat, k ≤ D ∧ u = .int .i64 (worthL 10 (r.take k)) ∧ i = .int .i64 ((k + 1 : Nat) : Int) ∧ Below w.heap.size w wr) (fun i _ _ => D + 1 - (intOf i).toNat)
      case atStart => exact ⟨0, Nat.zero_le _, rfl, by go_num, Below.refl _ _⟩
      case round =>
        obtain ⟨k, hk, rfl, rfl, hbw⟩ := hrel
        have HBW := hid hbw
        clear hbw
        obtain ⟨w0, w1⟩ := HW.out k hk
        by_cases hlt : k < D
        · have hkl : k < r.length := by omega
          have hd0 := HT.out k hkl hlt
          have hsn := HSN.out k hkl
          have hks : k + 1 < s.size := by omega
          have hby : s[k + 1]'hks = r[k] := HB.out k hkl hks
          generalize r[k] = c at *
          generalize worthL 10 (r.take k) = u at *
          have hd1 := (digit_bd c 10 (by omega)).2
          have HS := hid hsn
          have HDIG := hid (fun w => refDigit_calls c 10 (by omega) (by omega) w)
          generalize digit c 10 = d at *
          clear hsn hkl
          go_wp2_with fail
          refine (HDIG.out _).mono ?_
          rintro e w' ⟨rfl, rfl⟩
          go_wp2_with fail
          refine (HDIG.out _).mono ?_
          rintro e w' ⟨rfl, rfl⟩
          clear hby
          go_wp2_with fail
          go_roundw
          case rel => exact ⟨k + 1, by omega, (by rw [HS.out]; try go_num), by go_num, HBW.out⟩
          case measure => simp [intOf]; omega
        · obtain rfl : k = D := by omega
          have HWC := hid (fun w => refNumber_calls (worthL 10 (r.take k)) w)
          by_cases h0 : k = 0
          · have hn0 := HN.out
            rw [if_pos h0] at hn0
            subst h0
            have HN0 := hid hn0
            clear hn0 w0 w1
            by_cases hle : 0 < r.length
            · have hd0 := HE.out hle
              have hks : 1 < s.size := by omega
              have hby : s[1]'hks = r[0] := HB.out 0 hle (by omega)
              generalize r[0] = c at *
              have HDIG := hid (fun w => refDigit_calls c 10 (by omega) (by omega) w)
              generalize digit c 10 = d at *
              clear hle
              go_wp2_with fail
              refine (HDIG.out _).mono ?_
              rintro e w' ⟨rfl, rfl⟩
              clear hby
              go_wp2_with fail
              go_ret2
              exact ⟨by rw [HN0.out]; rfl, HBW.out⟩
            · have hsz9 : s.size = 1 := by omega
              have HZ9 := hid hsz9
              clear hle
              go_wp2_with fail
              go_ret2
              exact ⟨by rw [HN0.out]; rfl, HBW.out⟩
          · have hn0 := HN.out
            rw [if_neg h0] at hn0
            have hk0 : 0 < k := by omega
            clear h0
            by_cases hle : k < r.length
            · have hd0 := HE.out hle
              have hks : k + 1 < s.size := by omega
              have hby : s[k + 1]'hks = r[k] := HB.out k hle hks
              have hg : r[k]? = some r[k] := List.getElem?_eq_getElem hle
              rw [hg] at hn0
              generalize r[k] = c at *
              have HDIG := hid (fun w => refDigit_calls c 10 (by omega) (by omega) w)
              generalize digit c 10 = d at *
              generalize worthL 10 (r.take k) = u at *
              clear hle hg
              cases h59 : ((c.toNat : Int) == 59)
              · have hc59 : ¬ (some c = some (59 : UInt8)) := by
                  intro e
                  injection e with e
                  subst e
                  revert h59
                  decide
                rw [if_neg hc59] at hn0
                have HN0 := hid hn0
                clear hn0 hc59
                have hsb : (((s[k + 1]'hks).toNat : Int) == 59) = false := by rw [hby]; exact h59
                go_wp2_with fail
                refine (HDIG.out _).mono ?_
                rintro e w' ⟨rfl, rfl⟩
                clear hby
                go_wp2_with fail
                refine (HWC.out _).mono ?_
                rintro e w2 ⟨rfl, hb2⟩
                have HB2 := hid (HBW.out.trans (hb2.mono HBW.out.size))
                clear hb2
                go_wp2_with fail
                go_ret2
                exact ⟨by rw [HN0.out]; simp [refV2]; try go_num, HB2.out⟩
              · have hc59 : c = 59 := by
                  have : c.toNat = 59 := by have := eq_of_beq h59; omega
                  rw [← UInt8.toNat_inj]; exact this
                rw [if_pos (by rw [hc59])] at hn0
                have HN0 := hid hn0
                clear hn0 hc59
                have hsb : (((s[k + 1]'hks).toNat : Int) == 59) = true := by rw [hby]; exact h59
                go_wp2_with fail
                refine (HDIG.out _).mono ?_
                rintro e w' ⟨rfl, rfl⟩
                clear hby
                go_wp2_with fail
                refine (HWC.out _).mono ?_
                rintro e w2 ⟨rfl, hb2⟩
                have HB2 := hid (HBW.out.trans (hb2.mono HBW.out.size))
                clear hb2
                go_wp2_with fail
                go_ret2
                exact ⟨by rw [HN0.out]; simp [refV2]; try go_num, HB2.out⟩
            · have hg : r[k]? = none := List.getElem?_eq_none (by omega)
              rw [hg, if_neg (by simp)] at hn0
              have hks : k + 1 = s.size := by omega
              have HKS := hid hks
              have HN0 := hid hn0
              generalize worthL 10 (r.take k) = u at *
              have hsz9 : s.size ≤ k + 1 := by omega
              clear hn0 hg hle hks
              go_wp2_with fail
              refine (HWC.out _).mono ?_
              rintro e w2 ⟨rfl, hb2⟩
              have HB2 := hid (HBW.out.trans (hb2.mono HBW.out.size))
              clear hb2
              go_wp2_with fail
              go_ret2
              exact ⟨by rw [HN0.out]; simp [refV2]; try go_num, HB2.out⟩
    · clear hr
      have hr0 : r = [] := List.length_eq_zero_iff.1 (by omega)
      subst hr0
      have HN0 : Hid (numE [] = none) := hid rfl
      have hsz9 : s.size ≤ 1 := by omega
      clear hne HB HG HSZ
      go_enter Try.func45, Try.ntmps45
      go_wp2_with fail
      go_loopw [4, 7] (fun i u wr => i = .int .i64 1 ∧ u = .int .i64 0 ∧ Below w.heap.size w wr) (fun _ _ _ => 0)
      case atStart => exact ⟨rfl, rfl, Below.refl _ _⟩
      case round =>
        obtain ⟨rfl, rfl, hbw⟩ := hrel
        have HBW := hid hbw
        clear hbw
        go_wp2_with fail
        go_ret2
        exact ⟨by rw [HN0.out]; rfl, HBW.out⟩
  · cases r with
    | nil => cases hr
    | cons c0 q =>
      have hx : isX c0 = true := hr
      have hsza : s.size ≤ q.length + 2 := by have := HSZ.out; simp at this; omega
      have hszb : q.length + 2 ≤ s.size := by have := HSZ.out; simp at this; omega
      have h2s : 1 < s.size := by omega
      have hc2 : s[1] = c0 := HG.out 0 (by simp) (by omega)
      have HB : Hid (∀ j, (h : j < q.length) → (h2 : j + 2 < s.size) → s[j + 2]'h2 = q[j]) := hid (fun j h h2 => HG.out (j + 1) (by simpa using h) (by omega))
      have hx' : (((s[1]).toNat : Int) == 120) = true ∨ ((((s[1]).toNat : Int) == 120) = false ∧ (((s[1]).toNat : Int) == 88) = true) := by
        rw [hc2]
        exact isX_some hx
      clear hr hc2
      rcases hx' with x1 | ⟨x1, x2⟩
      · have HL := hid (digRun_le 16 q)
        have HT : Hid (∀ (k : Nat) (hkl : k < q.length), k < digRun 16 q → 0 ≤ digit (q[k]'hkl) 16) := hid (fun k _ h => digRun_get q k h)
        have HE := hid (fun h => @digRun_end 16 q h)
        have HW := hid (fun k (h : k ≤ digRun 16 q) => worthL_bd (base := 16) (by omega) _ (take_okD h))
        have HSN := hid (fun k h => @worthL_snoc 16 q k h)
        have hnum : numE (c0 :: q) = numAt 16 2 q := by show (if isX c0 = true then _ else _) = _; rw [if_pos hx]
        unfold numAt at hnum
        generalize hD : digRun 16 q = D at *
        have HN := hid hnum
        have hDl := HL.out
        clear hD hnum
        go_enter Try.func45, Try.ntmps45
        go_wp2_with fail
        go_loopw [4, 7] (fun i u wr => ∃ k : Nat, k ≤ D ∧ u = .int .i64 (worthL 16 (q.take k)) ∧ i = .int .i64 ((k + 2 : Nat) : Int) ∧ Below w.heap.size w wr) (fun i _ _ => D + 2 - (intOf i).toNat)
        case atStart => exact ⟨0, Nat.zero_le _, rfl, by go_num, Below.refl _ _⟩
        case round =>
          obtain ⟨k, hk, rfl, rfl, hbw⟩ := hrel
          have HBW := hid hbw
          clear hbw
          obtain ⟨w0, w1⟩ := HW.out k hk
          by_cases hlt : k < D
          · have hkl : k < q.length := by omega
            have hd0 := HT.out k hkl hlt
            have hsn := HSN.out k hkl
            have hks : k + 2 < s.size := by omega
            have hby : s[k + 2]'hks = q[k] := HB.out k hkl hks
            generalize q[k] = c at *
            generalize worthL 16 (q.take k) = u at *
            have hd1 := (digit_bd c 16 (by omega)).2
            have HS := hid hsn
            have HDIG := hid (fun w => refDigit_calls c 16 (by omega) (by omega) w)
            generalize digit c 16 = d at *
            clear hsn hkl
            go_wp2_with fail
            refine (HDIG.out _).mono ?_
            rintro e w' ⟨rfl, rfl⟩
            go_wp2_with fail
            refine (HDIG.out _).mono ?_
            rintro e w' ⟨rfl, rfl⟩
            clear hby
            go_wp2_with fail
            go_roundw
            case rel => exact ⟨k + 1, by omega, (by rw [HS.out]; try go_num), by go_num, HBW.out⟩
            case measure => simp [intOf]; omega
          · obtain rfl : k = D := by omega
            have HWC := hid (fun w => refNumber_calls (worthL 16 (q.take k)) w)
            by_cases h0 : k = 0
            · have hn0 := HN.out
              rw [if_pos h0] at hn0
              subst h0
              have HN0 := hid hn0
              clear hn0 w0 w1
              by_cases hle : 0 < q.length
              · have hd0 := HE.out hle
                have hks : 2 < s.size := by omega
                have hby : s[2]'hks = q[0] := HB.out 0 hle (by omega)
                generalize q[0] = c at *
                have HDIG := hid (fun w => refDigit_calls c 16 (by omega) (by omega) w)
                generalize digit c 16 = d at *
                clear hle
                go_wp2_with fail
                refine (HDIG.out _).mono ?_
                rintro e w' ⟨rfl, rfl⟩
                clear hby
                go_wp2_with fail
                go_ret2
                exact ⟨by rw [HN0.out]; rfl, HBW.out⟩
              · have hsz9 : s.size = 2 := by omega
                have HZ9 := hid hsz9
                clear hle
                go_wp2_with fail
                go_ret2
                exact ⟨by rw [HN0.out]; rfl, HBW.out⟩
            · have hn0 := HN.out
              rw [if_neg h0] at hn0
              have hk0 : 0 < k := by omega
              clear h0
              by_cases hle : k < q.length
              · have hd0 := HE.out hle
                have hks : k + 2 < s.size := by omega
                have hby : s[k + 2]'hks = q[k] := HB.out k hle hks
                have hg : q[k]? = some q[k] := List.getElem?_eq_getElem hle
                rw [hg] at hn0
                generalize q[k] = c at *
                have HDIG := hid (fun w => refDigit_calls c 16 (by omega) (by omega) w)
                generalize digit c 16 = d at *
                generalize worthL 16 (q.take k) = u at *
                clear hle hg
                cases h59 : ((c.toNat : Int) == 59)
                · have hc59 : ¬ (some c = some (59 : UInt8)) := by
                    intro e
                    injection e with e
                    subst e
                    revert h59
                    decide
                  rw [if_neg hc59] at hn0
                  have HN0 := hid hn0
                  clear hn0 hc59
                  have hsb : (((s[k + 2]'hks).toNat : Int) == 59) = false := by rw [hby]; exact h59
                  go_wp2_with fail
                  refine (HDIG.out _).mono ?_
                  rintro e w' ⟨rfl, rfl⟩
                  clear hby
                  go_wp2_with fail
                  refine (HWC.out _).mono ?_
                  rintro e w2 ⟨rfl, hb2⟩
                  have HB2 := hid (HBW.out.trans (hb2.mono HBW.out.size))
                  clear hb2
                  go_wp2_with fail
                  go_ret2
                  exact ⟨by rw [HN0.out]; simp [refV2]; try go_num, HB2.out⟩
                · have hc59 : c = 59 := by
                    have : c.toNat = 59 := by have := eq_of_beq h59; omega
                    rw [← UInt8.toNat_inj]; exact this
                  rw [if_pos (by rw [hc59])] at hn0
                  have HN0 := hid hn0
                  clear hn0 hc59
                  have hsb : (((s[k + 2]'hks).toNat : Int) == 59) = true := by rw [hby]; exact h59
                  go_wp2_with fail
                  refine (HDIG.out _).mono ?_
                  rintro e w' ⟨rfl, rfl⟩
                  clear hby
                  go_wp2_with fail
                  refine (HWC.out _).mono ?_
                  rintro e w2 ⟨rfl, hb2⟩
                  have HB2 := hid (HBW.out.trans (hb2.mono HBW.out.size))
                  clear hb2
                  go_wp2_with fail
                  go_ret2
                  exact ⟨by rw [HN0.out]; simp [refV2]; try go_num, HB2.out⟩
              · have hg : q[k]? = none := List.getElem?_eq_none (by omega)
                rw [hg, if_neg (by simp)] at hn0
                have hks : k + 2 = s.size := by omega
                have HKS := hid hks
                have HN0 := hid hn0
                generalize worthL 16 (q.take k) = u at *
                have hsz9 : s.size ≤ k + 2 := by omega
                clear hn0 hg hle hks
                go_wp2_with fail
                refine (HWC.out _).mono ?_
                rintro e w2 ⟨rfl, hb2⟩
                have HB2 := hid (HBW.out.trans (hb2.mono HBW.out.size))
                clear hb2
                go_wp2_with fail
                go_ret2
                exact ⟨by rw [HN0.out]; simp [refV2]; try go_num, HB2.out⟩
      · have HL := hid (digRun_le 16 q)
        have HT : Hid (∀ (k : Nat) (hkl : k < q.length), k < digRun 16 q → 0 ≤ digit (q[k]'hkl) 16) := hid (fun k _ h => digRun_get q k h)
        have HE := hid (fun h => @digRun_end 16 q h)
        have HW := hid (fun k (h : k ≤ digRun 16 q) => worthL_bd (base := 16) (by omega) _ (take_okD h))
        have HSN := hid (fun k h => @worthL_snoc 16 q k h)
        have hnum : numE (c0 :: q) = numAt 16 2 q := by show (if isX c0 = true then _ else _) = _; rw [if_pos hx]
        unfold numAt at hnum
        generalize hD : digRun 16 q = D at *
        have HN := hid hnum
        have hDl := HL.out
        clear hD hnum
        go_enter Try.func45, Try.ntmps45
        go_wp2_with fail
        go_loopw [4, 7] (fun i u wr => ∃ k : Nat, k ≤ D ∧ u = .int .i64 (worthL 16 (q.take k)) ∧ i = .int .i64 ((k + 2 : Nat) : Int) ∧ Below w.heap.size w wr) (fun i _ _ => D + 2 - (intOf i).toNat)
        case atStart => exact ⟨0, Nat.zero_le _, rfl, by go_num, Below.refl _ _⟩
        case round =>
          obtain ⟨k, hk, rfl, rfl, hbw⟩ := hrel
          have HBW := hid hbw
          clear hbw
          obtain ⟨w0, w1⟩ := HW.out k hk
          by_cases hlt : k < D
          · have hkl : k < q.length := by omega
            have hd0 := HT.out k hkl hlt
            have hsn := HSN.out k hkl
            have hks : k + 2 < s.size := by omega
            have hby : s[k + 2]'hks = q[k] := HB.out k hkl hks
            generalize q[k] = c at *
            generalize worthL 16 (q.take k) = u at *
            have hd1 := (digit_bd c 16 (by omega)).2
            have HS := hid hsn
            have HDIG := hid (fun w => refDigit_calls c 16 (by omega) (by omega) w)
            generalize digit c 16 = d at *
            clear hsn hkl
            go_wp2_with fail
            refine (HDIG.out _).mono ?_
            rintro e w' ⟨rfl, rfl⟩
            go_wp2_with fail
            refine (HDIG.out _).mono ?_
            rintro e w' ⟨rfl, rfl⟩
            clear hby
            go_wp2_with fail
            go_roundw
            case rel => exact ⟨k + 1, by omega, (by rw [HS.out]; try go_num), by go_num, HBW.out⟩
            case measure => simp [intOf]; omega
          · obtain rfl : k = D := by omega
            have HWC := hid (fun w => refNumber_calls (worthL 16 (q.take k)) w)
            by_cases h0 : k = 0
            · have hn0 := HN.out
              rw [if_pos h0] at hn0
              subst h0
              have HN0 := hid hn0
              clear hn0 w0 w1
              by_cases hle : 0 < q.length
              · have hd0 := HE.out hle
                have hks : 2 < s.size := by omega
                have hby : s[2]'hks = q[0] := HB.out 0 hle (by omega)
                generalize q[0] = c at *
                have HDIG := hid (fun w => refDigit_calls c 16 (by omega) (by omega) w)
                generalize digit c 16 = d at *
                clear hle
                go_wp2_with fail
                refine (HDIG.out _).mono ?_
                rintro e w' ⟨rfl, rfl⟩
                clear hby
                go_wp2_with fail
                go_ret2
                exact ⟨by rw [HN0.out]; rfl, HBW.out⟩
              · have hsz9 : s.size = 2 := by omega
                have HZ9 := hid hsz9
                clear hle
                go_wp2_with fail
                go_ret2
                exact ⟨by rw [HN0.out]; rfl, HBW.out⟩
            · have hn0 := HN.out
              rw [if_neg h0] at hn0
              have hk0 : 0 < k := by omega
              clear h0
              by_cases hle : k < q.length
              · have hd0 := HE.out hle
                have hks : k + 2 < s.size := by omega
                have hby : s[k + 2]'hks = q[k] := HB.out k hle hks
                have hg : q[k]? = some q[k] := List.getElem?_eq_getElem hle
                rw [hg] at hn0
                generalize q[k] = c at *
                have HDIG := hid (fun w => refDigit_calls c 16 (by omega) (by omega) w)
                generalize digit c 16 = d at *
                generalize worthL 16 (q.take k) = u at *
                clear hle hg
                cases h59 : ((c.toNat : Int) == 59)
                · have hc59 : ¬ (some c = some (59 : UInt8)) := by
                    intro e
                    injection e with e
                    subst e
                    revert h59
                    decide
                  rw [if_neg hc59] at hn0
                  have HN0 := hid hn0
                  clear hn0 hc59
                  have hsb : (((s[k + 2]'hks).toNat : Int) == 59) = false := by rw [hby]; exact h59
                  go_wp2_with fail
                  refine (HDIG.out _).mono ?_
                  rintro e w' ⟨rfl, rfl⟩
                  clear hby
                  go_wp2_with fail
                  refine (HWC.out _).mono ?_
                  rintro e w2 ⟨rfl, hb2⟩
                  have HB2 := hid (HBW.out.trans (hb2.mono HBW.out.size))
                  clear hb2
                  go_wp2_with fail
                  go_ret2
                  exact ⟨by rw [HN0.out]; simp [refV2]; try go_num, HB2.out⟩
                · have hc59 : c = 59 := by
                    have : c.toNat = 59 := by have := eq_of_beq h59; omega
                    rw [← UInt8.toNat_inj]; exact this
                  rw [if_pos (by rw [hc59])] at hn0
                  have HN0 := hid hn0
                  clear hn0 hc59
                  have hsb : (((s[k + 2]'hks).toNat : Int) == 59) = true := by rw [hby]; exact h59
                  go_wp2_with fail
                  refine (HDIG.out _).mono ?_
                  rintro e w' ⟨rfl, rfl⟩
                  clear hby
                  go_wp2_with fail
                  refine (HWC.out _).mono ?_
                  rintro e w2 ⟨rfl, hb2⟩
                  have HB2 := hid (HBW.out.trans (hb2.mono HBW.out.size))
                  clear hb2
                  go_wp2_with fail
                  go_ret2
                  exact ⟨by rw [HN0.out]; simp [refV2]; try go_num, HB2.out⟩
              · have hg : q[k]? = none := List.getElem?_eq_none (by omega)
                rw [hg, if_neg (by simp)] at hn0
                have hks : k + 2 = s.size := by omega
                have HKS := hid hks
                have HN0 := hid hn0
                generalize worthL 16 (q.take k) = u at *
                have hsz9 : s.size ≤ k + 2 := by omega
                clear hn0 hg hle hks
                go_wp2_with fail
                refine (HWC.out _).mono ?_
                rintro e w2 ⟨rfl, hb2⟩
                have HB2 := hid (HBW.out.trans (hb2.mono HBW.out.size))
                clear hb2
                go_wp2_with fail
                go_ret2
                exact ⟨by rw [HN0.out]; simp [refV2]; try go_num, HB2.out⟩
end Go.Proofs.Ytmcjljjagfpkkaa
