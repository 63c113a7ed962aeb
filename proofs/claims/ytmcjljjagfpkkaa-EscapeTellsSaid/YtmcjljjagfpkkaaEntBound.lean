/-
  The contract of bound. Conditions: none.
-/
import Derived.Test.YtmcjljjagfpkkaaEntByte
set_option linter.all false
namespace Go.Proofs.Ytmcjljjagfpkkaa
open Go.RowKit
theorem ascii_enc : ∀ i : Fin 128, Utf8.encode (i.val : Int) = ⟨#[UInt8.ofNat i.val]⟩ := by decide +kernel
theorem byteT_ascii : byteT.all (fun p => match p.2 with | [c] => decide (c.toNat < 128) | _ => false) = true := by decide +kernel
set_option maxHeartbeats 8000000 in
set_option maxRecDepth 100000 in
theorem bound_calls (s : ByteArray) (w : World) :
    Calls Try.prog 34 #[.string s] w fun e w' => e = .returned (tellV (lookT strictT s.data.toList)) ∧ Below w.heap.size w w' := by
  have hc := boundByte_calls s
  have hl : lookT strictT s.data.toList = match lookT byteT s.data.toList with | some t => some t | none => lookT boundT s.data.toList := lookT_app byteT boundT _
  cases hb : lookT byteT s.data.toList with
  | some t =>
    rw [hb] at hl
    have hm := lookT_mem hb
    have ha := List.all_eq_true.1 byteT_ascii _ hm
    have hc2 : ∃ n : UInt8, t = [n] ∧ n.toNat < 128 ∧ n ≠ 0 ∧ ∀ w, Calls Try.prog 53 #[.string s] w fun e w' => e = .returned (.int .u8 (n.toNat : Int)) ∧ Below w.heap.size w w' := by
      have hz : (byteT.all fun p => p.2 != [0]) = true := by decide +kernel
      have hz2 := List.all_eq_true.1 hz _ hm
      match t, ha with
      | [c], ha =>
        refine ⟨c, rfl, of_decide_eq_true ha, fun e => by subst e; exact absurd hz2 (by simp), fun w => (hc w).mono ?_⟩
        rintro e w' ⟨n, rfl, hn, hbw⟩
        rw [hb] at hn
        by_cases h0 : n = 0
        · rw [if_pos h0] at hn; cases hn
        · rw [if_neg h0] at hn
          injection hn with hn
          injection hn with hn
          rw [hn]
          exact ⟨rfl, hbw⟩
    obtain ⟨n, rfl, hn, hn0, hcn⟩ := hc2
    have HC := hid hcn
    have HL := hid hl
    have hne : ((n.toNat : Int) != 0) = true := by
      have : n.toNat ≠ 0 := fun e => hn0 (by rw [← UInt8.toNat_inj]; exact e)
      simp [bne]; omega
    have HE : Hid (Utf8.encode (n.toNat : Int) = ⟨#[n]⟩) := hid (by have := ascii_enc ⟨n.toNat, hn⟩; simpa using this)
    clear hc hcn hl ha hm hb hn0
    go_enter Try.func34, Try.ntmps34
    go_wp2_with fail
    refine (HC.out w).mono ?_
    rintro e w1 ⟨rfl, hb1⟩
    have HB := hid hb1
    clear hb1
    go_wp2_with fail
    go_ret2
    exact ⟨by rw [HE.out]; exact tell_some HL.out, HB.out⟩
  | none =>
    rw [hb] at hl
    have hc2 : ∀ w, Calls Try.prog 53 #[.string s] w fun e w' => e = .returned (.int .u8 0) ∧ Below w.heap.size w w' := fun w => (hc w).mono (by
      rintro e w' ⟨n, rfl, hn, hbw⟩
      rw [hb] at hn
      by_cases h0 : n = 0
      · subst h0; exact ⟨rfl, hbw⟩
      · rw [if_neg h0] at hn; cases hn)
    have HC := hid hc2
    have HL := hid hl
    clear hc hc2 hl hb
    by_cases h0 : s.data.toList = [110, 111, 116, 105, 110]
    · have k0 : (s.toList == [110, 111, 116, 105, 110]) = true := (keyB h0 _).trans (by decide)
      have k1 : (s.toList == [110, 118, 108, 116]) = false := (keyB h0 _).trans (by decide)
      have k2 : (s.toList == [110, 118, 103, 116]) = false := (keyB h0 _).trans (by decide)
      have k3 : (s.toList == [122, 119, 110, 106]) = false := (keyB h0 _).trans (by decide)
      have k4 : (s.toList == [122, 119, 106]) = false := (keyB h0 _).trans (by decide)
      have k5 : (s.toList == [90, 101, 114, 111, 87, 105, 100, 116, 104, 83, 112, 97, 99, 101]) = false := (keyB h0 _).trans (by decide)
      have k6 : (s.toList == [78, 111, 66, 114, 101, 97, 107]) = false := (keyB h0 _).trans (by decide)
      have k7 : (s.toList == [102, 106, 108, 105, 103]) = false := (keyB h0 _).trans (by decide)
      have k8 : (s.toList == [99, 111, 112, 121, 115, 114]) = false := (keyB h0 _).trans (by decide)
      have k9 : (s.toList == [116, 105, 109, 101, 115, 98, 97, 114]) = false := (keyB h0 _).trans (by decide)
      have ht : lookT boundT s.data.toList = some [226, 136, 137] := by rw [h0]; decide +kernel
      have HT := hid ht
      clear ht h0
      go_enter Try.func34, Try.ntmps34
      go_wp2_with fail
      refine (HC.out w).mono ?_
      rintro e w1 ⟨rfl, hb1⟩
      have HB := hid hb1
      clear hb1
      go_wp2_with fail
      go_ret2
      exact ⟨tell_some (by rw [HL.out]; exact HT.out), HB.out⟩
    by_cases h1 : s.data.toList = [110, 118, 108, 116]
    · have k0 : (s.toList == [110, 111, 116, 105, 110]) = false := (keyB h1 _).trans (by decide)
      have k1 : (s.toList == [110, 118, 108, 116]) = true := (keyB h1 _).trans (by decide)
      have k2 : (s.toList == [110, 118, 103, 116]) = false := (keyB h1 _).trans (by decide)
      have k3 : (s.toList == [122, 119, 110, 106]) = false := (keyB h1 _).trans (by decide)
      have k4 : (s.toList == [122, 119, 106]) = false := (keyB h1 _).trans (by decide)
      have k5 : (s.toList == [90, 101, 114, 111, 87, 105, 100, 116, 104, 83, 112, 97, 99, 101]) = false := (keyB h1 _).trans (by decide)
      have k6 : (s.toList == [78, 111, 66, 114, 101, 97, 107]) = false := (keyB h1 _).trans (by decide)
      have k7 : (s.toList == [102, 106, 108, 105, 103]) = false := (keyB h1 _).trans (by decide)
      have k8 : (s.toList == [99, 111, 112, 121, 115, 114]) = false := (keyB h1 _).trans (by decide)
      have k9 : (s.toList == [116, 105, 109, 101, 115, 98, 97, 114]) = false := (keyB h1 _).trans (by decide)
      have ht : lookT boundT s.data.toList = some [60, 226, 131, 146] := by rw [h1]; decide +kernel
      have HT := hid ht
      clear ht h1
      clear h0
      go_enter Try.func34, Try.ntmps34
      go_wp2_with fail
      refine (HC.out w).mono ?_
      rintro e w1 ⟨rfl, hb1⟩
      have HB := hid hb1
      clear hb1
      go_wp2_with fail
      go_ret2
      exact ⟨tell_some (by rw [HL.out]; exact HT.out), HB.out⟩
    by_cases h2 : s.data.toList = [110, 118, 103, 116]
    · have k0 : (s.toList == [110, 111, 116, 105, 110]) = false := (keyB h2 _).trans (by decide)
      have k1 : (s.toList == [110, 118, 108, 116]) = false := (keyB h2 _).trans (by decide)
      have k2 : (s.toList == [110, 118, 103, 116]) = true := (keyB h2 _).trans (by decide)
      have k3 : (s.toList == [122, 119, 110, 106]) = false := (keyB h2 _).trans (by decide)
      have k4 : (s.toList == [122, 119, 106]) = false := (keyB h2 _).trans (by decide)
      have k5 : (s.toList == [90, 101, 114, 111, 87, 105, 100, 116, 104, 83, 112, 97, 99, 101]) = false := (keyB h2 _).trans (by decide)
      have k6 : (s.toList == [78, 111, 66, 114, 101, 97, 107]) = false := (keyB h2 _).trans (by decide)
      have k7 : (s.toList == [102, 106, 108, 105, 103]) = false := (keyB h2 _).trans (by decide)
      have k8 : (s.toList == [99, 111, 112, 121, 115, 114]) = false := (keyB h2 _).trans (by decide)
      have k9 : (s.toList == [116, 105, 109, 101, 115, 98, 97, 114]) = false := (keyB h2 _).trans (by decide)
      have ht : lookT boundT s.data.toList = some [62, 226, 131, 146] := by rw [h2]; decide +kernel
      have HT := hid ht
      clear ht h2
      clear h0 h1
      go_enter Try.func34, Try.ntmps34
      go_wp2_with fail
      refine (HC.out w).mono ?_
      rintro e w1 ⟨rfl, hb1⟩
      have HB := hid hb1
      clear hb1
      go_wp2_with fail
      go_ret2
      exact ⟨tell_some (by rw [HL.out]; exact HT.out), HB.out⟩
    by_cases h3 : s.data.toList = [122, 119, 110, 106]
    · have k0 : (s.toList == [110, 111, 116, 105, 110]) = false := (keyB h3 _).trans (by decide)
      have k1 : (s.toList == [110, 118, 108, 116]) = false := (keyB h3 _).trans (by decide)
      have k2 : (s.toList == [110, 118, 103, 116]) = false := (keyB h3 _).trans (by decide)
      have k3 : (s.toList == [122, 119, 110, 106]) = true := (keyB h3 _).trans (by decide)
      have k4 : (s.toList == [122, 119, 106]) = false := (keyB h3 _).trans (by decide)
      have k5 : (s.toList == [90, 101, 114, 111, 87, 105, 100, 116, 104, 83, 112, 97, 99, 101]) = false := (keyB h3 _).trans (by decide)
      have k6 : (s.toList == [78, 111, 66, 114, 101, 97, 107]) = false := (keyB h3 _).trans (by decide)
      have k7 : (s.toList == [102, 106, 108, 105, 103]) = false := (keyB h3 _).trans (by decide)
      have k8 : (s.toList == [99, 111, 112, 121, 115, 114]) = false := (keyB h3 _).trans (by decide)
      have k9 : (s.toList == [116, 105, 109, 101, 115, 98, 97, 114]) = false := (keyB h3 _).trans (by decide)
      have ht : lookT boundT s.data.toList = some [226, 128, 140] := by rw [h3]; decide +kernel
      have HT := hid ht
      clear ht h3
      clear h0 h1 h2
      go_enter Try.func34, Try.ntmps34
      go_wp2_with fail
      refine (HC.out w).mono ?_
      rintro e w1 ⟨rfl, hb1⟩
      have HB := hid hb1
      clear hb1
      go_wp2_with fail
      go_ret2
      exact ⟨tell_some (by rw [HL.out]; exact HT.out), HB.out⟩
    by_cases h4 : s.data.toList = [122, 119, 106]
    · have k0 : (s.toList == [110, 111, 116, 105, 110]) = false := (keyB h4 _).trans (by decide)
      have k1 : (s.toList == [110, 118, 108, 116]) = false := (keyB h4 _).trans (by decide)
      have k2 : (s.toList == [110, 118, 103, 116]) = false := (keyB h4 _).trans (by decide)
      have k3 : (s.toList == [122, 119, 110, 106]) = false := (keyB h4 _).trans (by decide)
      have k4 : (s.toList == [122, 119, 106]) = true := (keyB h4 _).trans (by decide)
      have k5 : (s.toList == [90, 101, 114, 111, 87, 105, 100, 116, 104, 83, 112, 97, 99, 101]) = false := (keyB h4 _).trans (by decide)
      have k6 : (s.toList == [78, 111, 66, 114, 101, 97, 107]) = false := (keyB h4 _).trans (by decide)
      have k7 : (s.toList == [102, 106, 108, 105, 103]) = false := (keyB h4 _).trans (by decide)
      have k8 : (s.toList == [99, 111, 112, 121, 115, 114]) = false := (keyB h4 _).trans (by decide)
      have k9 : (s.toList == [116, 105, 109, 101, 115, 98, 97, 114]) = false := (keyB h4 _).trans (by decide)
      have ht : lookT boundT s.data.toList = some [226, 128, 141] := by rw [h4]; decide +kernel
      have HT := hid ht
      clear ht h4
      clear h0 h1 h2 h3
      go_enter Try.func34, Try.ntmps34
      go_wp2_with fail
      refine (HC.out w).mono ?_
      rintro e w1 ⟨rfl, hb1⟩
      have HB := hid hb1
      clear hb1
      go_wp2_with fail
      go_ret2
      exact ⟨tell_some (by rw [HL.out]; exact HT.out), HB.out⟩
    by_cases h5 : s.data.toList = [90, 101, 114, 111, 87, 105, 100, 116, 104, 83, 112, 97, 99, 101]
    · have k0 : (s.toList == [110, 111, 116, 105, 110]) = false := (keyB h5 _).trans (by decide)
      have k1 : (s.toList == [110, 118, 108, 116]) = false := (keyB h5 _).trans (by decide)
      have k2 : (s.toList == [110, 118, 103, 116]) = false := (keyB h5 _).trans (by decide)
      have k3 : (s.toList == [122, 119, 110, 106]) = false := (keyB h5 _).trans (by decide)
      have k4 : (s.toList == [122, 119, 106]) = false := (keyB h5 _).trans (by decide)
      have k5 : (s.toList == [90, 101, 114, 111, 87, 105, 100, 116, 104, 83, 112, 97, 99, 101]) = true := (keyB h5 _).trans (by decide)
      have k6 : (s.toList == [78, 111, 66, 114, 101, 97, 107]) = false := (keyB h5 _).trans (by decide)
      have k7 : (s.toList == [102, 106, 108, 105, 103]) = false := (keyB h5 _).trans (by decide)
      have k8 : (s.toList == [99, 111, 112, 121, 115, 114]) = false := (keyB h5 _).trans (by decide)
      have k9 : (s.toList == [116, 105, 109, 101, 115, 98, 97, 114]) = false := (keyB h5 _).trans (by decide)
      have ht : lookT boundT s.data.toList = some [226, 128, 139] := by rw [h5]; decide +kernel
      have HT := hid ht
      clear ht h5
      clear h0 h1 h2 h3 h4
      go_enter Try.func34, Try.ntmps34
      go_wp2_with fail
      refine (HC.out w).mono ?_
      rintro e w1 ⟨rfl, hb1⟩
      have HB := hid hb1
      clear hb1
      go_wp2_with fail
      go_ret2
      exact ⟨tell_some (by rw [HL.out]; exact HT.out), HB.out⟩
    by_cases h6 : s.data.toList = [78, 111, 66, 114, 101, 97, 107]
    · have k0 : (s.toList == [110, 111, 116, 105, 110]) = false := (keyB h6 _).trans (by decide)
      have k1 : (s.toList == [110, 118, 108, 116]) = false := (keyB h6 _).trans (by decide)
      have k2 : (s.toList == [110, 118, 103, 116]) = false := (keyB h6 _).trans (by decide)
      have k3 : (s.toList == [122, 119, 110, 106]) = false := (keyB h6 _).trans (by decide)
      have k4 : (s.toList == [122, 119, 106]) = false := (keyB h6 _).trans (by decide)
      have k5 : (s.toList == [90, 101, 114, 111, 87, 105, 100, 116, 104, 83, 112, 97, 99, 101]) = false := (keyB h6 _).trans (by decide)
      have k6 : (s.toList == [78, 111, 66, 114, 101, 97, 107]) = true := (keyB h6 _).trans (by decide)
      have k7 : (s.toList == [102, 106, 108, 105, 103]) = false := (keyB h6 _).trans (by decide)
      have k8 : (s.toList == [99, 111, 112, 121, 115, 114]) = false := (keyB h6 _).trans (by decide)
      have k9 : (s.toList == [116, 105, 109, 101, 115, 98, 97, 114]) = false := (keyB h6 _).trans (by decide)
      have ht : lookT boundT s.data.toList = some [226, 129, 160] := by rw [h6]; decide +kernel
      have HT := hid ht
      clear ht h6
      clear h0 h1 h2 h3 h4 h5
      go_enter Try.func34, Try.ntmps34
      go_wp2_with fail
      refine (HC.out w).mono ?_
      rintro e w1 ⟨rfl, hb1⟩
      have HB := hid hb1
      clear hb1
      go_wp2_with fail
      go_ret2
      exact ⟨tell_some (by rw [HL.out]; exact HT.out), HB.out⟩
    by_cases h7 : s.data.toList = [102, 106, 108, 105, 103]
    · have k0 : (s.toList == [110, 111, 116, 105, 110]) = false := (keyB h7 _).trans (by decide)
      have k1 : (s.toList == [110, 118, 108, 116]) = false := (keyB h7 _).trans (by decide)
      have k2 : (s.toList == [110, 118, 103, 116]) = false := (keyB h7 _).trans (by decide)
      have k3 : (s.toList == [122, 119, 110, 106]) = false := (keyB h7 _).trans (by decide)
      have k4 : (s.toList == [122, 119, 106]) = false := (keyB h7 _).trans (by decide)
      have k5 : (s.toList == [90, 101, 114, 111, 87, 105, 100, 116, 104, 83, 112, 97, 99, 101]) = false := (keyB h7 _).trans (by decide)
      have k6 : (s.toList == [78, 111, 66, 114, 101, 97, 107]) = false := (keyB h7 _).trans (by decide)
      have k7 : (s.toList == [102, 106, 108, 105, 103]) = true := (keyB h7 _).trans (by decide)
      have k8 : (s.toList == [99, 111, 112, 121, 115, 114]) = false := (keyB h7 _).trans (by decide)
      have k9 : (s.toList == [116, 105, 109, 101, 115, 98, 97, 114]) = false := (keyB h7 _).trans (by decide)
      have ht : lookT boundT s.data.toList = some [102, 106] := by rw [h7]; decide +kernel
      have HT := hid ht
      clear ht h7
      clear h0 h1 h2 h3 h4 h5 h6
      go_enter Try.func34, Try.ntmps34
      go_wp2_with fail
      refine (HC.out w).mono ?_
      rintro e w1 ⟨rfl, hb1⟩
      have HB := hid hb1
      clear hb1
      go_wp2_with fail
      go_ret2
      exact ⟨tell_some (by rw [HL.out]; exact HT.out), HB.out⟩
    by_cases h8 : s.data.toList = [99, 111, 112, 121, 115, 114]
    · have k0 : (s.toList == [110, 111, 116, 105, 110]) = false := (keyB h8 _).trans (by decide)
      have k1 : (s.toList == [110, 118, 108, 116]) = false := (keyB h8 _).trans (by decide)
      have k2 : (s.toList == [110, 118, 103, 116]) = false := (keyB h8 _).trans (by decide)
      have k3 : (s.toList == [122, 119, 110, 106]) = false := (keyB h8 _).trans (by decide)
      have k4 : (s.toList == [122, 119, 106]) = false := (keyB h8 _).trans (by decide)
      have k5 : (s.toList == [90, 101, 114, 111, 87, 105, 100, 116, 104, 83, 112, 97, 99, 101]) = false := (keyB h8 _).trans (by decide)
      have k6 : (s.toList == [78, 111, 66, 114, 101, 97, 107]) = false := (keyB h8 _).trans (by decide)
      have k7 : (s.toList == [102, 106, 108, 105, 103]) = false := (keyB h8 _).trans (by decide)
      have k8 : (s.toList == [99, 111, 112, 121, 115, 114]) = true := (keyB h8 _).trans (by decide)
      have k9 : (s.toList == [116, 105, 109, 101, 115, 98, 97, 114]) = false := (keyB h8 _).trans (by decide)
      have ht : lookT boundT s.data.toList = some [226, 132, 151] := by rw [h8]; decide +kernel
      have HT := hid ht
      clear ht h8
      clear h0 h1 h2 h3 h4 h5 h6 h7
      go_enter Try.func34, Try.ntmps34
      go_wp2_with fail
      refine (HC.out w).mono ?_
      rintro e w1 ⟨rfl, hb1⟩
      have HB := hid hb1
      clear hb1
      go_wp2_with fail
      go_ret2
      exact ⟨tell_some (by rw [HL.out]; exact HT.out), HB.out⟩
    by_cases h9 : s.data.toList = [116, 105, 109, 101, 115, 98, 97, 114]
    · have k0 : (s.toList == [110, 111, 116, 105, 110]) = false := (keyB h9 _).trans (by decide)
      have k1 : (s.toList == [110, 118, 108, 116]) = false := (keyB h9 _).trans (by decide)
      have k2 : (s.toList == [110, 118, 103, 116]) = false := (keyB h9 _).trans (by decide)
      have k3 : (s.toList == [122, 119, 110, 106]) = false := (keyB h9 _).trans (by decide)
      have k4 : (s.toList == [122, 119, 106]) = false := (keyB h9 _).trans (by decide)
      have k5 : (s.toList == [90, 101, 114, 111, 87, 105, 100, 116, 104, 83, 112, 97, 99, 101]) = false := (keyB h9 _).trans (by decide)
      have k6 : (s.toList == [78, 111, 66, 114, 101, 97, 107]) = false := (keyB h9 _).trans (by decide)
      have k7 : (s.toList == [102, 106, 108, 105, 103]) = false := (keyB h9 _).trans (by decide)
      have k8 : (s.toList == [99, 111, 112, 121, 115, 114]) = false := (keyB h9 _).trans (by decide)
      have k9 : (s.toList == [116, 105, 109, 101, 115, 98, 97, 114]) = true := (keyB h9 _).trans (by decide)
      have ht : lookT boundT s.data.toList = some [226, 168, 177] := by rw [h9]; decide +kernel
      have HT := hid ht
      clear ht h9
      clear h0 h1 h2 h3 h4 h5 h6 h7 h8
      go_enter Try.func34, Try.ntmps34
      go_wp2_with fail
      refine (HC.out w).mono ?_
      rintro e w1 ⟨rfl, hb1⟩
      have HB := hid hb1
      clear hb1
      go_wp2_with fail
      go_ret2
      exact ⟨tell_some (by rw [HL.out]; exact HT.out), HB.out⟩
    have k0 : (s.toList == [110, 111, 116, 105, 110]) = false := keyN h0
    have k1 : (s.toList == [110, 118, 108, 116]) = false := keyN h1
    have k2 : (s.toList == [110, 118, 103, 116]) = false := keyN h2
    have k3 : (s.toList == [122, 119, 110, 106]) = false := keyN h3
    have k4 : (s.toList == [122, 119, 106]) = false := keyN h4
    have k5 : (s.toList == [90, 101, 114, 111, 87, 105, 100, 116, 104, 83, 112, 97, 99, 101]) = false := keyN h5
    have k6 : (s.toList == [78, 111, 66, 114, 101, 97, 107]) = false := keyN h6
    have k7 : (s.toList == [102, 106, 108, 105, 103]) = false := keyN h7
    have k8 : (s.toList == [99, 111, 112, 121, 115, 114]) = false := keyN h8
    have k9 : (s.toList == [116, 105, 109, 101, 115, 98, 97, 114]) = false := keyN h9
    have ht : lookT boundT s.data.toList = none := by
      unfold lookT boundT
      simp [Ne.symm h0, Ne.symm h1, Ne.symm h2, Ne.symm h3, Ne.symm h4, Ne.symm h5, Ne.symm h6, Ne.symm h7, Ne.symm h8, Ne.symm h9]
    have HT := hid ht
    clear ht h0 h1 h2 h3 h4 h5 h6 h7 h8 h9
    go_enter Try.func34, Try.ntmps34
    go_wp2_with fail
    refine (HC.out w).mono ?_
    rintro e w1 ⟨rfl, hb1⟩
    have HB := hid hb1
    clear hb1
    go_wp2_with fail
    go_ret2
    exact ⟨tell_none (by rw [HL.out]; exact HT.out), HB.out⟩
end Go.Proofs.Ytmcjljjagfpkkaa
