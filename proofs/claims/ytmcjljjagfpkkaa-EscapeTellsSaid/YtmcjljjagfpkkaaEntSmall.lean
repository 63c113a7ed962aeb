/-
  The small case of layer 5. Conditions: none.
-/
import Derived.Test.YtmcjljjagfpkkaaEntDecode
set_option linter.all false
namespace Go.Proofs.Ytmcjljjagfpkkaa
open Go.RowKit
/-- decE by steps that are counted -/
def decF : Nat → List UInt8 → List UInt8
  | 0, l => l
  | _, [] => []
  | n + 1, c :: r => if c = 38 then match refE r with
      | some (t, k) => t ++ decF n (r.drop k)
      | none => 38 :: decF n r
    else c :: decF n r
theorem decF_eq : ∀ n (l : List UInt8), l.length ≤ n → decF n l = decE l := by
  intro n
  induction n with
  | zero =>
    intro l hl
    have : l = [] := List.length_eq_zero_iff.1 (by omega)
    subst this
    rw [decE_nil]; rfl
  | succ n ih =>
    intro l hl
    cases l with
    | nil => rw [decE_nil]; rfl
    | cons c r =>
      simp only [List.length_cons] at hl
      by_cases hc : c = 38
      · subst hc
        cases hr : refE r with
        | none =>
          rw [decE_none hr, ← ih r (by omega)]
          simp only [decF, hr, if_true]
        | some p =>
          obtain ⟨t, k⟩ := p
          rw [decE_some hr, ← ih (r.drop k) (by simp; omega)]
          simp only [decF, hr, if_true]
      · rw [decE_other _ hc, ← ih r (by omega)]
        simp only [decF, if_neg hc]
theorem decE_const (l m : List UInt8) (h : decF l.length l = m) : decE l = m := by rw [← decF_eq _ l (Nat.le_refl _)]; exact h
theorem lit_same (l : List UInt8) : ((⟨l.toArray⟩ : ByteArray).toList == l) = true := by rw [ByteArray.toList_eq]; simp
set_option maxHeartbeats 4000000 in
set_option maxRecDepth 100000 in
theorem entSmall_calls (w : World) : Calls Try.prog 13 #[] w fun e w' => e = .returned (.bool true) ∧ Below w.heap.size w w' := by
  have n_0 : ∀ w, Calls Try.prog 14 #[.string ⟨#[97, 109, 112]⟩] w fun e w' => e = .returned (.tuple #[.string ⟨#[38]⟩, .bool true]) ∧ Below w.heap.size w w' := fun w => named_some ⟨#[97, 109, 112]⟩ [38] (by decide +kernel) (by decide) w
  have n_1 : ∀ w, Calls Try.prog 14 #[.string ⟨#[97, 112, 111, 115, 59]⟩] w fun e w' => e = .returned (.tuple #[.string ⟨#[39]⟩, .bool true]) ∧ Below w.heap.size w w' := fun w => named_some ⟨#[97, 112, 111, 115, 59]⟩ [39] (by decide +kernel) (by decide) w
  have n_2 : ∀ w, Calls Try.prog 14 #[.string ⟨#[97, 112, 111, 115]⟩] w fun e w' => e = .returned (.tuple #[.string ⟨#[]⟩, .bool false]) ∧ Below w.heap.size w w' := fun w => named_no ⟨#[97, 112, 111, 115]⟩ (by decide +kernel) (by decide) w
  have n_3 : ∀ w, Calls Try.prog 14 #[.string ⟨#[110, 118, 108, 116, 59]⟩] w fun e w' => e = .returned (.tuple #[.string ⟨#[60, 226, 131, 146]⟩, .bool true]) ∧ Below w.heap.size w w' := fun w => named_some ⟨#[110, 118, 108, 116, 59]⟩ [60, 226, 131, 146] (by decide +kernel) (by decide) w
  have z_0 : ∀ w, Calls Try.prog 16 #[.int .i64 128] w fun e w' => e = .returned (.string ⟨#[226, 130, 172]⟩) ∧ Below w.heap.size w w' := fun w => by
    have h := number_calls 128 w (by omega) (by omega)
    rw [show numberL 128 = [226, 130, 172] by decide +kernel] at h
    exact h
  have z_1 : ∀ w, Calls Try.prog 16 #[.int .i64 57343] w fun e w' => e = .returned (.string ⟨#[239, 191, 189]⟩) ∧ Below w.heap.size w w' := fun w => by
    have h := number_calls 57343 w (by omega) (by omega)
    rw [show numberL 57343 = [239, 191, 189] by decide +kernel] at h
    exact h
  have z_2 : ∀ w, Calls Try.prog 16 #[.int .i64 0] w fun e w' => e = .returned (.string ⟨#[239, 191, 189]⟩) ∧ Below w.heap.size w w' := fun w => by
    have h := number_calls 0 w (by omega) (by omega)
    rw [show numberL 0 = [239, 191, 189] by decide +kernel] at h
    exact h
  have d_0 : ∀ w, Calls Try.prog 18 #[.string ⟨#[38, 110, 111, 116, 105, 110, 59, 38, 110, 111, 116, 105, 116, 59, 38, 110, 111, 116, 61, 38, 110, 111, 116]⟩] w fun e w' => e = .returned (.string ⟨#[226, 136, 137, 38, 110, 111, 116, 105, 116, 59, 38, 110, 111, 116, 61, 194, 172]⟩) ∧ Below w.heap.size w w' := fun w => by
    have h := decodeE_calls ⟨#[38, 110, 111, 116, 105, 110, 59, 38, 110, 111, 116, 105, 116, 59, 38, 110, 111, 116, 61, 38, 110, 111, 116]⟩ w (by decide)
    rw [show decE (⟨#[38, 110, 111, 116, 105, 110, 59, 38, 110, 111, 116, 105, 116, 59, 38, 110, 111, 116, 61, 38, 110, 111, 116]⟩ : ByteArray).data.toList = [226, 136, 137, 38, 110, 111, 116, 105, 116, 59, 38, 110, 111, 116, 61, 194, 172] from decE_const [38, 110, 111, 116, 105, 110, 59, 38, 110, 111, 116, 105, 116, 59, 38, 110, 111, 116, 61, 38, 110, 111, 116] _ (by decide +kernel)] at h
    exact h
  have d_1 : ∀ w, Calls Try.prog 18 #[.string ⟨#[38, 35, 51, 56, 97, 109, 112, 59, 38, 35, 54, 53, 38, 35, 59, 38, 35, 120, 59, 38, 38, 35, 57, 57, 57, 57, 57, 57, 57, 57, 57, 57, 57, 57, 57, 57, 57, 57, 57, 57, 57, 57, 59]⟩] w fun e w' => e = .returned (.string ⟨#[38, 97, 109, 112, 59, 65, 38, 35, 59, 38, 35, 120, 59, 38, 239, 191, 189]⟩) ∧ Below w.heap.size w w' := fun w => by
    have h := decodeE_calls ⟨#[38, 35, 51, 56, 97, 109, 112, 59, 38, 35, 54, 53, 38, 35, 59, 38, 35, 120, 59, 38, 38, 35, 57, 57, 57, 57, 57, 57, 57, 57, 57, 57, 57, 57, 57, 57, 57, 57, 57, 57, 57, 57, 59]⟩ w (by decide)
    rw [show decE (⟨#[38, 35, 51, 56, 97, 109, 112, 59, 38, 35, 54, 53, 38, 35, 59, 38, 35, 120, 59, 38, 38, 35, 57, 57, 57, 57, 57, 57, 57, 57, 57, 57, 57, 57, 57, 57, 57, 57, 57, 57, 57, 57, 59]⟩ : ByteArray).data.toList = [38, 97, 109, 112, 59, 65, 38, 35, 59, 38, 35, 120, 59, 38, 239, 191, 189] from decE_const [38, 35, 51, 56, 97, 109, 112, 59, 38, 35, 54, 53, 38, 35, 59, 38, 35, 120, 59, 38, 38, 35, 57, 57, 57, 57, 57, 57, 57, 57, 57, 57, 57, 57, 57, 57, 57, 57, 57, 57, 57, 57, 59] _ (by decide +kernel)] at h
    exact h
  have k_0 : ((⟨#[38]⟩ : ByteArray).toList == [38]) = true := lit_same [38]
  have k_1 : ((⟨#[39]⟩ : ByteArray).toList == [39]) = true := lit_same [39]
  have k_2 : ((⟨#[60, 226, 131, 146]⟩ : ByteArray).toList == [60, 226, 131, 146]) = true := lit_same [60, 226, 131, 146]
  have k_3 : ((⟨#[226, 130, 172]⟩ : ByteArray).toList == [226, 130, 172]) = true := lit_same [226, 130, 172]
  have k_4 : ((⟨#[239, 191, 189]⟩ : ByteArray).toList == [239, 191, 189]) = true := lit_same [239, 191, 189]
  have k_6 : ((⟨#[226, 136, 137, 38, 110, 111, 116, 105, 116, 59, 38, 110, 111, 116, 61, 194, 172]⟩ : ByteArray).toList == [226, 136, 137, 38, 110, 111, 116, 105, 116, 59, 38, 110, 111, 116, 61, 194, 172]) = true := lit_same [226, 136, 137, 38, 110, 111, 116, 105, 116, 59, 38, 110, 111, 116, 61, 194, 172]
  have k_7 : ((⟨#[38, 97, 109, 112, 59, 65, 38, 35, 59, 38, 35, 120, 59, 38, 239, 191, 189]⟩ : ByteArray).toList == [38, 97, 109, 112, 59, 65, 38, 35, 59, 38, 35, 120, 59, 38, 239, 191, 189]) = true := lit_same [38, 97, 109, 112, 59, 65, 38, 35, 59, 38, 35, 120, 59, 38, 239, 191, 189]
  have NN0 := hid n_0
  have NN1 := hid n_1
  have NN2 := hid n_2
  have NN3 := hid n_3
  have ZZ0 := hid z_0
  have ZZ1 := hid z_1
  have ZZ2 := hid z_2
  have DD0 := hid d_0
  have DD1 := hid d_1
  clear n_0 n_1 n_2 n_3 z_0 z_1 z_2 d_0 d_1
  have HB := hid (Below.refl w.heap.size w)
  go_enter Try.func13, Try.ntmps13
  go_wp2_with fail
  refine (NN0.out _).mono ?_
  rintro e w_NN0 ⟨rfl, hb⟩
  have HB := hid (HB.out.trans (hb.mono HB.out.size))
  clear hb
  go_wp2_with fail
  refine (NN1.out _).mono ?_
  rintro e w_NN1 ⟨rfl, hb⟩
  have HB := hid (HB.out.trans (hb.mono HB.out.size))
  clear hb
  go_wp2_with fail
  refine (NN2.out _).mono ?_
  rintro e w_NN2 ⟨rfl, hb⟩
  have HB := hid (HB.out.trans (hb.mono HB.out.size))
  clear hb
  go_wp2_with fail
  refine (NN3.out _).mono ?_
  rintro e w_NN3 ⟨rfl, hb⟩
  have HB := hid (HB.out.trans (hb.mono HB.out.size))
  clear hb
  go_wp2_with fail
  refine (ZZ0.out _).mono ?_
  rintro e w_ZZ0 ⟨rfl, hb⟩
  have HB := hid (HB.out.trans (hb.mono HB.out.size))
  clear hb
  go_wp2_with fail
  refine (ZZ1.out _).mono ?_
  rintro e w_ZZ1 ⟨rfl, hb⟩
  have HB := hid (HB.out.trans (hb.mono HB.out.size))
  clear hb
  go_wp2_with fail
  refine (ZZ2.out _).mono ?_
  rintro e w_ZZ2 ⟨rfl, hb⟩
  have HB := hid (HB.out.trans (hb.mono HB.out.size))
  clear hb
  go_wp2_with fail
  refine (DD0.out _).mono ?_
  rintro e w_DD0 ⟨rfl, hb⟩
  have HB := hid (HB.out.trans (hb.mono HB.out.size))
  clear hb
  go_wp2_with fail
  refine (DD1.out _).mono ?_
  rintro e w_DD1 ⟨rfl, hb⟩
  have HB := hid (HB.out.trans (hb.mono HB.out.size))
  clear hb
  go_wp2_with fail
  go_ret
  exact ⟨rfl, HB.out⟩
end Go.Proofs.Ytmcjljjagfpkkaa
