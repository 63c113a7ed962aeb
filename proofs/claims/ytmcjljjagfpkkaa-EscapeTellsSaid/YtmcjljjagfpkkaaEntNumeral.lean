/-
  The contract of numeral. Conditions: a number up to 2097152, at most 20 noughts.
-/
import Derived.Test.YtmcjljjagfpkkaaEntPlainW
import Derived.BigQuiet
set_option linter.all false
namespace Go.Proofs.Ytmcjljjagfpkkaa
open Go.RowKit
theorem below_drewN {B : Nat} {w w' : World} (h : Below B w w') (n : Nat) : Below B w (w'.drewN n) := by
  obtain ⟨a, b, c, d, e⟩ := h
  exact ⟨a, b, c, d, e⟩
def digStr : ByteArray := ⟨#[48, 49, 50, 51, 52, 53, 54, 55, 56, 57, 97, 98, 99, 100, 101, 102]⟩
theorem digStr_cut : ∀ r : Fin 16, (digStr.extract r.val (r.val + 1)).data.toList = [digC r.val] := by decide +kernel
theorem digStr_cut' {r q : Nat} (h : r < 16) (hq : q = r + 1) : (⟨#[48, 49, 50, 51, 52, 53, 54, 55, 56, 57, 97, 98, 99, 100, 101, 102]⟩ : ByteArray).extract r q = strB [digC r] := by
  subst hq
  have := digStr_cut ⟨r, h⟩
  rw [← strB_of (ByteArray.extract _ _ _)]
  exact congrArg strB this
theorem strB_cons (c : UInt8) (l : List UInt8) : strB [c] ++ strB l = strB (c :: l) := (strB_app [c] l).symm
/-- what stands written, and what is left -/
def NumAt (base m j : Nat) (l : List UInt8) : Prop := (l = [] ∧ j = m) ∨ (l ≠ [] ∧ numerL base m = digsL base j ++ l)
theorem NumAt.next {base m j : Nat} {l : List UInt8} (hb : 2 ≤ base) (h : NumAt base m j l) (hj : 0 < j ∨ l = []) : NumAt base m (j / base) (digC (j % base) :: l) := by
  right
  refine ⟨by simp, ?_⟩
  rcases h with ⟨rfl, rfl⟩ | ⟨h1, h2⟩
  · unfold numerL
    by_cases h0 : j = 0
    · subst h0
      rw [if_pos rfl, Nat.zero_div, digsL_zero, Nat.zero_mod]
      rfl
    · rw [if_neg h0, digsL_pos hb (by omega)]
  · have h0 : 0 < j := by rcases hj with h | h; exact h; exact absurd h h1
    rw [h2, digsL_pos hb h0]
    simp
theorem NumAt.done {base m : Nat} {l : List UInt8} (h : NumAt base m 0 l) (hl : l ≠ []) : l = numerL base m := by
  rcases h with ⟨h1, _⟩ | ⟨_, h2⟩
  · exact absurd h1 hl
  · rw [h2, digsL_zero]; rfl
set_option maxHeartbeats 4000000 in
set_option maxRecDepth 100000 in
theorem numeral_10 (m k : Nat) (w : World) (hm : m ≤ 2097152) (hk : k ≤ 20) :
    Calls Try.prog 20 #[.int .i64 (m : Int), .int .i64 10, .int .i64 (k : Int)] w fun e w' => e = .returned (.string (strB (numeralL 10 m k))) ∧ Below w.heap.size w w' := by
  go_enter Try.func20, Try.ntmps20
  go_wp2_with fail
  go_loopw [0, 8] (fun v s wr => ∃ (j : Nat) (l : List UInt8), v = .int .i64 j ∧ s = .string (strB l) ∧ Hid (NumAt 10 m j l) ∧ l.length + j ≤ m + 1 ∧ Below w.heap.size w wr) (fun v s _ => (intOf v).toNat * 2 + (match s with | .string x => if x.size = 0 then 1 else 0 | _ => 0))
  case atStart => exact ⟨m, [], rfl, rfl, hid (.inl ⟨rfl, rfl⟩), by simp, Below.refl _ _⟩
  case round =>
    obtain ⟨j, l, rfl, rfl, hna, hlen, hbw⟩ := hrel
    have HBW := hid hbw
    clear hbw
    have hemp := strB_empty l
    by_cases hgo : 0 < j ∨ l = []
    · have HNX : Hid (NumAt 10 m (j / 10) (digC (j % 10) :: l)) := hid (hna.out.next (by omega) hgo)
      obtain ⟨r, hr⟩ : ∃ r, r = j % 10 := ⟨_, rfl⟩
      obtain ⟨q, hq⟩ : ∃ q, q = r + 1 := ⟨_, rfl⟩
      obtain ⟨d, hd⟩ : ∃ d, d = j / 10 := ⟨_, rfl⟩
      have hr16 : r < 16 := by omega
      have hcut := digStr_cut' hr16 hq
      have t1 : (j : Int).tmod 10 = (r : Int) := by rw [Int.tmod_eq_emod_of_nonneg (by omega)]; omega
      have t2 : (j : Int) % 10 = (r : Int) := by omega
      have hWq : IntKind.i64.wrap ((r : Int) + 1) = (q : Int) := by rw [IntWalk.i64_in _ (by omega)]; omega
      have hrq : r ≤ q := by omega
      have hq16 : q ≤ 16 := by omega
      have hq17 : q ≤ (⟨#[48, 49, 50, 51, 52, 53, 54, 55, 56, 57, 97, 98, 99, 100, 101, 102]⟩ : ByteArray).size := hq16
      have hq18 : (q : Int) ≤ 16 := by omega
      have hq19 : (r : Int) ≤ (q : Int) := by omega
      have hq20 : (q : Int) ≤ ((⟨#[48, 49, 50, 51, 52, 53, 54, 55, 56, 57, 97, 98, 99, 100, 101, 102]⟩ : ByteArray).size : Int) := by have := hq17; omega
      have hz3 : ¬ (9223372036854775807 < (strB [digC r]).size + (strB l).size) := by rw [strB_size, strB_size]; simp; omega
      have hsum := strB_cons (digC r) l
      have hd1 : d + (if 0 < j then 1 else 0) ≤ j := by rw [hd]; split <;> omega
      rw [← hr, ← hd] at HNX
      have HD := hid hd
      have hmeas : Hid (d * 2 < j * 2 + (if (strB l).size = 0 then 1 else 0)) := hid (by
        rw [strB_size]
        rcases hgo with h | h
        · rw [if_pos h] at hd1; omega
        · subst h; simp; split at hd1 <;> omega)
      have hlen2 : Hid ((digC r :: l).length + d ≤ m + 1) := hid (by
        simp only [List.length_cons]
        rcases hgo with h | h
        · rw [if_pos h] at hd1; omega
        · subst h; simp at hlen ⊢; split at hd1 <;> omega)
      have hq2 : (j : Int).tdiv 10 = (d : Int) := by rw [Int.tdiv_eq_ediv_of_nonneg (by omega)]; omega
      have hq3 : (j : Int) / 10 = (d : Int) := by omega
      have HQ2 := hid hq2
      have HQ3 := hid hq3
      have HSUM := hid hsum
      clear hr hq hd hd1 hsum hq2 hq3
      have body : True := trivial
      by_cases hj0 : 0 < j
      · have e1 : decide (0 < (j : Int)) = true := decide_eq_true (by omega)
        clear hgo
        go_wp2_with fail
        go_quiet (fail)
        have hq2 := HQ2.out
        have hq3 := HQ3.out
        have hsum := HSUM.out
        clear hcut t1 t2 hWq
        go_wp2_with fail
        go_roundw
        case rel => exact ⟨d, digC r :: l, rfl, by rw [hsum], HNX, hlen2.out, below_drewN HBW.out _⟩
        case measure => have := hmeas.out; simp [intOf, strB_size]; simp [strB_size] at this; omega
      · have hle : l = [] := by rcases hgo with h | h; exact absurd h hj0; exact h
        have e1 : decide (0 < (j : Int)) = false := decide_eq_false (by omega)
        have e3 : decide (0 < j) = false := decide_eq_false hj0
        have e4 : (0 < j) = False := eq_false hj0
        have e2 : (strB l).toList.isEmpty = true := by rw [hemp, hle]; rfl
        clear hgo hle hemp
        go_wp2_with fail
        go_quiet (fail)
        have hq2 := HQ2.out
        have hq3 := HQ3.out
        have hsum := HSUM.out
        clear hcut t1 t2 hWq
        go_wp2_with fail
        go_roundw
        case rel => exact ⟨d, digC r :: l, rfl, by rw [hsum], HNX, hlen2.out, below_drewN HBW.out _⟩
        case measure => have := hmeas.out; simp [intOf, strB_size]; simp [strB_size] at this; omega
    · have hj0 : j = 0 := by omega
      have hl0 : l ≠ [] := fun e => hgo (.inr e)
      have hl9 : (strB l).toList.isEmpty = false := by rw [hemp]; cases l with | nil => exact absurd rfl hl0 | cons a b => rfl
      have HF : Hid (l = numerL 10 m) := hid (by subst hj0; exact hna.out.done hl0)
      subst hj0
      clear hgo hl0 hemp hna
      have hlz : (strB l).size ≤ 2097153 := by rw [strB_size]; omega
      go_wp2_with fail
      go_loopw [8, 9] (fun s i wr => ∃ n : Nat, n ≤ k ∧ i = .int .i64 n ∧ s = .string (strB (List.replicate n 48 ++ l)) ∧ Below w.heap.size w wr) (fun _ i _ => k - (intOf i).toNat)
      case atStart => exact ⟨0, Nat.zero_le _, rfl, rfl, HBW.out⟩
      case round =>
        obtain ⟨n, hn, rfl, rfl, hbw⟩ := hrel
        have HBW := hid hbw
        clear hbw
        have hz : (strB (List.replicate n 48 ++ l)).size ≤ 2097200 := by rw [strB_size]; simp; rw [strB_size] at hlz; omega
        have hs : (⟨#[48]⟩ : ByteArray) ++ strB (List.replicate n 48 ++ l) = strB (List.replicate (n + 1) 48 ++ l) := by
          have := strB_cons 48 (List.replicate n 48 ++ l)
          rw [List.replicate_succ, List.cons_append, ← this]
          rfl
        have h48 : (⟨#[48]⟩ : ByteArray).size = 1 := rfl
        have HS := hid hs
        have HNL : Hid (n = k → strB (List.replicate n 48 ++ l) = strB (numeralL 10 m k)) := hid (fun e => by rw [e, HF.out]; rfl)
        generalize strB (List.replicate n 48 ++ l) = x at *
        clear hs
        by_cases hnk : n < k
        · go_wp2_with fail
          go_roundw
          case rel => exact ⟨n + 1, by omega, by go_num, by rw [HS.out], HBW.out⟩
          case measure => simp [intOf]; omega
        · have HX := hid (HNL.out (by omega))
          go_wp2_with fail
          go_ret
          exact ⟨by rw [← HX.out]; rfl, HBW.out⟩
set_option maxHeartbeats 4000000 in
set_option maxRecDepth 100000 in
theorem numeral_16 (m k : Nat) (w : World) (hm : m ≤ 2097152) (hk : k ≤ 20) :
    Calls Try.prog 20 #[.int .i64 (m : Int), .int .i64 16, .int .i64 (k : Int)] w fun e w' => e = .returned (.string (strB (numeralL 16 m k))) ∧ Below w.heap.size w w' := by
  go_enter Try.func20, Try.ntmps20
  go_wp2_with fail
  go_loopw [0, 8] (fun v s wr => ∃ (j : Nat) (l : List UInt8), v = .int .i64 j ∧ s = .string (strB l) ∧ Hid (NumAt 16 m j l) ∧ l.length + j ≤ m + 1 ∧ Below w.heap.size w wr) (fun v s _ => (intOf v).toNat * 2 + (match s with | .string x => if x.size = 0 then 1 else 0 | _ => 0))
  case atStart => exact ⟨m, [], rfl, rfl, hid (.inl ⟨rfl, rfl⟩), by simp, Below.refl _ _⟩
  case round =>
    obtain ⟨j, l, rfl, rfl, hna, hlen, hbw⟩ := hrel
    have HBW := hid hbw
    clear hbw
    have hemp := strB_empty l
    by_cases hgo : 0 < j ∨ l = []
    · have HNX : Hid (NumAt 16 m (j / 16) (digC (j % 16) :: l)) := hid (hna.out.next (by omega) hgo)
      obtain ⟨r, hr⟩ : ∃ r, r = j % 16 := ⟨_, rfl⟩
      obtain ⟨q, hq⟩ : ∃ q, q = r + 1 := ⟨_, rfl⟩
      obtain ⟨d, hd⟩ : ∃ d, d = j / 16 := ⟨_, rfl⟩
      have hr16 : r < 16 := by omega
      have hcut := digStr_cut' hr16 hq
      have t1 : (j : Int).tmod 16 = (r : Int) := by rw [Int.tmod_eq_emod_of_nonneg (by omega)]; omega
      have t2 : (j : Int) % 16 = (r : Int) := by omega
      have hWq : IntKind.i64.wrap ((r : Int) + 1) = (q : Int) := by rw [IntWalk.i64_in _ (by omega)]; omega
      have hrq : r ≤ q := by omega
      have hq16 : q ≤ 16 := by omega
      have hq17 : q ≤ (⟨#[48, 49, 50, 51, 52, 53, 54, 55, 56, 57, 97, 98, 99, 100, 101, 102]⟩ : ByteArray).size := hq16
      have hq18 : (q : Int) ≤ 16 := by omega
      have hq19 : (r : Int) ≤ (q : Int) := by omega
      have hq20 : (q : Int) ≤ ((⟨#[48, 49, 50, 51, 52, 53, 54, 55, 56, 57, 97, 98, 99, 100, 101, 102]⟩ : ByteArray).size : Int) := by have := hq17; omega
      have hz3 : ¬ (9223372036854775807 < (strB [digC r]).size + (strB l).size) := by rw [strB_size, strB_size]; simp; omega
      have hsum := strB_cons (digC r) l
      have hd1 : d + (if 0 < j then 1 else 0) ≤ j := by rw [hd]; split <;> omega
      rw [← hr, ← hd] at HNX
      have HD := hid hd
      have hmeas : Hid (d * 2 < j * 2 + (if (strB l).size = 0 then 1 else 0)) := hid (by
        rw [strB_size]
        rcases hgo with h | h
        · rw [if_pos h] at hd1; omega
        · subst h; simp; split at hd1 <;> omega)
      have hlen2 : Hid ((digC r :: l).length + d ≤ m + 1) := hid (by
        simp only [List.length_cons]
        rcases hgo with h | h
        · rw [if_pos h] at hd1; omega
        · subst h; simp at hlen ⊢; split at hd1 <;> omega)
      have hq2 : (j : Int).tdiv 16 = (d : Int) := by rw [Int.tdiv_eq_ediv_of_nonneg (by omega)]; omega
      have hq3 : (j : Int) / 16 = (d : Int) := by omega
      have HQ2 := hid hq2
      have HQ3 := hid hq3
      have HSUM := hid hsum
      clear hr hq hd hd1 hsum hq2 hq3
      have body : True := trivial
      by_cases hj0 : 0 < j
      · have e1 : decide (0 < (j : Int)) = true := decide_eq_true (by omega)
        clear hgo
        go_wp2_with fail
        go_quiet (fail)
        have hq2 := HQ2.out
        have hq3 := HQ3.out
        have hsum := HSUM.out
        clear hcut t1 t2 hWq
        go_wp2_with fail
        go_roundw
        case rel => exact ⟨d, digC r :: l, rfl, by rw [hsum], HNX, hlen2.out, below_drewN HBW.out _⟩
        case measure => have := hmeas.out; simp [intOf, strB_size]; simp [strB_size] at this; omega
      · have hle : l = [] := by rcases hgo with h | h; exact absurd h hj0; exact h
        have e1 : decide (0 < (j : Int)) = false := decide_eq_false (by omega)
        have e3 : decide (0 < j) = false := decide_eq_false hj0
        have e4 : (0 < j) = False := eq_false hj0
        have e2 : (strB l).toList.isEmpty = true := by rw [hemp, hle]; rfl
        clear hgo hle hemp
        go_wp2_with fail
        go_quiet (fail)
        have hq2 := HQ2.out
        have hq3 := HQ3.out
        have hsum := HSUM.out
        clear hcut t1 t2 hWq
        go_wp2_with fail
        go_roundw
        case rel => exact ⟨d, digC r :: l, rfl, by rw [hsum], HNX, hlen2.out, below_drewN HBW.out _⟩
        case measure => have := hmeas.out; simp [intOf, strB_size]; simp [strB_size] at this; omega
    · have hj0 : j = 0 := by omega
      have hl0 : l ≠ [] := fun e => hgo (.inr e)
      have hl9 : (strB l).toList.isEmpty = false := by rw [hemp]; cases l with | nil => exact absurd rfl hl0 | cons a b => rfl
      have HF : Hid (l = numerL 16 m) := hid (by subst hj0; exact hna.out.done hl0)
      subst hj0
      clear hgo hl0 hemp hna
      have hlz : (strB l).size ≤ 2097153 := by rw [strB_size]; omega
      go_wp2_with fail
      go_loopw [8, 9] (fun s i wr => ∃ n : Nat, n ≤ k ∧ i = .int .i64 n ∧ s = .string (strB (List.replicate n 48 ++ l)) ∧ Below w.heap.size w wr) (fun _ i _ => k - (intOf i).toNat)
      case atStart => exact ⟨0, Nat.zero_le _, rfl, rfl, HBW.out⟩
      case round =>
        obtain ⟨n, hn, rfl, rfl, hbw⟩ := hrel
        have HBW := hid hbw
        clear hbw
        have hz : (strB (List.replicate n 48 ++ l)).size ≤ 2097200 := by rw [strB_size]; simp; rw [strB_size] at hlz; omega
        have hs : (⟨#[48]⟩ : ByteArray) ++ strB (List.replicate n 48 ++ l) = strB (List.replicate (n + 1) 48 ++ l) := by
          have := strB_cons 48 (List.replicate n 48 ++ l)
          rw [List.replicate_succ, List.cons_append, ← this]
          rfl
        have h48 : (⟨#[48]⟩ : ByteArray).size = 1 := rfl
        have HS := hid hs
        have HNL : Hid (n = k → strB (List.replicate n 48 ++ l) = strB (numeralL 16 m k)) := hid (fun e => by rw [e, HF.out]; rfl)
        generalize strB (List.replicate n 48 ++ l) = x at *
        clear hs
        by_cases hnk : n < k
        · go_wp2_with fail
          go_roundw
          case rel => exact ⟨n + 1, by omega, by go_num, by rw [HS.out], HBW.out⟩
          case measure => simp [intOf]; omega
        · have HX := hid (HNL.out (by omega))
          go_wp2_with fail
          go_ret
          exact ⟨by rw [← HX.out]; rfl, HBW.out⟩
end Go.Proofs.Ytmcjljjagfpkkaa
