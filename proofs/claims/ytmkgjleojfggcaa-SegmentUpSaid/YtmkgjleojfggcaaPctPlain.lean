/-
  Plain facts on what is encoded and decoded (layer 3); no program stands in them. Conditions: as each theorem states.
-/
import Derived.Test.YtmkgjleojfggcaaPctDec
set_option linter.all false
namespace Go.Proofs.Ytmkgjleojfggcaa
open Go.RowKit

theorem decL_ne {c : UInt8} (h : c ≠ 37) (r : List UInt8) : decL (c :: r) = c :: decL r := by
  match r with
  | [] => rfl
  | [a] => rfl
  | a :: b :: r => rw [decL, if_neg (fun hh => h hh.1)]
theorem hex_back : ∀ c : UInt8, isHex (hexD (c.toNat / 16)) (hexD (c.toNat % 16)) = true ∧ hexB (hexD (c.toNat / 16)) (hexD (c.toNat % 16)) = c := by
  have h : ∀ n : Fin 256, isHex (hexD (n.val / 16)) (hexD (n.val % 16)) = true ∧ hexB (hexD (n.val / 16)) (hexD (n.val % 16)) = UInt8.ofNat n.val := by decide +kernel
  intro c
  have := h ⟨c.toNat, c.toNat_lt⟩
  simpa using this
theorem decL_pct {h l : UInt8} (hx : isHex h l = true) (r : List UInt8) : decL (37 :: h :: l :: r) = hexB h l :: decL r := by
  rw [decL, if_pos ⟨rfl, hx⟩]
/-- What was encoded is decoded as it was. -/
theorem decL_encL (set : Int) : ∀ l : List UInt8, (∀ c ∈ l, c = 37 → inSet set c = true) → decL (encL set l) = l
  | [], _ => rfl
  | c :: l, h => by
    have ih := decL_encL set l fun d hd => h d (List.mem_cons_of_mem _ hd)
    show decL (enc1 set c ++ encL set l) = c :: l
    cases hi : inSet set c with
    | true =>
      rw [enc1_yes hi]
      show decL (37 :: _ :: _ :: encL set l) = _
      rw [decL_pct (hex_back c).1, (hex_back c).2, ih]
    | false =>
      rw [enc1_no hi]
      show decL (c :: encL set l) = _
      have hne : c ≠ 37 := fun e => by
        have := h c (List.mem_cons_self ..) e
        rw [hi] at this
        cases this
      rw [decL_ne hne, ih]
theorem decL_same : ∀ l : List UInt8, (∀ c ∈ l, c ≠ 37) → decL l = l
  | [], _ => rfl
  | c :: l, h => by
    rw [decL_ne (h c (List.mem_cons_self ..)), decL_same l fun d hd => h d (List.mem_cons_of_mem _ hd)]

def noP (l : List UInt8) : Bool := l.all fun c => c != 37
theorem noP_snoc (l : List UInt8) (c : UInt8) : noP (l ++ [c]) = (noP l && (c != 37)) := by simp [noP]
theorem noP_mem {l : List UInt8} (h : noP l = true) : ∀ c ∈ l, c ≠ 37 := by
  simpa [noP] using h
theorem back_all (l : List UInt8) : decL (encL 6 l) = l := decL_encL 6 l fun c _ e => by subst e; decide +kernel
theorem back_none (set : Int) {l : List UInt8} (h : noP l = true) : decL (encL set l) = l := decL_encL set l fun c hc e => absurd e (noP_mem h c hc)
theorem same_none {l : List UInt8} (h : noP l = true) : decL l = l := decL_same l (noP_mem h)

/-! Encoded once. -/
theorem hexD_in : ∀ n, n < 16 → hexD n ≠ 37 ∧ ∀ set : Fin 7, inSet set.val (hexD n) = false := by decide +kernel
theorem inSet_out {set : Int} (h : set < 0 ∨ 6 < set) (c : UInt8) : inSet set c = false := by
  unfold inSet
  rw [if_neg (by omega), if_neg (by omega), if_neg (by omega), if_neg (by omega), if_neg (by omega), if_neg (by omega), if_neg (by omega)]
theorem inSet_hex (set : Int) (n : Nat) (hn : n < 16) : inSet set (hexD n) = false := by
  by_cases h : set < 0 ∨ 6 < set
  · exact inSet_out h _
  · have := (hexD_in n hn).2 ⟨set.toNat, by omega⟩
    have e : ((set.toNat : Nat) : Int) = set := by omega
    simpa [e] using this
theorem inSet_pct {set : Int} (h : set ≠ 6) : inSet set 37 = false := by
  by_cases ho : set < 0 ∨ 6 < set
  · exact inSet_out ho _
  · have : ∀ k : Fin 6, inSet k.val 37 = false := by decide +kernel
    have h2 := this ⟨set.toNat, by omega⟩
    have e : ((set.toNat : Nat) : Int) = set := by omega
    simpa [e] using h2
/-- What was encoded has no byte of the set but the sign of percent. -/
theorem encL_out (set : Int) : ∀ l : List UInt8, ∀ c ∈ encL set l, c = 37 ∨ inSet set c = false
  | [], c, h => by simp [encL] at h
  | d :: l, c, h => by
    have h' : c ∈ enc1 set d ∨ c ∈ encL set l := by simpa [encL] using h
    rcases h' with h' | h'
    · cases hi : inSet set d with
      | true =>
        rw [enc1_yes hi] at h'
        have hd := d.toNat_lt
        simp only [List.mem_cons, List.not_mem_nil, or_false] at h'
        rcases h' with rfl | rfl | rfl
        · exact .inl rfl
        · exact .inr (inSet_hex set _ (by omega))
        · exact .inr (inSet_hex set _ (by omega))
      | false =>
        rw [enc1_no hi] at h'
        simp only [List.mem_singleton] at h'
        subst h'
        exact .inr hi
    · exact encL_out set l c h'
theorem encL_same (set : Int) : ∀ l : List UInt8, (∀ c ∈ l, inSet set c = false) → encL set l = l
  | [], _ => rfl
  | c :: l, h => by
    show enc1 set c ++ encL set l = _
    rw [enc1_no (h c (List.mem_cons_self ..)), encL_same set l fun d hd => h d (List.mem_cons_of_mem _ hd)]
    rfl
theorem encL_once {set : Int} (h : set ≠ 6) (l : List UInt8) : encL set (encL set l) = encL set l :=
  encL_same set _ fun c hc => by
    rcases encL_out set l c hc with rfl | hh
    · exact inSet_pct h
    · exact hh
/-- How long it is. -/
def encN (set : Int) (l : List UInt8) : Nat := l.countP fun c => inSet set c
theorem encN_snoc (set : Int) (l : List UInt8) (c : UInt8) : encN set (l ++ [c]) = encN set l + if inSet set c = true then 1 else 0 := by
  simp [encN, List.countP_append, List.countP_cons]
theorem encL_length (set : Int) (l : List UInt8) : (encL set l).length = l.length + 2 * encN set l := by
  induction l with
  | nil => rfl
  | cons c l ih =>
    have : (encL set (c :: l)).length = (enc1 set c).length + (encL set l).length := by simp [encL]
    rw [this, ih]
    unfold enc1 encN
    rw [List.countP_cons]
    split
    · next h => simp [h]; omega
    · next h => simp [h]; omega
theorem encN_le (set : Int) (l : List UInt8) : encN set l ≤ l.length := List.countP_le_length

/-! Piece by piece. -/
theorem decL_append : ∀ a b : List UInt8, (∀ n, a.length = n + 1 → a[n]? ≠ some 37) → (∀ n, a.length = n + 2 → a[n]? ≠ some 37) → decL (a ++ b) = decL a ++ decL b
  | [], b, _, _ => rfl
  | [x], b, h1, _ => by
    have hx : x ≠ 37 := fun e => h1 0 rfl (by simp [e])
    show decL (x :: b) = _
    rw [decL_ne hx, decL_ne hx]
    rfl
  | [x, y], b, h1, h2 => by
    have hx : x ≠ 37 := fun e => h2 0 rfl (by simp [e])
    have hy : y ≠ 37 := fun e => h1 1 rfl (by simp [e])
    show decL (x :: y :: b) = _
    rw [decL_ne hx, decL_ne hy, decL_ne hx, decL_ne hy]
    rfl
  | x :: y :: z :: r, b, h1, h2 => by
    show decL (x :: y :: z :: (r ++ b)) = _
    by_cases hc : x = 37 ∧ isHex y z = true
    · rw [decL, if_pos hc, decL, if_pos hc, decL_append r b (fun n hn => by
        have := h1 (n + 3) (by simp; omega)
        simpa using this) (fun n hn => by
        have := h2 (n + 3) (by simp; omega)
        simpa using this)]
      rfl
    · have ih := decL_append (y :: z :: r) b (fun n hn => by
        have := h1 (n + 1) (by simp at hn ⊢; omega)
        simpa using this) (fun n hn => by
        have := h2 (n + 1) (by simp at hn ⊢; omega)
        simpa using this)
      rw [decL, if_neg hc, decL, if_neg hc]
      have e : y :: z :: (r ++ b) = (y :: z :: r) ++ b := rfl
      rw [e, ih]
      rfl
end Go.Proofs.Ytmkgjleojfggcaa
