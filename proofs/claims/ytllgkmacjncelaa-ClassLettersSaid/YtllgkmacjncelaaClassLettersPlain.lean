/-
  Plain facts on small and large letters and on the table of kinds. Conditions: as each theorem states.
-/
import Derived.Test.YtllgkmacjncelaaRefKind
import Derived.Test.YtllgkmacjncelaaLetter
set_option linter.all false
namespace Go.Proofs.Ytllgkmacjncelaa
open Go.RowKit

/-- A byte in large letters. -/
def upB (c : UInt8) : UInt8 := if 97 ≤ c.toNat ∧ c.toNat ≤ 122 then c - 32 else c
def upL (l : List UInt8) : List UInt8 := l.map upB
theorem upL_length (l : List UInt8) : (upL l).length = l.length := by simp [upL]
def upPart (l : List UInt8) (k : Nat) : List UInt8 := (l.take k).map upB ++ l.drop k

theorem upPart_length (l : List UInt8) (k : Nat) : (upPart l k).length = l.length := by
  simp [upPart]; omega
theorem upPart_zero (l : List UInt8) : upPart l 0 = l := by simp [upPart]
theorem upPart_all (l : List UInt8) : upPart l l.length = upL l := by simp [upPart, upL]
theorem upPart_get (l : List UInt8) (k : Nat) (h : k < l.length) : (upPart l k)[k]'(by rw [upPart_length]; exact h) = l[k] := by
  have hm : min k l.length = k := by omega
  simp [upPart, hm]
theorem upPart_succ (l : List UInt8) (k : Nat) (h : k < l.length) : upPart l (k + 1) = (upPart l k).set k (upB l[k]) := by
  have hl : ((l.take k).map upB).length = k := by simp; omega
  unfold upPart
  rw [List.take_succ_eq_append_getElem h, List.drop_eq_getElem_cons h]
  rw [List.set_append_right _ _ (by omega), hl]
  simp only [List.map_append, List.map_cons, List.map_nil, Nat.sub_self, List.set_cons_zero, List.append_assoc, List.cons_append, List.nil_append]
theorem upB_low {c : UInt8} (h : 97 ≤ c.toNat ∧ c.toNat ≤ 122) : ((upB c).toNat : Int) = (c.toNat : Int) - 32 := by
  unfold upB
  rw [if_pos h]
  have := UInt8.toNat_sub_of_le c 32 (by rw [UInt8.le_iff_toNat_le]; show 32 ≤ c.toNat; omega)
  rw [this]
  show (((c.toNat - 32 : Nat)) : Int) = _
  omega
theorem upB_not {c : UInt8} (h : ¬ (97 ≤ c.toNat ∧ c.toNat ≤ 122)) : upB c = c := by
  unfold upB
  rw [if_neg h]
theorem upPart_not (l : List UInt8) (k : Nat) (h : k < l.length) (hn : ¬ (97 ≤ l[k].toNat ∧ l[k].toNat ≤ 122)) : upPart l (k + 1) = upPart l k := by
  rw [upPart_succ l k h, upB_not hn, ← upPart_get l k h]
  exact List.set_getElem_self _

theorem lowB_upB : ∀ c : UInt8, lowB (upB c) = lowB c := by
  have : ∀ n : Fin 256, lowB (upB (UInt8.ofNat n.val)) = lowB (UInt8.ofNat n.val) := by decide +kernel
  intro c
  have h := this ⟨c.toNat, c.toNat_lt⟩
  simpa using h
theorem lowB_lowB : ∀ c : UInt8, lowB (lowB c) = lowB c := by
  have : ∀ n : Fin 256, lowB (lowB (UInt8.ofNat n.val)) = lowB (UInt8.ofNat n.val) := by decide +kernel
  intro c
  have h := this ⟨c.toNat, c.toNat_lt⟩
  simpa using h
theorem lowL_upL (l : List UInt8) : lowL (upL l) = lowL l := by
  unfold lowL upL
  rw [List.map_map]
  exact List.map_congr_left fun c _ => lowB_upB c
theorem lowL_lowL (l : List UInt8) : lowL (lowL l) = lowL l := by
  unfold lowL
  rw [List.map_map]
  exact List.map_congr_left fun c _ => lowB_lowB c

theorem kindOf_range (a b : List UInt8) : kindOf a b = 0 ∨ kindOf a b = 1 ∨ kindOf a b = 2 ∨ kindOf a b = 3 := by
  unfold kindOf
  cases h : look a b kindTab with
  | none => exact .inl rfl
  | some v => exact .inr (kindTab_vals _ (look_mem h))

theorem kindTab_letters : ∀ t ∈ kindTab, (∀ c ∈ t.1, 97 ≤ c.toNat ∧ c.toNat ≤ 122) ∧ ∀ c ∈ t.2.1, 97 ≤ c.toNat ∧ c.toNat ≤ 122 := by decide +kernel
theorem letter_of_low : ∀ c : UInt8, 97 ≤ (lowB c).toNat ∧ (lowB c).toNat ≤ 122 → isLetter c = true := by
  have : ∀ n : Fin 256, 97 ≤ (lowB (UInt8.ofNat n.val)).toNat ∧ (lowB (UInt8.ofNat n.val)).toNat ≤ 122 → isLetter (UInt8.ofNat n.val) = true := by decide +kernel
  intro c
  have h := this ⟨c.toNat, c.toNat_lt⟩
  simpa using h
/-- A sign that is no letter stands in no row. -/
theorem kindOf_sign {a b : List UInt8} {c : UInt8} (hc : isLetter c = false) (h : lowB c ∈ a ∨ lowB c ∈ b) : kindOf a b = 0 := by
  refine kindOf_none fun k hm => ?_
  obtain ⟨h1, h2⟩ := kindTab_letters _ hm
  have : isLetter c = true := letter_of_low c (by
    rcases h with h | h
    · exact h1 _ h
    · exact h2 _ h)
  rw [hc] at this
  cases this

end Go.Proofs.Ytllgkmacjncelaa
