/-
  What is escaped, in plain words. Conditions: as each theorem states.
-/
import Derived.Test.YtmcjljjagfpkkaaEntNumbersW
set_option linter.all false
namespace Go.Proofs.Ytmcjljjagfpkkaa
open Go.RowKit
def esc1 (c : UInt8) : List UInt8 :=
  if c = 38 then [38, 97, 109, 112, 59] else if c = 34 then [38, 35, 51, 52, 59] else if c = 39 then [38, 35, 51, 57, 59]
  else if c = 60 then [38, 35, 54, 48, 59] else if c = 62 then [38, 35, 54, 50, 59] else if c = 96 then [38, 35, 57, 54, 59] else []
def six (c : UInt8) : Bool := c == 38 || (c == 34 || (c == 39 || (c == 60 || (c == 62 || c == 96))))
def escB (c : UInt8) : List UInt8 := if esc1 c = [] then [c] else esc1 c
def escAll (l : List UInt8) : List UInt8 := l.flatMap escB
theorem escAll_nil : escAll [] = [] := rfl
theorem escAll_cons (c : UInt8) (l : List UInt8) : escAll (c :: l) = escB c ++ escAll l := by simp [escAll]
theorem escAll_app (a b : List UInt8) : escAll (a ++ b) = escAll a ++ escAll b := by simp [escAll]
theorem six_cases {c : UInt8} (h : six c = true) : c = 38 ∨ c = 34 ∨ c = 39 ∨ c = 60 ∨ c = 62 ∨ c = 96 := by
  simpa [six] using h
theorem esc_six {c : UInt8} (h : six c = true) : escB c = esc1 c ∧ esc1 c ≠ [] ∧ (esc1 c).length = 5 := by
  rcases six_cases h with rfl | rfl | rfl | rfl | rfl | rfl <;> decide
theorem esc_no {c : UInt8} (h : six c = false) : esc1 c = [] ∧ escB c = [c] := by
  have h' : ¬ (c = 38 ∨ c = 34 ∨ c = 39 ∨ c = 60 ∨ c = 62 ∨ c = 96) := by simpa [six] using h
  have e : esc1 c = [] := by
    unfold esc1
    rw [if_neg (by intro e; exact h' (by simp [e])), if_neg (by intro e; exact h' (by simp [e])), if_neg (by intro e; exact h' (by simp [e])), if_neg (by intro e; exact h' (by simp [e])), if_neg (by intro e; exact h' (by simp [e])), if_neg (by intro e; exact h' (by simp [e]))]
  exact ⟨e, by unfold escB; rw [if_pos e]⟩
/-- a number of two digits -/
theorem dec_code (ds r : List UInt8) (c : UInt8) (h : (ds.all fun x => decide (0 ≤ digit x 10)) = true) (h0 : ds ≠ []) (hn : numberL (worthL 10 ds) = [c]) : decE (38 :: 35 :: (ds ++ 59 :: r)) = c :: decE r := by
  have hok : okD 10 ds := fun x hx => of_decide_eq_true (List.all_eq_true.1 h x hx)
  have hx : refE (35 :: (ds ++ 59 :: r)) = some ([c], 1 + ds.length + 1) := by
    show numE (ds ++ 59 :: r) = _
    cases ds with
    | nil => exact absurd rfl h0
    | cons d q =>
      have hd : 0 ≤ digit d 10 := hok d (by simp)
      rw [List.cons_append]
      show (if isX d = true then _ else _) = _
      rw [if_neg (by rw [isX_no hd]; decide), ← List.cons_append]
      unfold numAt
      rw [digRun_app _ _ hok, (digRun_59 r).1, Nat.add_zero, if_neg (by simp), List.take_left, hn]
      have hg : (d :: q ++ 59 :: r)[(d :: q).length]? = some 59 := by
        rw [List.getElem?_append_right (Nat.le_refl _), Nat.sub_self]
        rfl
      rw [hg, if_pos rfl]
  rw [decE_some hx]
  have hl : ((35 : UInt8) :: (ds ++ [59])).length = 1 + ds.length + 1 := by rw [List.length_cons, List.length_append]; show ds.length + 1 + 1 = _; omega
  rw [show (35 :: (ds ++ 59 :: r)) = (35 :: (ds ++ [59])) ++ r by simp, List.drop_left' hl]
  rfl
/-- what was escaped is decoded as it was -/
theorem dec_esc (a y : List UInt8) : decE (escAll a ++ y) = a ++ decE y := by
  induction a with
  | nil => rfl
  | cons c r ih =>
    rw [escAll_cons, List.append_assoc, List.cons_append, ← ih]
    cases h : six c with
    | false =>
      have hne : c ≠ 38 := by rintro rfl; revert h; decide
      rw [(esc_no h).2]
      exact decE_other _ hne
    | true =>
      rcases six_cases h with rfl | rfl | rfl | rfl | rfl | rfl
      · exact decE_ended (name := [97, 109, 112]) (s := [38]) _ (by decide +kernel)
      · exact dec_code [51, 52] _ 34 (by decide +kernel) (by simp) (by decide +kernel)
      · exact dec_code [51, 57] _ 39 (by decide +kernel) (by simp) (by decide +kernel)
      · exact dec_code [54, 48] _ 60 (by decide +kernel) (by simp) (by decide +kernel)
      · exact dec_code [54, 50] _ 62 (by decide +kernel) (by simp) (by decide +kernel)
      · exact dec_code [57, 54] _ 96 (by decide +kernel) (by simp) (by decide +kernel)
theorem dec_esc' (a : List UInt8) : decE (escAll a) = a := by
  have := dec_esc a []
  rwa [List.append_nil, decE_nil, List.append_nil] at this
theorem escB_len (c : UInt8) : 1 ≤ (escB c).length ∧ (escB c).length ≤ 5 := by
  cases h : six c with
  | false => rw [(esc_no h).2]; simp
  | true => rw [(esc_six h).1, (esc_six h).2.2]; omega
theorem escAll_len (l : List UInt8) : l.length ≤ (escAll l).length ∧ (escAll l).length ≤ 5 * l.length := by
  induction l with
  | nil => simp [escAll_nil]
  | cons c r ih =>
    rw [escAll_cons]
    have := escB_len c
    simp only [List.length_append, List.length_cons]
    omega
def fairB (c : UInt8) : Bool := decide (32 ≤ c.toNat) && decide (c.toNat ≤ 126)
def writtenT : List (List UInt8) := [[38, 97, 109, 112, 59], [38, 35, 51, 52, 59], [38, 35, 51, 57, 59], [38, 35, 54, 48, 59], [38, 35, 54, 50, 59], [38, 35, 57, 54, 59]]
def writtenL (l : List UInt8) : Bool := writtenT.any fun p => Lib.hasPrefix l p
/-- is a text plain at its beginning? -/
def plainB (l : List UInt8) : Bool := match l with
  | [] => true
  | c :: _ => fairB c && (if c = 38 then writtenL l else decide (esc1 c = []))
def plainL : List UInt8 → Bool
  | [] => true
  | c :: r => plainB (c :: r) && plainL r
theorem plain_other {c : UInt8} (r : List UInt8) (h : six c = false) : plainL (c :: r) = (fairB c && plainL r) := by
  have hne : c ≠ 38 := by rintro rfl; revert h; decide
  show (fairB c && (if c = 38 then writtenL (c :: r) else decide (esc1 c = [])) && plainL r) = _
  rw [if_neg hne, decide_eq_true (esc_no h).1, Bool.and_true]
theorem plain_esc (c : UInt8) (r : List UInt8) : plainL (escB c ++ r) = (fairB c && plainL r) := by
  cases h : six c with
  | false => rw [(esc_no h).2]; exact plain_other r h
  | true =>
    have key : ∀ x y z, six x = false → fairB x = true → six y = false → fairB y = true → six z = false → fairB z = true → writtenL (38 :: x :: y :: z :: 59 :: r) = true → plainL (38 :: x :: y :: z :: 59 :: r) = plainL r := fun x y z a1 a2 b1 b2 c1 c2 hw => by
      show (fairB 38 && (if (38 : UInt8) = 38 then writtenL (38 :: x :: y :: z :: 59 :: r) else decide (esc1 38 = [])) && plainL (x :: y :: z :: 59 :: r)) = _
      rw [if_pos rfl, hw, plain_other _ a1, a2, plain_other _ b1, b2, plain_other _ c1, c2, plain_other r (c := 59) (by decide)]
      have h38 : fairB 38 = true := by decide
      have h59 : fairB 59 = true := by decide
      rw [h38, h59]
      simp
    have hw : ∀ p ∈ writtenT, writtenL (p ++ r) = true := fun p hp => by
      unfold writtenL
      rw [List.any_eq_true]
      refine ⟨p, hp, ?_⟩
      unfold Lib.hasPrefix
      rw [List.isPrefixOf_iff_prefix]
      exact List.prefix_append p r
    have hf : fairB c = true := by rcases six_cases h with rfl | rfl | rfl | rfl | rfl | rfl <;> decide
    rw [hf, Bool.true_and]
    rcases six_cases h with rfl | rfl | rfl | rfl | rfl | rfl
    · exact key 97 109 112 (by decide) (by decide) (by decide) (by decide) (by decide) (by decide) (hw [38, 97, 109, 112, 59] (by decide))
    · exact key 35 51 52 (by decide) (by decide) (by decide) (by decide) (by decide) (by decide) (hw [38, 35, 51, 52, 59] (by decide))
    · exact key 35 51 57 (by decide) (by decide) (by decide) (by decide) (by decide) (by decide) (hw [38, 35, 51, 57, 59] (by decide))
    · exact key 35 54 48 (by decide) (by decide) (by decide) (by decide) (by decide) (by decide) (hw [38, 35, 54, 48, 59] (by decide))
    · exact key 35 54 50 (by decide) (by decide) (by decide) (by decide) (by decide) (by decide) (hw [38, 35, 54, 50, 59] (by decide))
    · exact key 35 57 54 (by decide) (by decide) (by decide) (by decide) (by decide) (by decide) (hw [38, 35, 57, 54, 59] (by decide))
theorem plain_all (l : List UInt8) : plainL (escAll l) = l.all fairB := by
  induction l with
  | nil => rfl
  | cons c r ih => rw [escAll_cons, plain_esc, ih]; rfl
theorem esc_none {q : UInt8} (hq : six q = true) (h38 : q ≠ 38) (l : List UInt8) : ∀ x ∈ escAll l, x ≠ q := by
  induction l with
  | nil => simp [escAll_nil]
  | cons c r ih =>
    rw [escAll_cons]
    intro x hx
    rcases List.mem_append.1 hx with hx | hx
    · cases h : six c with
      | false =>
        rw [(esc_no h).2] at hx
        simp at hx
        subst hx
        rintro rfl
        rw [hq] at h
        cases h
      | true =>
        have key : ∀ p ∈ writtenT, ∀ x ∈ p, six x = false ∨ x = 38 := by decide +kernel
        have hm : escB c ∈ writtenT := by rcases six_cases h with rfl | rfl | rfl | rfl | rfl | rfl <;> decide
        rintro rfl
        rcases key _ hm x hx with h' | h'
        · rw [hq] at h'; cases h'
        · exact h38 h'
    · exact ih x hx
theorem plain_none {q : UInt8} (hq : six q = true) (h38 : q ≠ 38) : ∀ l : List UInt8, plainL l = true → ∀ x ∈ l, x ≠ q
  | [], _ => by simp
  | c :: r, h => by
    have h' : (plainB (c :: r) && plainL r) = true := h
    rw [Bool.and_eq_true] at h'
    intro x hx
    rcases List.mem_cons.1 hx with rfl | hx
    · rintro rfl
      have h1 : (fairB x && (if x = 38 then writtenL (x :: r) else decide (esc1 x = []))) = true := h'.1
      rw [if_neg h38, Bool.and_eq_true] at h1
      exact (esc_six hq).2.1 (of_decide_eq_true h1.2)
    · exact plain_none hq h38 r h'.2 x hx
/-- what stands ahead of a byte -/
def aheadL (q : UInt8) (l : List UInt8) : List UInt8 := l.takeWhile fun c => c != q
theorem ahead_none {q : UInt8} {l : List UInt8} (h : ∀ x ∈ l, x ≠ q) : aheadL q l = l := by
  unfold aheadL
  induction l with
  | nil => rfl
  | cons c r ih =>
    rw [List.takeWhile_cons, if_pos (by simpa using h c (by simp)), ih fun x hx => h x (by simp [hx])]
theorem ahead_cut {q : UInt8} {a r : List UInt8} (h : ∀ x ∈ a, x ≠ q) : aheadL q (a ++ q :: r) = a := by
  unfold aheadL
  induction a with
  | nil => simp
  | cons c t ih =>
    rw [List.cons_append, List.takeWhile_cons, if_pos (by simpa using h c (by simp)), ih fun x hx => h x (by simp [hx])]
end Go.Proofs.Ytmcjljjagfpkkaa
