/-
  References to signs, in plain words: names, numbers, and texts whose references are read. Conditions: as each theorem states.
-/
import Derived.Test.YtmcjljjagfpkkaaDigit
set_option linter.all false
namespace Go.Proofs.Ytmcjljjagfpkkaa
open Go.RowKit
def freeT : List (List UInt8 × List UInt8) := [
  ([97, 109, 112], [38]),
  ([65, 77, 80], [38]),
  ([108, 116], [60]),
  ([76, 84], [60]),
  ([103, 116], [62]),
  ([71, 84], [62]),
  ([113, 117, 111, 116], [34]),
  ([81, 85, 79, 84], [34]),
  ([110, 98, 115, 112], [194, 160]),
  ([115, 104, 121], [194, 173]),
  ([110, 111, 116], [194, 172]),
  ([114, 101, 103], [194, 174]),
  ([99, 111, 112, 121], [194, 169]),
  ([112, 97, 114, 97], [194, 182]),
  ([115, 101, 99, 116], [194, 167]),
  ([121, 101, 110], [194, 165]),
  ([100, 101, 103], [194, 176]),
  ([116, 105, 109, 101, 115], [195, 151]),
  ([101, 97, 99, 117, 116, 101], [195, 169]),
  ([111, 117, 109, 108], [195, 182]),
  ([115, 122, 108, 105, 103], [195, 159])]
def byteT : List (List UInt8 × List UInt8) := [
  ([97, 112, 111, 115], [39]),
  ([99, 111, 108, 111, 110], [58]),
  ([115, 111, 108], [47]),
  ([98, 115, 111, 108], [92]),
  ([113, 117, 101, 115, 116], [63]),
  ([110, 117, 109], [35]),
  ([112, 101, 114, 99, 110, 116], [37]),
  ([99, 111, 109, 109, 97, 116], [64]),
  ([101, 113, 117, 97, 108, 115], [61]),
  ([112, 108, 117, 115], [43]),
  ([99, 111, 109, 109, 97], [44]),
  ([112, 101, 114, 105, 111, 100], [46]),
  ([115, 101, 109, 105], [59]),
  ([101, 120, 99, 108], [33]),
  ([100, 111, 108, 108, 97, 114], [36]),
  ([97, 115, 116], [42]),
  ([108, 111, 119, 98, 97, 114], [95]),
  ([103, 114, 97, 118, 101], [96]),
  ([72, 97, 116], [94]),
  ([108, 112, 97, 114], [40]),
  ([114, 112, 97, 114], [41]),
  ([108, 115, 113, 98], [91]),
  ([114, 115, 113, 98], [93]),
  ([108, 99, 117, 98], [123]),
  ([114, 99, 117, 98], [125]),
  ([118, 101, 114, 98, 97, 114], [124]),
  ([84, 97, 98], [9]),
  ([78, 101, 119, 76, 105, 110, 101], [10])]
def boundT : List (List UInt8 × List UInt8) := [
  ([110, 111, 116, 105, 110], [226, 136, 137]),
  ([110, 118, 108, 116], [60, 226, 131, 146]),
  ([110, 118, 103, 116], [62, 226, 131, 146]),
  ([122, 119, 110, 106], [226, 128, 140]),
  ([122, 119, 106], [226, 128, 141]),
  ([90, 101, 114, 111, 87, 105, 100, 116, 104, 83, 112, 97, 99, 101], [226, 128, 139]),
  ([78, 111, 66, 114, 101, 97, 107], [226, 129, 160]),
  ([102, 106, 108, 105, 103], [102, 106]),
  ([99, 111, 112, 121, 115, 114], [226, 132, 151]),
  ([116, 105, 109, 101, 115, 98, 97, 114], [226, 168, 177])]
def strictT : List (List UInt8 × List UInt8) := byteT ++ boundT
def lookT (T : List (List UInt8 × List UInt8)) (n : List UInt8) : Option (List UInt8) := (T.find? fun p => p.1 == n).map (·.2)
theorem lookT_mem {T : List (List UInt8 × List UInt8)} {n t : List UInt8} (h : lookT T n = some t) : (n, t) ∈ T := by
  unfold lookT at h
  cases hf : T.find? (fun p => p.1 == n) with
  | none => rw [hf] at h; simp at h
  | some p =>
    rw [hf] at h
    simp at h
    have h1 := List.find?_some hf
    have h2 := List.mem_of_find?_eq_some hf
    simp at h1
    obtain ⟨a, b⟩ := p
    simp at h h1
    subst h h1
    exact h2
theorem lookT_app (A B : List (List UInt8 × List UInt8)) (n : List UInt8) : lookT (A ++ B) n = match lookT A n with | some t => some t | none => lookT B n := by
  unfold lookT
  rw [List.find?_append]
  cases A.find? (fun p => p.1 == n) <;> rfl
/-- a text without the ; at its end, and whether there is one -/
def cutSemi (l : List UInt8) : List UInt8 × Bool := if l.getLast? = some 59 then (l.dropLast, true) else (l, false)
theorem cutSemi_snoc (l : List UInt8) : cutSemi (l ++ [59]) = (l, true) := by simp [cutSemi]
theorem cutSemi_no {l : List UInt8} (h : l.getLast? ≠ some 59) : cutSemi l = (l, false) := by simp [cutSemi, h]
def namedL (l : List UInt8) : Option (List UInt8) :=
  match lookT freeT (cutSemi l).1 with
  | some t => some t
  | none => if (cutSemi l).2 = true then lookT strictT (cutSemi l).1 else none
def letB (c : UInt8) : Bool := (65 ≤ c.toNat && c.toNat ≤ 90) || (97 ≤ c.toNat && c.toNat ≤ 122)
/-- what all names are -/
def goodN (p : List UInt8 × List UInt8) : Bool := p.1.all letB && decide (p.1.length ≤ 14) && decide (2 ≤ p.1.length) && decide (p.2.length ≤ p.1.length)
theorem tabs_good : (freeT ++ strictT).all goodN = true := by decide +kernel
theorem tabs_apart : freeT.all (fun p => (lookT strictT p.1).isNone) = true := by decide +kernel
theorem good_of {p : List UInt8 × List UInt8} (h : p ∈ freeT ++ strictT) : p.1.all letB = true ∧ p.1.length ≤ 14 ∧ 2 ≤ p.1.length ∧ p.2.length ≤ p.1.length := by
  have := List.all_eq_true.1 tabs_good p h
  simp only [goodN, Bool.and_eq_true, decide_eq_true_eq] at this
  exact ⟨this.1.1.1, this.1.1.2, this.1.2, this.2⟩
theorem cutSemi_cases (l : List UInt8) : (cutSemi l = (l, false) ∧ l.getLast? ≠ some 59) ∨ (∃ r, l = r ++ [59] ∧ cutSemi l = (r, true)) := by
  by_cases h : l.getLast? = some 59
  · right
    obtain ⟨r, hr⟩ := List.getLast?_eq_some_iff.1 h
    exact ⟨r, hr, by rw [hr, cutSemi_snoc]⟩
  · exact .inl ⟨cutSemi_no h, h⟩
/-- what a name is: letters, and perhaps a ; -/
theorem namedL_good {l t : List UInt8} (h : namedL l = some t) :
    ∃ r, r.all letB = true ∧ r.length ≤ 14 ∧ 2 ≤ r.length ∧ t.length ≤ r.length ∧ (l = r ∨ l = r ++ [59]) ∧ (lookT freeT r = some t ∨ lookT strictT r = some t) := by
  have key : ∀ r, (lookT freeT r = some t ∨ lookT strictT r = some t) → r.all letB = true ∧ r.length ≤ 14 ∧ 2 ≤ r.length ∧ t.length ≤ r.length := fun r hr => by
    rcases hr with hr | hr
    · exact good_of (p := (r, t)) (List.mem_append_left _ (lookT_mem hr))
    · exact good_of (p := (r, t)) (List.mem_append_right _ (lookT_mem hr))
  have fin : ∀ r, (l = r ∨ l = r ++ [59]) → (lookT freeT r = some t ∨ lookT strictT r = some t) →
      ∃ r, r.all letB = true ∧ r.length ≤ 14 ∧ 2 ≤ r.length ∧ t.length ≤ r.length ∧ (l = r ∨ l = r ++ [59]) ∧ (lookT freeT r = some t ∨ lookT strictT r = some t) := fun r h1 h2 => by
    obtain ⟨a, b, c, d⟩ := key r h2
    exact ⟨r, a, b, c, d, h1, h2⟩
  unfold namedL at h
  rcases cutSemi_cases l with ⟨hc, _⟩ | ⟨r, hl, hc⟩
  · rw [hc] at h
    cases hf : lookT freeT l with
    | some x => simp [hf] at h; subst h; exact fin l (.inl rfl) (.inl hf)
    | none => simp [hf] at h
  · rw [hc] at h
    cases hf : lookT freeT r with
    | some x => simp [hf] at h; subst h; exact fin r (.inr hl) (.inl hf)
    | none => simp [hf] at h; exact fin r (.inr hl) (.inr h)
theorem letB_59 : letB 59 = false := by decide +kernel
theorem namedL_bare {r t : List UInt8} (h : namedL r = some t) (hr : r.getLast? ≠ some 59) : namedL (r ++ [59]) = some t := by
  unfold namedL at h ⊢
  rw [cutSemi_no hr] at h
  rw [cutSemi_snoc]
  cases hf : lookT freeT r with
  | some x => simp [hf] at h ⊢; exact h
  | none => simp [hf] at h
/-- the signs of a number -/
def sigL (n : Int) : List UInt8 := (Utf8.encode n).data.toList
def showsL : List Int := [8364, 129, 8218, 402, 8222, 8230, 8224, 8225, 710, 8240, 352, 8249, 338, 141, 381, 143, 144, 8216, 8217, 8220, 8221, 8226, 8211, 8212, 732, 8482, 353, 8250, 339, 157, 382, 376]
def shownL (n : Int) : Int := if 128 ≤ n ∧ n ≤ 159 then showsL.getD (n - 128).toNat 0 else n
def numberL (n : Int) : List UInt8 := if n = 0 then sigL 65533 else sigL (shownL n)
def moreB (c : UInt8) : Bool := letB c || decide (0 ≤ digit c 10) || c == 61
/-- is there a letter, a digit or = at the beginning? -/
def goesL : List UInt8 → Bool
  | [] => false
  | c :: _ => moreB c
/-- the longest name, of at most so many bytes -/
def nameFrom (r : List UInt8) : Nat → Option (List UInt8 × Nat)
  | 0 => none
  | n + 1 => match namedL (r.take (n + 1)) with
    | none => nameFrom r n
    | some t => if r[n]? ≠ some 59 ∧ goesL (r.drop (n + 1)) = true then none else some (t, n + 1)
def nameE (r : List UInt8) : Option (List UInt8 × Nat) := nameFrom r (min 15 r.length)
/-- how many digits stand at the beginning -/
def digRun (base : Int) : List UInt8 → Nat
  | [] => 0
  | c :: r => if digit c base < 0 then 0 else digRun base r + 1
def worthStep (base : Int) (n : Int) (c : UInt8) : Int := min (n * base + digit c base) 1114112
def worthL (base : Int) (l : List UInt8) : Int := l.foldl (worthStep base) 0
def numAt (base : Int) (skip : Nat) (l : List UInt8) : Option (List UInt8 × Nat) :=
  if digRun base l = 0 then none else some (numberL (worthL base (l.take (digRun base l))), skip + digRun base l + (if l[digRun base l]? = some 59 then 1 else 0))
def isX (c : UInt8) : Bool := c == 120 || c == 88
/-- the reference by a number, behind & and # -/
def numE : List UInt8 → Option (List UInt8 × Nat)
  | [] => none
  | c :: r => if isX c = true then numAt 16 2 r else numAt 10 1 (c :: r)
/-- the reference behind a &: the signs, and how many bytes of these it takes -/
def refE : List UInt8 → Option (List UInt8 × Nat)
  | [] => none
  | c :: r => if c = 35 then numE r else nameE (c :: r)
/-- a text whose references are read -/
def decE : List UInt8 → List UInt8
  | [] => []
  | c :: r => if c = 38 then match refE r with
      | some (t, n) => t ++ decE (r.drop n)
      | none => 38 :: decE r
    else c :: decE r
termination_by l => l.length
decreasing_by all_goals (simp only [List.length_cons, List.length_drop]; omega)
theorem decE_nil : decE [] = [] := by rw [decE]
theorem decE_other {c : UInt8} (r : List UInt8) (h : c ≠ 38) : decE (c :: r) = c :: decE r := by rw [decE, if_neg h]
theorem decE_some {r t : List UInt8} {n : Nat} (h : refE r = some (t, n)) : decE (38 :: r) = t ++ decE (r.drop n) := by rw [decE, if_pos rfl, h]
theorem decE_none {r : List UInt8} (h : refE r = none) : decE (38 :: r) = 38 :: decE r := by rw [decE, if_pos rfl, h]
end Go.Proofs.Ytmcjljjagfpkkaa
