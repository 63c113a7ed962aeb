/-
  The walk of density's Kept. Conditions: at most 100000 numbers, each of 64 bits.
-/
import Derived.Test.YtllgkmacjncelaaDensOf
import Derived.Test.YtllgkmacjncelaaInts
import Derived.Test.YtllgkmacjncelaaDensPlain
import Derived.Maps.OwnSet
set_option linter.all false
namespace Go.Proofs.Ytllgkmacjncelaa
open Go.RowKit Go.Maps
def keyB (x : Nat) : Nat := if fEq x 0 = true then 0 else x
def seenB (l : List Nat) (k b : Nat) : Bool := (List.range k).any fun j => !fNaN (l.getD j 0) && keyB (l.getD j 0) == b
theorem seenB_succ (l : List Nat) (k b : Nat) : seenB l (k + 1) b = (seenB l k b || (!fNaN (l.getD k 0) && keyB (l.getD k 0) == b)) := by
  unfold seenB
  rw [List.range_succ, List.any_append]
  simp
theorem rk_zero : rk 0 = 0 := by decide +kernel
theorem fEq_zero (x : Nat) (hx : fNaN x = false) : fEq x 0 = decide (rk x = 0) := by
  rw [fEq_eq, hx, rk_zero]; simp [show fNaN 0 = false by decide +kernel]
theorem keyB_val (x : Nat) (hx : fNaN x = false) : keyB x = if rk x = 0 then 0 else x := by
  unfold keyB
  rw [fEq_zero x hx]
  by_cases h : rk x = 0
  · rw [if_pos h, if_pos (by simpa using h)]
  · rw [if_neg h, if_neg (by simpa using h)]
theorem rk_inj {x y : Nat} (h64 : x < 2 ^ 64) (h64' : y < 2 ^ 64) (h1 : rk x ≠ 0) (e : rk x = rk y) : x = y := by
  unfold rk sgI fNeg at e h1
  have a1 : x / 2 ^ 63 ≤ 1 := by omega
  have a2 : y / 2 ^ 63 ≤ 1 := by omega
  by_cases g1 : x / 2 ^ 63 = 1 <;> by_cases g2 : y / 2 ^ 63 = 1
  · simp [g1, g2] at e h1; omega
  · have g2' : y / 2 ^ 63 = 0 := by omega
    simp [g1, g2'] at e h1; omega
  · have g1' : x / 2 ^ 63 = 0 := by omega
    simp [g1', g2] at e h1; omega
  · have g1' : x / 2 ^ 63 = 0 := by omega
    have g2' : y / 2 ^ 63 = 0 := by omega
    simp [g1', g2'] at e h1; omega
theorem keyB_eq {x y : Nat} (hx : fNaN x = false) (hy : fNaN y = false) (h64 : x < 2 ^ 64) (h64' : y < 2 ^ 64) : keyB x = keyB y ↔ rk x = rk y := by
  rw [keyB_val x hx, keyB_val y hy]
  by_cases h1 : rk x = 0 <;> by_cases h2 : rk y = 0
  · rw [if_pos h1, if_pos h2, h1, h2]
    simp
  · rw [if_pos h1, if_neg h2]
    refine ⟨fun e => ?_, fun e => absurd (e.symm.trans h1) h2⟩
    subst e
    exact absurd rk_zero h2
  · rw [if_neg h1, if_pos h2]
    refine ⟨fun e => ?_, fun e => absurd (e.trans h2) h1⟩
    subst e
    exact absurd rk_zero h1
  · rw [if_neg h1, if_neg h2]
    exact ⟨fun e => by rw [e], rk_inj h64 h64' h1⟩
theorem newAt_seen {l : List Nat} {k : Nat} (hk : k < l.length) (hw : ∀ x ∈ l, x < 2 ^ 64) (hn : fNaN (l.getD k 0) = false) : newAt l k ↔ seenB l k (keyB (l.getD k 0)) = false := by
  have hin : ∀ j, j < l.length → l.getD j 0 < 2 ^ 64 := fun j hj => by
    rw [List.getD_eq_getElem?_getD, List.getElem?_eq_getElem hj]
    exact hw _ (List.getElem_mem hj)
  unfold newAt seenB
  rw [List.any_eq_false]
  constructor
  · rintro ⟨_, h⟩ j hj
    have hj' : j < k := by simpa using hj
    simp only [Bool.and_eq_true, Bool.not_eq_true', beq_iff_eq, not_and]
    intro hjn e
    exact h j hj' hjn ((keyB_eq hjn hn (hin j (by omega)) (hin k hk)).1 e)
  · intro h
    refine ⟨hn, fun j hj hjn e => ?_⟩
    have := h j (by simpa using hj)
    simp only [Bool.and_eq_true, Bool.not_eq_true', beq_iff_eq, not_and] at this
    exact this hjn ((keyB_eq hjn hn (hin j (by omega)) (hin k hk)).2 e)

/-- what the map holds: the bits of the first k -/
def Seen (D : DataW Unit) (l : List Nat) (k : Nat) : Prop := ∀ b : Nat, D.atKey (.int .u64 b) (.lit (.bool false)) = .lit (.bool (seenB l k b))
def mapOwn (w : World) (B k : Nat) (D : DataW Unit) : Prop := w.ownsMap Try.prog 50 (plainElem Try.prog 4) B k D
theorem mapOwn.below {w w' : World} {B k base : Nat} {D : DataW Unit} (h : mapOwn w B k D) (hb : Below base w w') (hB : B < base) : mapOwn w' B k D := by
  obtain ⟨es, clock, h1, h2⟩ := h
  exact ⟨es, clock, by rw [hb.block B hB]; exact h1, h2⟩
theorem mapOwn.mono {w : World} {B k n : Nat} {D : DataW Unit} (h : mapOwn w B k D) (hn : k ≤ n) : mapOwn w B n D := World.ownsMap.mono h hn
theorem lawU : Keyed Try.prog 50 := int_keyed Try.underlying50
theorem zeroB (w : World) : (zeroValue 4).run Try.prog w = .ok (.bool false) w := by kernel_rfl
theorem wfU (b : Nat) (h : b < 2 ^ 64) : (Lit.int .u64 b).wf = true := by
  simp [Lit.wf, IntKind.min, IntKind.max, IntKind.signed, IntKind.bits]; omega
theorem run_seen {w : World} {B k : Nat} {D : DataW Unit} {b : Nat} {c : Bool} (h : mapOwn w B k D) (hb : b < 2 ^ 64) (hat : D.atKey (.int .u64 b) (.lit (.bool false)) = .lit (.bool c)) :
    (Instr.lookup 49 (.map (some B)) (.int .u64 b) false).run Try.prog w = .ok (.bool c) w := by
  obtain ⟨v, ps, hrun, hv⟩ := World.ownsMap.lookup h lawU Try.underlying49 (zeroB w) (plainElem_bool Try.underlying4 false) (keyOf_int_mk Try.underlying50 (wfU b hb))
  rw [hat] at hv
  rw [hrun]
  have : v = .bool c := by
    unfold plainElem at hv
    rw [Try.underlying4] at hv
    cases v <;> simp at hv
    rw [hv.1]
  rw [this]
theorem Seen.put {D : DataW Unit} {l : List Nat} {k : Nat} (h : Seen D l k) (hD : IsMap D) (hn : fNaN (l.getD k 0) = false) {b : Nat} (hb : keyB (l.getD k 0) = b) : Seen (D.put (.int .u64 (b : Int)) (.lit (.bool true))) l (k + 1) := by
  intro c
  rw [seenB_succ, hn, hb]
  by_cases e : c = b
  · subst e
    rw [atKey_put_same (k := .int .u64 (c : Int)) hD trivial]
    simp
  · rw [atKey_put_other (by intro h; injection h with h1 h2; exact e (by omega)), h c]
    have : (b == c) = false := by simp; exact fun e' => e e'.symm
    simp [this]
theorem Seen.stay {D : DataW Unit} {l : List Nat} {k : Nat} (h : Seen D l k) (hs : fNaN (l.getD k 0) = true ∨ seenB l k (keyB (l.getD k 0)) = true) : Seen D l (k + 1) := by
  intro c
  rw [seenB_succ, h c]
  rcases hs with hs | hs
  · rw [hs, Bool.not_true, Bool.false_and, Bool.or_false]
  · by_cases e : keyB (l.getD k 0) = c
    · subst e; rw [hs, Bool.true_or]
    · have : (keyB (l.getD k 0) == c) = false := beq_false_of_ne e
      rw [this, Bool.and_false, Bool.or_false]
def keptI (l : List Nat) (k : Nat) : List Int := (keptF l k).map (fun n : Nat => (n : Int))
theorem keptI_no {l : List Nat} {k : Nat} (h : ¬ newAt l k) : keptI l (k + 1) = keptI l k := by unfold keptI; rw [keptF_succ, if_neg h]
theorem keptI_yes {l : List Nat} {k : Nat} (h : newAt l k) : keptI l (k + 1) = keptI l k ++ [(k : Int)] := by unfold keptI; rw [keptF_succ, if_pos h]; simp
end Go.Proofs.Ytllgkmacjncelaa
