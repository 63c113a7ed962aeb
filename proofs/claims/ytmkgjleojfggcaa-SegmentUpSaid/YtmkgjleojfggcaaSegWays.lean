/-
  Paths that are read, with the dots, drives and encoding of the document. Conditions: as each theorem states.
-/
import Derived.Test.YtmkgjleojfggcaaSegUp
import Derived.Test.YtmkgjleojfggcaaSegRun
import Derived.Test.YtmkgjleojfggcaaRecDotsL
import Derived.Test.YtmkgjleojfggcaaPctPlain
set_option linter.all false
namespace Go.Proofs.Ytmkgjleojfggcaa
open Go.RowKit
def segWays : SegWays := ⟨dotsL, dotL, driveL, normalL, encL 4, fun l => l.take 1 ++ [58]⟩
def fileB (s : ByteArray) : Bool := s.toList == [102, 105, 108, 101]
theorem shortT_strB (s : ByteArray) (L : List (List UInt8)) : shortT s (L.map strB) = (upS segWays (fileB s) L).map strB := by
  match L with
  | [] => rfl
  | [x] =>
    rw [upS_one]
    show (if (s.toList == [102, 105, 108, 101] && normalL (strB x).data.toList) = true then [strB x] else [strB x].take 0) = _
    rw [strB_list]
    show _ = (if (fileB s && normalL x) = true then [x] else []).map strB
    unfold fileB
    split <;> rfl
  | x :: y :: r =>
    rw [shortT_many (by simp)]
    show _ = ((x :: y :: r).dropLast).map strB
    rw [List.dropLast_eq_take, List.map_take]
    simp
/-- what stands done behind k pieces -/
def outAt (file : Bool) (out P : List (List UInt8)) (k : Nat) : List (List UInt8) := runS segWays file out (P.take k) ++ (if k = P.length then tailS segWays P else [])
theorem outAt_start (file : Bool) (out P : List (List UInt8)) (h : P ≠ []) : outAt file out P 0 = out := by
  unfold outAt
  have : ¬ (0 = P.length) := fun e => h (List.length_eq_zero_iff.1 e.symm)
  rw [if_neg this]
  simp [runS]
theorem outAt_end (file : Bool) (out P : List (List UInt8)) : outAt file out P P.length = parseS segWays file out P := by
  unfold outAt parseS
  rw [if_pos rfl, List.take_length]
theorem outAt_succ (file : Bool) (out P : List (List UInt8)) (k : Nat) (h : k < P.length) :
    outAt file out P (k + 1) = stepS segWays file (outAt file out P k) P[k] ++ (if k + 1 = P.length then (if isEnd segWays P[k] = true then [[]] else []) else []) := by
  unfold outAt
  rw [if_neg (show ¬ k = P.length by omega), List.append_nil, List.take_succ_eq_append_getElem h, runS_app, runS_cons, runS_nil]
  congr 1
  by_cases he : k + 1 = P.length
  · rw [if_pos he, if_pos he]
    unfold tailS
    have : P.getLast? = some P[k] := by
      rw [List.getLast?_eq_getElem?]
      rw [show P.length - 1 = k by omega]
      exact List.getElem?_eq_getElem h
    rw [this]
  · rw [if_neg he, if_neg he]
theorem outAt_len (file : Bool) (out P : List (List UInt8)) (k : Nat) (h : k < P.length) : (outAt file out P k).length ≤ out.length + k := by
  unfold outAt
  rw [if_neg (by omega), List.append_nil]
  have := runS_len segWays file (P.take k) out
  rw [List.length_take] at this
  omega
theorem isEnd_dots {p : List UInt8} (h : dotsL p = true) : isEnd segWays p = true := by simp [isEnd, segWays, h]
theorem isEnd_dot {p : List UInt8} (h : dotL p = true) : isEnd segWays p = true := by simp [isEnd, segWays, h]
theorem isEnd_no {p : List UInt8} (h1 : dotsL p = false) (h2 : dotL p = false) : isEnd segWays p = false := by simp [isEnd, segWays, h1, h2]
theorem outAt_dots {file : Bool} {out P : List (List UInt8)} {k : Nat} (h : k < P.length) (h1 : dotsL P[k] = true) :
    outAt file out P (k + 1) = upS segWays file (outAt file out P k) ++ (if k + 1 = P.length then [[]] else []) := by
  rw [outAt_succ file out P k h, if_pos (isEnd_dots h1)]
  congr 1
  unfold stepS
  exact if_pos h1
theorem outAt_dot {file : Bool} {out P : List (List UInt8)} {k : Nat} (h : k < P.length) (h1 : dotsL P[k] = false) (h2 : dotL P[k] = true) :
    outAt file out P (k + 1) = outAt file out P k ++ (if k + 1 = P.length then [[]] else []) := by
  rw [outAt_succ file out P k h, if_pos (isEnd_dot h2)]
  congr 1
  unfold stepS
  rw [if_neg (show ¬ segWays.dots P[k] = true by show ¬ dotsL P[k] = true; rw [h1]; decide)]
  exact if_pos h2
theorem outAt_drive {file : Bool} {out P : List (List UInt8)} {k : Nat} (h : k < P.length) (h1 : dotsL P[k] = false) (h2 : dotL P[k] = false) (h3 : (file && ((outAt file out P k).isEmpty && driveL P[k])) = true) :
    outAt file out P (k + 1) = outAt file out P k ++ [P[k].take 1 ++ [58]] := by
  rw [outAt_succ file out P k h, if_neg (show ¬ isEnd segWays P[k] = true by rw [isEnd_no h1 h2]; decide), ite_self, List.append_nil]
  unfold stepS
  rw [if_neg (show ¬ segWays.dots P[k] = true by show ¬ dotsL P[k] = true; rw [h1]; decide), if_neg (show ¬ segWays.dot P[k] = true by show ¬ dotL P[k] = true; rw [h2]; decide)]
  exact if_pos h3
theorem outAt_enc {file : Bool} {out P : List (List UInt8)} {k : Nat} (h : k < P.length) (h1 : dotsL P[k] = false) (h2 : dotL P[k] = false) (h3 : (file && ((outAt file out P k).isEmpty && driveL P[k])) = false) :
    outAt file out P (k + 1) = outAt file out P k ++ [encL 4 P[k]] := by
  rw [outAt_succ file out P k h, if_neg (show ¬ isEnd segWays P[k] = true by rw [isEnd_no h1 h2]; decide), ite_self, List.append_nil]
  unfold stepS
  rw [if_neg (show ¬ segWays.dots P[k] = true by show ¬ dotsL P[k] = true; rw [h1]; decide), if_neg (show ¬ segWays.dot P[k] = true by show ¬ dotL P[k] = true; rw [h2]; decide)]
  exact if_neg (show ¬ (file && ((outAt file out P k).isEmpty && driveL P[k])) = true by rw [h3]; decide)
theorem segs_len (sp : Bool) (l : List UInt8) : (segs sp l).length ≤ l.length + 1 := by
  induction l with
  | nil => simp [segs]
  | cons a r ih =>
    unfold segs
    split
    · simp; omega
    · split
      · simp
      · next h => rw [h] at ih; simp at ih ⊢; omega
theorem segs_piece (sp : Bool) (l : List UInt8) : ∀ p ∈ segs sp l, p.length ≤ l.length := by
  induction l with
  | nil => simp [segs]
  | cons a r ih =>
    unfold segs
    split
    · intro p hp
      rcases List.mem_cons.1 hp with rfl | hp
      · simp
      · have := ih p hp; simp; omega
    · split
      · intro p hp; simp at hp; subst hp; simp
      · next q qs h =>
        rw [h] at ih
        intro p hp
        rcases List.mem_cons.1 hp with rfl | hp
        · have := ih q (by simp); simp; omega
        · have := ih p (by simp [hp]); simp; omega
end Go.Proofs.Ytmkgjleojfggcaa
