/-
  Paths that are read are read as they are: what is asked of dots, drives and encoding holds. Conditions: as each theorem states.
-/
import Derived.Test.YtmkgjleojfggcaaSegTellsW
set_option linter.all false
namespace Go.Proofs.Ytmkgjleojfggcaa
open Go.RowKit
def pctOK : List UInt8 → Bool
  | [] => true
  | c :: r => (c != 37 || (r.take 2 == [50, 101] || r.take 2 == [50, 69])) && pctOK r
theorem pctOK_app : ∀ (x y : List UInt8), pctOK (x ++ y) = true → pctOK y = true
  | [], _, h => h
  | c :: r, y, h => by
    rw [List.cons_append, pctOK, Bool.and_eq_true] at h
    exact pctOK_app r y h.2
theorem isDot_pct {l : List UInt8} (h : isDot l = true) : pctOK l = true ∧ l ≠ [] := by
  rcases isDot_cases h with rfl | rfl | rfl <;> decide +kernel
theorem dots_pct {l : List UInt8} (h : dotsL l = true) : pctOK l = true := by
  obtain ⟨i, _, _, h3, h4⟩ := (dotsL_iff l).1 h
  rw [← List.take_append_drop i l]
  rcases isDot_cases h3 with e | e | e <;> rcases isDot_cases h4 with f | f | f <;> (rw [e, f]; decide +kernel)
theorem hex_not : ∀ c : Fin 256, (inSet 4 (UInt8.ofNat c.val) && (hexD (c.val / 16) == 50 && (hexD (c.val % 16) == 101 || hexD (c.val % 16) == 69))) = false := by decide +kernel
theorem hex_not' {c : UInt8} (h : inSet 4 c = true) : ¬ (hexD (c.toNat / 16) = 50 ∧ (hexD (c.toNat % 16) = 101 ∨ hexD (c.toNat % 16) = 69)) := by
  have := hex_not ⟨c.toNat, c.toNat_lt⟩
  simp only [UInt8.ofNat_toNat] at this
  rw [h, Bool.true_and] at this
  rintro ⟨h1, h2⟩
  rcases h2 with h2 | h2 <;> (rw [h1, h2] at this; revert this; decide)
theorem enc_parts (p : List UInt8) : (∀ c ∈ p, inSet 4 c = false) ∨ ∃ a c b, inSet 4 c = true ∧ encL 4 p = encL 4 a ++ 37 :: hexD (c.toNat / 16) :: hexD (c.toNat % 16) :: encL 4 b := by
  by_cases h : ∃ c ∈ p, inSet 4 c = true
  · obtain ⟨c, hc, hi⟩ := h
    obtain ⟨a, b, rfl⟩ := List.append_of_mem hc
    refine .inr ⟨a, c, b, hi, ?_⟩
    rw [show a ++ c :: b = a ++ ([c] ++ b) by simp, encL_append, encL_append]
    have : encL 4 [c] = enc1 4 c := by simp [encL]
    rw [this, enc1_yes hi]
    rfl
  · left
    intro c hc
    cases hi : inSet 4 c with
    | false => rfl
    | true => exact absurd ⟨c, hc, hi⟩ h
theorem enc_pct {p : List UInt8} (h : pctOK (encL 4 p) = true) : encL 4 p = p := by
  rcases enc_parts p with h1 | ⟨a, c, b, hi, he⟩
  · exact encL_same 4 p h1
  · exfalso
    rw [he] at h
    have h2 := pctOK_app _ _ h
    rw [pctOK, Bool.and_eq_true] at h2
    have h3 := h2.1
    simp only [List.take_succ_cons, List.take_zero] at h3
    refine hex_not' hi ?_
    simp only [bne_self_eq_false, Bool.false_or, Bool.or_eq_true, beq_iff_eq, List.cons.injEq, and_true] at h3
    rcases h3 with ⟨e1, e2⟩ | ⟨e1, e2⟩
    · exact ⟨e1, .inl e2⟩
    · exact ⟨e1, .inr e2⟩
theorem drv_fin : ∀ a : Fin 256, (!isLetter (UInt8.ofNat a.val) || (!dotsL [UInt8.ofNat a.val, 58] && (!dotL [UInt8.ofNat a.val, 58] && ((encL 4 [UInt8.ofNat a.val, 58] == [UInt8.ofNat a.val, 58]) && (!isSl true (UInt8.ofNat a.val)))))) = true := by decide +kernel
theorem drv_good {p : List UInt8} (h : driveL p = true) : ∃ a b, p = [a, b] ∧ dotsL [a, 58] = false ∧ dotL [a, 58] = false ∧ encL 4 [a, 58] = [a, 58] ∧ isSl true a = false := by
  have hl := drive_len h
  match p, hl with
  | [a, b], _ =>
    refine ⟨a, b, rfl, ?_⟩
    have h1 : isLetter a = true := by
      have h' : (isLetter a && ((b.toNat : Int) == 58 || (b.toNat : Int) == 124)) = true := h
      rw [Bool.and_eq_true] at h'
      exact h'.1
    have := drv_fin ⟨a.toNat, a.toNat_lt⟩
    simp only [UInt8.ofNat_toNat] at this
    rw [h1] at this
    simp only [Bool.not_true, Bool.false_or, Bool.and_eq_true, Bool.not_eq_true', beq_iff_eq] at this
    exact this
theorem segOK : SegOK segWays := by
  refine ⟨fun p h1 h2 => ?_, fun p => encL_once (by decide) p, fun p h => ?_, fun p h => ?_, by decide +kernel⟩
  · constructor
    · cases hd : segWays.dots (segWays.enc p) with
      | false => rfl
      | true =>
        have e := enc_pct (dots_pct hd)
        have e' : segWays.enc p = p := e
        rw [e', h1] at hd
        cases hd
    · cases hd : segWays.dot (segWays.enc p) with
      | false => rfl
      | true =>
        have hd' : dotL (encL 4 p) = true := hd
        rw [dotL_eq] at hd'
        have e := enc_pct (isDot_pct hd').1
        have e' : segWays.enc p = p := e
        rw [e', h2] at hd
        cases hd
  · have hl : (encL 4 p).length = 2 := drive_len h
    rw [encL_length] at hl
    have hn := encN_le 4 p
    have h0 : encN 4 p = 0 := by omega
    refine encL_same 4 p fun c hc => ?_
    unfold encN at h0
    have := (List.countP_eq_zero.1 h0) c hc
    simpa using this
  · obtain ⟨a, b, rfl, h1, h2, h3, _⟩ := drv_good h
    exact ⟨h1, h2, h3, rfl⟩
theorem good_nil (file : Bool) : goodL segWays file [] := goodL_nil segWays file
/-- no piece has a slash -/
def noSl (sp : Bool) (L : List (List UInt8)) : Prop := ∀ p ∈ L, ∀ c ∈ p, isSl sp c = false
theorem sl_true {sp : Bool} {c : UInt8} (h : isSl true c = false) : isSl sp c = false := by
  cases sp
  · revert h; simp [isSl]; exact fun a _ => a
  · exact h
theorem hexSl : ∀ n : Fin 16, isSl true (hexD n.val) = false := by decide +kernel
theorem enc_sl {sp : Bool} {p : List UInt8} (h : ∀ c ∈ p, isSl sp c = false) : ∀ c ∈ encL 4 p, isSl sp c = false := by
  intro c hc
  unfold encL at hc
  rw [List.mem_flatMap] at hc
  obtain ⟨d, hd, hc⟩ := hc
  unfold enc1 at hc
  split at hc
  · have hd2 := d.toNat_lt
    simp only [List.mem_cons, List.not_mem_nil, or_false] at hc
    rcases hc with rfl | rfl | rfl
    · exact sl_true (by decide)
    · exact sl_true (hexSl ⟨d.toNat / 16, by omega⟩)
    · exact sl_true (hexSl ⟨d.toNat % 16, by omega⟩)
  · simp at hc
    subst hc
    exact h c hd
theorem step_sl {sp file : Bool} {out : List (List UInt8)} {p : List UInt8} (h : noSl sp out) (hp : ∀ c ∈ p, isSl sp c = false) : noSl sp (stepS segWays file out p) := by
  unfold stepS
  split
  · rw [upS_take]
    exact fun q hq => h q (List.mem_of_mem_take hq)
  · split
    · exact h
    · split
      · next h3 =>
        simp only [Bool.and_eq_true] at h3
        obtain ⟨a, b, rfl, _, _, _, h4⟩ := drv_good h3.2.2
        intro q hq
        rcases List.mem_append.1 hq with hq | hq
        · exact h q hq
        · simp only [List.mem_singleton] at hq
          subst hq
          intro c hc
          have hc' : c ∈ [a, 58] := hc
          simp only [List.mem_cons, List.not_mem_nil, or_false] at hc'
          rcases hc' with rfl | rfl
          · exact sl_true h4
          · exact sl_true (by decide)
      · intro q hq
        rcases List.mem_append.1 hq with hq | hq
        · exact h q hq
        · simp only [List.mem_singleton] at hq
          subst hq
          exact enc_sl hp
theorem run_sl {sp file : Bool} (P : List (List UInt8)) : ∀ {out : List (List UInt8)}, noSl sp out → noSl sp P → noSl sp (runS segWays file out P) := by
  induction P with
  | nil => exact fun h _ => h
  | cons p r ih =>
    intro out h hp
    rw [runS_cons]
    exact ih (step_sl h (hp p (by simp))) fun q hq => hp q (by simp [hq])
theorem parse_sl {sp file : Bool} {P out : List (List UInt8)} (h : noSl sp out) (hp : noSl sp P) : noSl sp (parseS segWays file out P) := by
  unfold parseS
  intro q hq
  rcases List.mem_append.1 hq with hq | hq
  · exact run_sl P h hp q hq
  · unfold tailS at hq
    split at hq
    · split at hq
      · simp at hq
        subst hq
        simp
      · simp at hq
    · simp at hq
/-- how much a path takes -/
def wtS (L : List (List UInt8)) : Nat := (L.map fun p => p.length + 1).sum
theorem wtS_app (A B : List (List UInt8)) : wtS (A ++ B) = wtS A + wtS B := by simp [wtS]
theorem wtS_one (p : List UInt8) : wtS [p] = p.length + 1 := by simp [wtS]
theorem wtS_cons (p : List UInt8) (L : List (List UInt8)) : wtS (p :: L) = p.length + 1 + wtS L := by simp [wtS]
theorem wtS_take (L : List (List UInt8)) (n : Nat) : wtS (L.take n) ≤ wtS L := by
  have := wtS_app (L.take n) (L.drop n)
  rw [List.take_append_drop] at this
  omega
theorem wtS_mem {L : List (List UInt8)} {p : List UInt8} (h : p ∈ L) : p.length + 1 ≤ wtS L := by
  obtain ⟨a, b, rfl⟩ := List.append_of_mem h
  rw [wtS_app, wtS_cons]
  omega
theorem wt_segs (sp : Bool) (l : List UInt8) : wtS (segs sp l) = l.length + 1 := by
  induction l with
  | nil => rfl
  | cons a r ih =>
    unfold segs
    split
    · rw [wtS_cons, ih]; simp; omega
    · split
      · next h => exact absurd h (segs_ne sp r)
      · next q qs h => rw [h, wtS_cons] at ih; rw [wtS_cons]; simp; omega
theorem wt_step (file : Bool) (out : List (List UInt8)) (p : List UInt8) : wtS (stepS segWays file out p) ≤ wtS out + 3 * (p.length + 1) := by
  unfold stepS
  split
  · rw [upS_take]; have := wtS_take out (upS segWays file out).length; omega
  · split
    · omega
    · split
      · next h3 =>
        simp only [Bool.and_eq_true] at h3
        obtain ⟨a, b, rfl, _⟩ := drv_good h3.2.2
        rw [wtS_app, wtS_one]
        have : (segWays.drv [a, b]).length = 2 := rfl
        rw [this]
        simp
      · rw [wtS_app, wtS_one]
        have : (segWays.enc p).length ≤ 3 * p.length := encL_len 4 p
        omega
theorem wt_run (file : Bool) (P : List (List UInt8)) : ∀ out, wtS (runS segWays file out P) ≤ wtS out + 3 * wtS P := by
  induction P with
  | nil => intro out; rw [runS_nil]; omega
  | cons p r ih =>
    intro out
    rw [runS_cons, wtS_cons]
    have h1 := ih (stepS segWays file out p)
    have h2 := wt_step file out p
    omega
theorem wt_parse (file : Bool) (out P : List (List UInt8)) : wtS (parseS segWays file out P) ≤ wtS out + 3 * wtS P + 1 := by
  unfold parseS
  rw [wtS_app]
  have h1 := wt_run file P out
  have h2 : wtS (tailS segWays P) ≤ 1 := by
    unfold tailS
    split
    · split
      · simp [wtS]
      · simp [wtS]
    · simp [wtS]
  omega
theorem joinS_snoc (L : List (List UInt8)) (p : List UInt8) : joinS (L ++ [p]) = if L = [] then p else joinS L ++ 47 :: p := by
  induction L with
  | nil => rfl
  | cons a r ih =>
    rw [if_neg (by simp)]
    cases r with
    | nil => rfl
    | cons b r =>
      rw [if_neg (by simp)] at ih
      show a ++ 47 :: joinS (b :: r ++ [p]) = (a ++ 47 :: joinS (b :: r)) ++ 47 :: p
      rw [ih]
      simp
theorem joinS_len (L : List (List UInt8)) : (joinS L).length ≤ wtS L := by
  induction L with
  | nil => simp [joinS]
  | cons a r ih =>
    rw [wtS_cons]
    cases r with
    | nil => show a.length ≤ _; omega
    | cons b r =>
      show (a ++ 47 :: joinS (b :: r)).length ≤ _
      rw [List.length_append, List.length_cons]
      omega
/-- what Back says, in plain words -/
theorem back_plain (sp file : Bool) (l : List UInt8) (O : List (List UInt8)) (h : parseS segWays file [] (segs sp l) = O) (hl : l.length ≤ 500) :
    O ≠ [] ∧ (∀ p ∈ O, dotsL p = false ∧ dotL p = false ∧ encL 4 p = p) ∧ noSl sp O ∧ wtS O ≤ 1600 ∧ parseS segWays file [] (segs sp (joinS O)) = O ∧ O.length ≤ 501 := by
  have hg := parseS_good segWays segOK (segs sp l) (good_nil file)
  have hn : noSl sp (parseS segWays file [] (segs sp l)) := parse_sl (by intro p hp; simp at hp) (segs_no sp l)
  have hw := wt_parse file [] (segs sp l)
  have hne := parseS_ne segWays file [] _ (segs_ne sp l)
  have hlen := parseS_len segWays file [] (segs sp l)
  have hs := segs_len sp l
  rw [h] at hg hn hw hne hlen
  rw [wt_segs] at hw
  have h0 : wtS ([] : List (List UInt8)) = 0 := rfl
  rw [h0] at hw
  simp only [List.length_nil] at hlen
  refine ⟨hne, fun p hp => hg.1 p hp, hn, by omega, ?_, by omega⟩
  rw [segs_join sp O hne hn]
  exact parseS_same segWays O hg
end Go.Proofs.Ytmkgjleojfggcaa
