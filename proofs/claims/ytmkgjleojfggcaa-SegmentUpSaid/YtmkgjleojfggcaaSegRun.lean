/-
  Paths that are read, in plain words: what each piece does, whatever dots, drives and encoding are. Conditions: as each theorem states.
-/
set_option linter.all false
namespace Go.Proofs.Ytmkgjleojfggcaa
/-- what is asked of dots, drives and of what is encoded -/
structure SegWays where
  dots : List UInt8 → Bool
  dot : List UInt8 → Bool
  drive : List UInt8 → Bool
  normal : List UInt8 → Bool
  enc : List UInt8 → List UInt8
  drv : List UInt8 → List UInt8
variable (S : SegWays)
def upS (file : Bool) (out : List (List UInt8)) : List (List UInt8) :=
  match out with
  | [] => []
  | [x] => if (file && S.normal x) = true then [x] else []
  | x :: y :: r => (x :: y :: r).dropLast
def stepS (file : Bool) (out : List (List UInt8)) (p : List UInt8) : List (List UInt8) :=
  if S.dots p = true then upS S file out else if S.dot p = true then out
  else if (file && (out.isEmpty && S.drive p)) = true then out ++ [S.drv p] else out ++ [S.enc p]
def runS (file : Bool) (out : List (List UInt8)) (L : List (List UInt8)) : List (List UInt8) := L.foldl (stepS S file) out
def isEnd (p : List UInt8) : Bool := S.dots p || S.dot p
def tailS (L : List (List UInt8)) : List (List UInt8) :=
  match L.getLast? with
  | some p => if isEnd S p = true then [[]] else []
  | none => []
def parseS (file : Bool) (out : List (List UInt8)) (L : List (List UInt8)) : List (List UInt8) := runS S file out L ++ tailS S L
theorem runS_nil (file : Bool) (out : List (List UInt8)) : runS S file out [] = out := rfl
theorem runS_cons (file : Bool) (out : List (List UInt8)) (p : List UInt8) (L : List (List UInt8)) : runS S file out (p :: L) = runS S file (stepS S file out p) L := rfl
theorem runS_app (file : Bool) (out A B : List (List UInt8)) : runS S file out (A ++ B) = runS S file (runS S file out A) B := by
  unfold runS; rw [List.foldl_append]
theorem tailS_app (A B : List (List UInt8)) (h : B ≠ []) : tailS S (A ++ B) = tailS S B := by
  unfold tailS
  rw [List.getLast?_append]
  cases hb : B.getLast? with
  | none => exact absurd (List.getLast?_eq_none_iff.1 hb) h
  | some p => rfl
/-- a path may be read up to a slash, and then on -/
theorem parseS_app (file : Bool) (out A B : List (List UInt8)) (h : B ≠ []) : parseS S file out (A ++ B) = parseS S file (runS S file out A) B := by
  unfold parseS
  rw [runS_app, tailS_app S A B h]
theorem upS_one (file : Bool) (x : List UInt8) : upS S file [x] = if (file && S.normal x) = true then [x] else [] := rfl
theorem upS_len (file : Bool) (out : List (List UInt8)) : (upS S file out).length ≤ out.length ∧ out.length ≤ (upS S file out).length + 1 := by
  match out with
  | [] => simp [upS]
  | [x] => rw [upS_one]; split <;> simp
  | x :: y :: r => simp [upS]
theorem upS_take (file : Bool) (out : List (List UInt8)) : upS S file out = out.take (upS S file out).length := by
  match out with
  | [] => rfl
  | [x] => rw [upS_one]; split <;> rfl
  | x :: y :: r =>
    show (x :: y :: r).dropLast = List.take ((x :: y :: r).dropLast).length (x :: y :: r)
    rw [List.length_dropLast, List.dropLast_eq_take]
theorem stepS_len (file : Bool) (out : List (List UInt8)) (p : List UInt8) : (stepS S file out p).length ≤ out.length + 1 := by
  unfold stepS
  have := upS_len S file out
  split
  · omega
  · split
    · omega
    · split <;> simp
theorem runS_len (file : Bool) (L out : List (List UInt8)) : (runS S file out L).length ≤ out.length + L.length := by
  induction L generalizing out with
  | nil => simp [runS]
  | cons p r ih =>
    rw [runS_cons]
    have h1 := ih (stepS S file out p)
    have h2 := stepS_len S file out p
    simp only [List.length_cons]
    omega
/-- how many pieces go up -/
def upsN (L : List (List UInt8)) : Nat := (L.filter fun p => S.dots p).length
/-- what stands ahead stays, but for as many as go up -/
theorem runS_ahead (file : Bool) (L out : List (List UInt8)) : out.length - upsN S L ≤ (runS S file out L).length ∧ (runS S file out L).take (out.length - upsN S L) = out.take (out.length - upsN S L) := by
  induction L generalizing out with
  | nil => simp [runS, upsN]
  | cons p r ih =>
    rw [runS_cons]
    obtain ⟨h1, h2⟩ := ih (stepS S file out p)
    by_cases hd : S.dots p = true
    · have hu : upsN S (p :: r) = upsN S r + 1 := by simp [upsN, hd]
      have hs : stepS S file out p = upS S file out := by unfold stepS; rw [if_pos hd]
      rw [hs] at h1 h2 ⊢
      have hl := upS_len S file out
      have ht := upS_take S file out
      rw [hu]
      refine ⟨by omega, ?_⟩
      have h3 := congrArg (List.take (out.length - (upsN S r + 1))) h2
      rw [List.take_take, List.take_take, Nat.min_eq_left (by omega)] at h3
      rw [h3, ht, List.take_take, Nat.min_eq_left (by omega)]
    · have hu : upsN S (p :: r) = upsN S r := by simp [upsN, hd]
      have hp : ∃ e, stepS S file out p = out ++ e := by
        unfold stepS
        rw [if_neg hd]
        split
        · exact ⟨[], by simp⟩
        · split
          · exact ⟨_, rfl⟩
          · exact ⟨_, rfl⟩
      obtain ⟨e, he⟩ := hp
      rw [he] at h1 h2 ⊢
      rw [hu]
      simp only [List.length_append] at h1 h2
      refine ⟨by omega, ?_⟩
      have h3 := congrArg (List.take (out.length - upsN S r)) h2
      rw [List.take_take, List.take_take, Nat.min_eq_left (by omega)] at h3
      rw [h3, List.take_append_of_le_length (by omega)]
/-- what is asked of them, that a path that was read is read as it is -/
structure SegOK : Prop where
  encDots : ∀ p, S.dots p = false → S.dot p = false → S.dots (S.enc p) = false ∧ S.dot (S.enc p) = false
  encEnc : ∀ p, S.enc (S.enc p) = S.enc p
  encDrive : ∀ p, S.drive (S.enc p) = true → S.enc p = p
  drvGood : ∀ p, S.drive p = true → S.dots (S.drv p) = false ∧ S.dot (S.drv p) = false ∧ S.enc (S.drv p) = S.drv p ∧ S.drv (S.drv p) = S.drv p
  nil : S.dots [] = false ∧ S.dot [] = false ∧ S.enc [] = [] ∧ S.drive [] = false
/-- a piece that stays as it is; the first one of a file's is a drive as it is written, if it is a drive -/
def goodP (p : List UInt8) : Prop := S.dots p = false ∧ S.dot p = false ∧ S.enc p = p
def goodL (file : Bool) (L : List (List UInt8)) : Prop := (∀ p ∈ L, goodP S p) ∧ ∀ p r, L = p :: r → file = true → S.drive p = true → S.drv p = p
theorem goodL_nil (file : Bool) : goodL S file [] := ⟨by simp, by intro p r h; cases h⟩
theorem goodL_take {file : Bool} {L : List (List UInt8)} (h : goodL S file L) (n : Nat) : goodL S file (L.take n) := by
  refine ⟨fun p hp => h.1 p (List.mem_of_mem_take hp), fun p r hpr hf hd => ?_⟩
  cases L with
  | nil => simp at hpr
  | cons q t =>
    cases n with
    | zero => simp at hpr
    | succ n =>
      rw [List.take_succ_cons] at hpr
      injection hpr with h1 h2
      subst h1
      exact h.2 q t rfl hf hd
theorem goodL_snoc {file : Bool} {L : List (List UInt8)} {p : List UInt8} (h : goodL S file L) (hp : goodP S p) (h0 : L = [] → file = true → S.drive p = true → S.drv p = p) : goodL S file (L ++ [p]) := by
  refine ⟨fun q hq => ?_, fun q r hqr hf hd => ?_⟩
  · rcases List.mem_append.1 hq with hq | hq
    · exact h.1 q hq
    · simp at hq; subst hq; exact hp
  · cases L with
    | nil =>
      simp at hqr
      obtain ⟨rfl, _⟩ := hqr
      exact h0 rfl hf hd
    | cons a t =>
      rw [List.cons_append] at hqr
      injection hqr with h1 h2
      subst h1
      exact h.2 a t rfl hf hd
theorem stepS_good (K : SegOK S) {file : Bool} {out : List (List UInt8)} (h : goodL S file out) (p : List UInt8) : goodL S file (stepS S file out p) := by
  unfold stepS
  by_cases h1 : S.dots p = true
  · rw [if_pos h1, upS_take]; exact goodL_take S h _
  · rw [if_neg h1]
    by_cases h2 : S.dot p = true
    · rw [if_pos h2]; exact h
    · rw [if_neg h2]
      by_cases h3 : (file && (out.isEmpty && S.drive p)) = true
      · rw [if_pos h3]
        simp only [Bool.and_eq_true] at h3
        obtain ⟨g1, g2, g3, g4⟩ := K.drvGood p h3.2.2
        exact goodL_snoc S h ⟨g1, g2, g3⟩ fun _ _ _ => g4
      · rw [if_neg h3]
        have hd := K.encDots p (by simpa using h1) (by simpa using h2)
        refine goodL_snoc S h ⟨hd.1, hd.2, K.encEnc p⟩ fun he hf hdr => ?_
        subst he
        have e := K.encDrive p hdr
        rw [e] at hdr
        simp [hf, hdr] at h3
theorem runS_good (K : SegOK S) {file : Bool} (L : List (List UInt8)) {out : List (List UInt8)} (h : goodL S file out) : goodL S file (runS S file out L) := by
  induction L generalizing out with
  | nil => exact h
  | cons p r ih => rw [runS_cons]; exact ih (stepS_good S K h p)
theorem parseS_good (K : SegOK S) {file : Bool} (L : List (List UInt8)) {out : List (List UInt8)} (h : goodL S file out) : goodL S file (parseS S file out L) := by
  have h1 := runS_good S K L h
  unfold parseS tailS
  cases L.getLast? with
  | none => simpa using h1
  | some p =>
    simp only []
    split
    · exact goodL_snoc S h1 ⟨K.nil.1, K.nil.2.1, K.nil.2.2.1⟩ fun _ _ hd => by rw [K.nil.2.2.2] at hd; cases hd
    · simpa using h1
theorem runS_same {file : Bool} (L : List (List UInt8)) (out : List (List UInt8)) (h : goodL S file (out ++ L)) : runS S file out L = out ++ L := by
  induction L generalizing out with
  | nil => simp [runS]
  | cons p r ih =>
    obtain ⟨g1, g2, g3⟩ := h.1 p (by simp)
    have hs : stepS S file out p = out ++ [p] := by
      unfold stepS
      rw [if_neg (by rw [g1]; decide), if_neg (by rw [g2]; decide)]
      split
      · next h3 =>
        simp only [Bool.and_eq_true, List.isEmpty_iff] at h3
        obtain ⟨hf, he, hd⟩ := h3
        subst he
        rw [h.2 p r rfl hf hd]
      · rw [g3]
    rw [runS_cons, hs, ih (out ++ [p]) (by simpa using h)]
    simp
/-- a path that was read is read as it is -/
theorem parseS_same {file : Bool} (L : List (List UInt8)) (h : goodL S file L) : parseS S file [] L = L := by
  unfold parseS tailS
  rw [runS_same S L [] (by simpa using h)]
  cases hl : L.getLast? with
  | none => simp
  | some p =>
    obtain ⟨g1, g2, _⟩ := h.1 p (List.mem_of_getLast? hl)
    simp [isEnd, g1, g2]
/-- a piece, and two dots behind it -/
theorem runS_up {out : List (List UInt8)} {p d : List UInt8} (h1 : S.dots p = false) (h2 : S.dot p = false) (hd : S.dots d = true) : runS S false out [p, d] = out := by
  have hs : stepS S false out p = out ++ [S.enc p] := by
    unfold stepS
    rw [if_neg (by rw [h1]; decide), if_neg (by rw [h2]; decide), if_neg (by simp)]
  rw [runS_cons, runS_cons, runS_nil, hs]
  unfold stepS
  rw [if_pos hd]
  cases out with
  | nil => rfl
  | cons a r =>
    cases r with
    | nil => rfl
    | cons b r =>
      show ((a :: b :: r) ++ [S.enc p]).dropLast = a :: b :: r
      exact List.dropLast_concat
theorem runS_dot {file : Bool} {out : List (List UInt8)} {d : List UInt8} (h1 : S.dots d = false) (hd : S.dot d = true) : runS S file out [d] = out := by
  rw [runS_cons, runS_nil]
  unfold stepS
  rw [if_neg (by rw [h1]; decide), if_pos hd]
end Go.Proofs.Ytmkgjleojfggcaa
