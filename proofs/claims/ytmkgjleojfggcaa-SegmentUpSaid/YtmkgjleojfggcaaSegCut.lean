/-
  Texts cut at slashes, in plain words. Conditions: as each theorem states.
-/
set_option linter.all false
namespace Go.Proofs.Ytmkgjleojfggcaa
/-- is c a slash, or one of the other kind, where these count? -/
def isSl (sp : Bool) (c : UInt8) : Bool := c == 47 || (sp && c == 92)
def segs (sp : Bool) : List UInt8 → List (List UInt8)
  | [] => [[]]
  | c :: r => if isSl sp c = true then [] :: segs sp r else match segs sp r with
    | [] => [[c]]
    | p :: ps => (c :: p) :: ps
theorem segs_ne (sp : Bool) (l : List UInt8) : segs sp l ≠ [] := by
  cases l with
  | nil => simp [segs]
  | cons c r =>
    unfold segs
    split
    · simp
    · split <;> simp
theorem segs_snoc (sp : Bool) (l : List UInt8) (c : UInt8) (D : List (List UInt8)) (p : List UInt8) (h : segs sp l = D ++ [p]) :
    segs sp (l ++ [c]) = if isSl sp c = true then D ++ [p, []] else D ++ [p ++ [c]] := by
  induction l generalizing D p with
  | nil =>
    have h' : ([[]] : List (List UInt8)) = D ++ [p] := h
    cases D with
    | nil =>
      simp at h'
      subst h'
      by_cases hs : isSl sp c = true <;> simp [segs, hs]
    | cons d D => simp at h'
  | cons a r ih =>
    rw [List.cons_append]
    unfold segs at h ⊢
    by_cases ha : isSl sp a = true
    · rw [if_pos ha] at h ⊢
      cases D with
      | nil =>
        simp only [List.nil_append] at h
        injection h with h1 h2
        exact absurd h2 (segs_ne sp r)
      | cons d D =>
        rw [List.cons_append] at h
        injection h with h1 h2
        subst h1
        rw [ih D p h2]
        split <;> simp
    · rw [if_neg ha] at h ⊢
      cases hr : segs sp r with
      | nil => exact absurd hr (segs_ne sp r)
      | cons q qs =>
        rw [hr] at h
        simp only [] at h
        cases D with
        | nil =>
          simp only [List.nil_append] at h
          injection h with h1 h2
          subst h1 h2
          have := ih [] q hr
          rw [this]
          by_cases hs : isSl sp c = true <;> simp [hs]
        | cons d D =>
          rw [List.cons_append] at h
          injection h with h1 h2
          subst h1
          have := ih (q :: D) p (by rw [hr, h2]; rfl)
          rw [this]
          by_cases hs : isSl sp c = true <;> simp [hs]
/-- a text, a slash, and another text -/
theorem segs_app (sp : Bool) (s t : List UInt8) (c : UInt8) (hc : isSl sp c = true) : segs sp (s ++ c :: t) = segs sp s ++ segs sp t := by
  induction s with
  | nil => simp [segs, hc]
  | cons a r ih =>
    have h1 : segs sp (a :: r ++ c :: t) = if isSl sp a = true then [] :: segs sp (r ++ c :: t) else match segs sp (r ++ c :: t) with | [] => [[a]] | p :: ps => (a :: p) :: ps := rfl
    have h2 : segs sp (a :: r) = if isSl sp a = true then [] :: segs sp r else match segs sp r with | [] => [[a]] | p :: ps => (a :: p) :: ps := rfl
    rw [h1, h2]
    by_cases ha : isSl sp a = true
    · rw [if_pos ha, if_pos ha, ih]; rfl
    · rw [if_neg ha, if_neg ha, ih]
      cases hr : segs sp r with
      | nil => exact absurd hr (segs_ne sp r)
      | cons q qs => rfl
/-- no piece has a slash -/
theorem segs_no (sp : Bool) (l : List UInt8) : ∀ p ∈ segs sp l, ∀ c ∈ p, isSl sp c = false := by
  induction l with
  | nil => simp [segs]
  | cons a r ih =>
    unfold segs
    by_cases ha : isSl sp a = true
    · rw [if_pos ha]
      intro p hp c hc
      rcases List.mem_cons.1 hp with rfl | hp
      · simp at hc
      · exact ih p hp c hc
    · rw [if_neg ha]
      cases hr : segs sp r with
      | nil => exact absurd hr (segs_ne sp r)
      | cons q qs =>
        rw [hr] at ih
        intro p hp c hc
        simp only [] at hp
        rcases List.mem_cons.1 hp with rfl | hp
        · rcases List.mem_cons.1 hc with rfl | hc
          · simpa using ha
          · exact ih q (by simp) c hc
        · exact ih p (by simp [hp]) c hc
/-- a text without a slash is one piece -/
theorem segs_one (sp : Bool) (l : List UInt8) (h : ∀ c ∈ l, isSl sp c = false) : segs sp l = [l] := by
  induction l with
  | nil => rfl
  | cons a r ih =>
    unfold segs
    rw [if_neg (by rw [h a (by simp)]; decide), ih fun c hc => h c (by simp [hc])]
/-- pieces with a slash between them -/
def joinS : List (List UInt8) → List UInt8
  | [] => []
  | [p] => p
  | p :: q :: r => p ++ 47 :: joinS (q :: r)
theorem segs_join (sp : Bool) (L : List (List UInt8)) (hL : L ≠ []) (h : ∀ p ∈ L, ∀ c ∈ p, isSl sp c = false) : segs sp (joinS L) = L := by
  induction L with
  | nil => exact absurd rfl hL
  | cons p r ih =>
    cases r with
    | nil => exact segs_one sp p (h p (by simp))
    | cons q r =>
      show segs sp (p ++ 47 :: joinS (q :: r)) = _
      rw [segs_app sp p _ 47 (by simp [isSl]), segs_one sp p (h p (by simp)), ih (by simp) fun x hx => h x (by simp [List.mem_of_mem_tail, hx] <;> simp_all)]
      rfl
end Go.Proofs.Ytmkgjleojfggcaa
