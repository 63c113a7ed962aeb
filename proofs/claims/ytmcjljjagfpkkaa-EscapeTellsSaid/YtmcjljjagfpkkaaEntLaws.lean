/-
  Laws of texts whose references are read. Conditions: as each theorem states.
-/
import Derived.Test.YtmcjljjagfpkkaaEntPlain
set_option linter.all false
namespace Go.Proofs.Ytmcjljjagfpkkaa
open Go.RowKit
theorem decE_pre (a b : List UInt8) (h : ∀ c ∈ a, c ≠ 38) : decE (a ++ b) = a ++ decE b := by
  induction a with
  | nil => rfl
  | cons c r ih =>
    rw [List.cons_append, decE_other _ (h c (by simp)), ih fun x hx => h x (by simp [hx])]
    rfl
theorem nameFrom_len {r t : List UInt8} {n k : Nat} (h : nameFrom r n = some (t, k)) : namedL (r.take k) = some t ∧ 0 < k ∧ k ≤ n := by
  induction n with
  | zero => simp [nameFrom] at h
  | succ n ih =>
    unfold nameFrom at h
    cases hn : namedL (r.take (n + 1)) with
    | none =>
      simp only [hn] at h
      obtain ⟨a, b, c⟩ := ih h
      exact ⟨a, b, by omega⟩
    | some x =>
      simp only [hn] at h
      split at h
      · simp at h
      · simp at h
        obtain ⟨rfl, rfl⟩ := h
        exact ⟨hn, by omega, Nat.le_refl _⟩
theorem nameE_len {r t : List UInt8} {k : Nat} (h : nameE r = some (t, k)) : t.length ≤ k ∧ 0 < k ∧ k ≤ r.length := by
  obtain ⟨h1, h2, h3⟩ := nameFrom_len h
  obtain ⟨x, _, _, _, hx, hl, _⟩ := namedL_good h1
  have e : (r.take k).length = k := by rw [List.length_take]; omega
  refine ⟨?_, h2, by omega⟩
  rcases hl with hl | hl
  · rw [hl] at e; omega
  · rw [hl] at e; simp at e; omega
theorem sig_cases (n : Int) : (sigL n).length ≤ 4 := by
  unfold sigL Utf8.encode
  simp only []
  repeat' split
  all_goals simp
theorem sig_small : ∀ i : Fin 16, (numberL (i.val : Int)).length ≤ 3 := by decide +kernel
theorem worthStep_bd (base n : Int) (c : UInt8) (hb : 0 ≤ base) (hn : 0 ≤ n) (hd : 0 ≤ digit c base) : 0 ≤ worthStep base n c ∧ worthStep base n c ≤ n * base + digit c base := by
  unfold worthStep
  have := Int.mul_nonneg hn hb
  omega
theorem number_le (n : Int) : (numberL n).length ≤ 4 := by
  unfold numberL
  split
  · exact sig_cases _
  · exact sig_cases _
theorem digRun_le (base : Int) : ∀ l : List UInt8, digRun base l ≤ l.length
  | [] => Nat.le_refl _
  | c :: r => by
    unfold digRun
    have := digRun_le base r
    split
    · omega
    · simp; omega
theorem digRun_pos {base : Int} {l : List UInt8} (h : digRun base l ≠ 0) : ∃ c r, l = c :: r ∧ 0 ≤ digit c base := by
  cases l with
  | nil => exact absurd rfl h
  | cons c r =>
    refine ⟨c, r, rfl, ?_⟩
    unfold digRun at h
    split at h
    · exact absurd rfl h
    · omega
theorem numAt_len {base : Int} {skip n : Nat} {l t : List UInt8} (hb : 1 ≤ base) (hb2 : base ≤ 16) (hs : 1 ≤ skip) (h : numAt base skip l = some (t, n)) : t.length ≤ n + 1 ∧ 0 < n ∧ n ≤ skip + l.length := by
  unfold numAt at h
  split at h
  · simp at h
  · next h0 =>
    simp only [Option.some.injEq, Prod.mk.injEq] at h
    obtain ⟨rfl, rfl⟩ := h
    have hd := digRun_le base l
    obtain ⟨c, r, hl, hc⟩ := digRun_pos h0
    generalize hK : digRun base l = k at *
    refine ⟨?_, by omega, ?_⟩
    · by_cases h1 : k = 1
      · rw [h1, hl]
        show (numberL (worthStep base 0 c)).length ≤ _
        have hbd := digit_bd c base hb
        have hw := worthStep_bd base 0 c (by omega) (by omega) hc
        have : ∃ i : Fin 16, worthStep base 0 c = (i.val : Int) := ⟨⟨(worthStep base 0 c).toNat, by omega⟩, by simp; omega⟩
        obtain ⟨i, hi⟩ := this
        rw [hi]
        have := sig_small i
        omega
      · have := number_le (worthL base (l.take k))
        omega
    · split
      · next hx =>
        have : k < l.length := by
          rcases Nat.lt_or_ge k l.length with hlt | hge
          · exact hlt
          · rw [List.getElem?_eq_none hge] at hx; simp at hx
        omega
      · omega
theorem refE_len {r t : List UInt8} {n : Nat} (h : refE r = some (t, n)) : t.length ≤ n + 1 ∧ 0 < n ∧ n ≤ r.length := by
  cases r with
  | nil => simp [refE] at h
  | cons c q =>
    have e1 : refE (c :: q) = if c = 35 then numE q else nameE (c :: q) := rfl
    rw [e1] at h
    by_cases hc : c = 35
    · rw [if_pos hc] at h
      cases q with
      | nil => simp [numE] at h
      | cons d q =>
        have e2 : numE (d :: q) = if isX d = true then numAt 16 2 q else numAt 10 1 (d :: q) := rfl
        rw [e2] at h
        split at h
        · have := numAt_len (by omega) (by omega) (by omega) h
          simp at this ⊢
          omega
        · have := numAt_len (by omega) (by omega) (by omega) h
          simp at this ⊢
          omega
    · rw [if_neg hc] at h
      have := nameE_len h
      omega
theorem decE_le : ∀ n (l : List UInt8), l.length ≤ n → (decE l).length ≤ l.length := by
  intro n
  induction n with
  | zero =>
    intro l hl
    have : l = [] := List.length_eq_zero_iff.1 (by omega)
    subst this
    rw [decE_nil]
    exact Nat.le_refl _
  | succ n ih =>
    intro l hl
    cases l with
    | nil => rw [decE_nil]; exact Nat.le_refl _
    | cons c r =>
      simp only [List.length_cons] at hl
      by_cases hc : c = 38
      · subst hc
        cases hr : refE r with
        | none =>
          rw [decE_none hr]
          have := ih r (by omega)
          simp; omega
        | some p =>
          obtain ⟨t, k⟩ := p
          rw [decE_some hr]
          have h1 := refE_len hr
          have h2 := ih (r.drop k) (by simp; omega)
          simp at h2 ⊢
          omega
      · rw [decE_other _ hc]
        have := ih r (by omega)
        simp; omega
theorem decE_len (l : List UInt8) : (decE l).length ≤ l.length := decE_le _ l (Nat.le_refl _)
/-- names are skipped that are none -/
theorem nameFrom_skip {r : List UInt8} {m : Nat} : ∀ n, m ≤ n → (∀ k, m < k → k ≤ n → namedL (r.take k) = none) → nameFrom r n = nameFrom r m := by
  intro n
  induction n with
  | zero => intro h _; rw [Nat.le_zero.1 h]
  | succ n ih =>
    intro h hk
    by_cases e : m = n + 1
    · rw [e]
    · rw [show nameFrom r (n + 1) = nameFrom r n by
        rw [nameFrom]; simp only [hk (n + 1) (by omega) (Nat.le_refl _)]]
      exact ih (by omega) fun k h1 h2 => hk k h1 (by omega)
/-- what has a byte ahead of its last one that is no letter, or is no letter and no ; at its end, is no name -/
theorem named_none {x : List UInt8} {j : Nat} (hj : j < x.length) (h : letB x[j] = false) (h2 : j + 1 = x.length → x[j] ≠ 59) : namedL x = none := by
  cases hx : namedL x with
  | none => rfl
  | some t =>
    exfalso
    obtain ⟨r, hr, _, _, _, hl, _⟩ := namedL_good hx
    rcases hl with hl | hl
    · subst hl
      have := List.all_eq_true.1 hr x[j] (List.getElem_mem hj)
      rw [h] at this
      cases this
    · subst hl
      by_cases hjr : j < r.length
      · rw [List.getElem_append_left hjr] at h
        have := List.all_eq_true.1 hr r[j] (List.getElem_mem hjr)
        rw [h] at this
        cases this
      · have : j = r.length := by simp at hj; omega
        subst this
        exact h2 (by simp) (by simp)
theorem named_none_at {r : List UInt8} {j k : Nat} {c : UInt8} (hj : r[j]? = some c) (h : letB c = false) (hk : j < k) (hkr : k ≤ r.length) (h2 : j + 1 = k → c ≠ 59) : namedL (r.take k) = none := by
  have hjr : j < r.length := by omega
  have hc : r[j] = c := by rw [List.getElem?_eq_getElem hjr] at hj; simpa using hj
  have hx : j < (r.take k).length := by rw [List.length_take]; omega
  have e : (r.take k)[j] = c := by rw [List.getElem_take]; exact hc
  refine named_none hx (by rw [e]; exact h) fun hl => ?_
  rw [e]
  exact h2 (by rw [List.length_take] at hl; omega)
theorem nameFrom_hit {r t : List UInt8} {n : Nat} (h : namedL (r.take (n + 1)) = some t) (hg : r[n]? = some 59 ∨ goesL (r.drop (n + 1)) = false) : nameFrom r (n + 1) = some (t, n + 1) := by
  rw [nameFrom]
  simp only [h]
  rw [if_neg]
  rintro ⟨h1, h2⟩
  rcases hg with hg | hg
  · exact h1 hg
  · rw [hg] at h2; cases h2
theorem nameFrom_miss {r t : List UInt8} {n : Nat} (h : namedL (r.take (n + 1)) = some t) (h1 : r[n]? ≠ some 59) (h2 : goesL (r.drop (n + 1)) = true) : nameFrom r (n + 1) = none := by
  rw [nameFrom]
  simp only [h]
  rw [if_pos ⟨h1, h2⟩]
theorem letB_ne {c : UInt8} (h : letB c = true) : c ≠ 35 ∧ c ≠ 38 ∧ c ≠ 59 := by
  refine ⟨?_, ?_, ?_⟩ <;> (intro e; subst e; revert h; decide +kernel)
theorem refE_name {c : UInt8} {r : List UInt8} (h : c ≠ 35) : refE (c :: r) = nameE (c :: r) := by
  show (if c = 35 then _ else _) = _
  rw [if_neg h]
/-- where a name is letters, what it is a name of -/
theorem named_letters {name s : List UInt8} (h : namedL (name ++ [59]) = some s) : name.all letB = true ∧ name.length ≤ 14 ∧ 2 ≤ name.length := by
  obtain ⟨r, hr, h1, h2, _, hl, _⟩ := namedL_good h
  rcases hl with hl | hl
  · exfalso
    rw [← hl] at hr
    simp [letB_59] at hr
  · have : name = r := List.append_cancel_right hl
    subst this
    exact ⟨hr, h1, h2⟩
theorem named_letters' {name s : List UInt8} (h : namedL name = some s) (h0 : name.getLast? ≠ some 59) : name.all letB = true ∧ name.length ≤ 14 ∧ 2 ≤ name.length :=
  named_letters (namedL_bare h h0)
theorem refE_letters {name x : List UInt8} (h : name.all letB = true) (h2 : 2 ≤ name.length) : refE (name ++ x) = nameE (name ++ x) := by
  cases name with
  | nil => simp at h2
  | cons c r =>
    have hc : letB c = true := List.all_eq_true.1 h c (by simp)
    exact refE_name (letB_ne hc).1
/-- a name with a ; is read, whatever follows -/
theorem refE_ended {name s : List UInt8} (b : List UInt8) (h : namedL (name ++ [59]) = some s) : refE (name ++ 59 :: b) = some (s, name.length + 1) := by
  obtain ⟨h1, h2, h3⟩ := named_letters h
  rw [refE_letters h1 h3]
  unfold nameE
  have hlen : (name ++ 59 :: b).length = name.length + (b.length + 1) := by simp
  have h59 : (name ++ 59 :: b)[name.length]? = some 59 := by simp
  rw [nameFrom_skip (m := name.length + 1) _ (by omega) fun k hk1 hk2 => named_none_at h59 letB_59 (by omega) (by omega) fun e => by omega]
  refine nameFrom_hit ?_ (.inl h59)
  rw [show name ++ 59 :: b = (name ++ [59]) ++ b by simp, List.take_append_of_le_length (by simp), List.take_of_length_le (by simp)]
  exact h
theorem decE_ended {name s : List UInt8} (b : List UInt8) (h : namedL (name ++ [59]) = some s) : decE (38 :: (name ++ 59 :: b)) = s ++ decE b := by
  rw [decE_some (refE_ended b h)]
  congr 2
  rw [show name ++ 59 :: b = (name ++ [59]) ++ b by simp]
  exact List.drop_left' (by simp)
theorem last_letter {name : List UInt8} (h : name.all letB = true) (n : Nat) (hn : name.length = n + 1) (x : List UInt8) : (name ++ x)[n]? ≠ some 59 := by
  have hlt : n < name.length := by omega
  rw [List.getElem?_append_left hlt, List.getElem?_eq_getElem hlt]
  intro e
  injection e with e
  have := List.all_eq_true.1 h name[n] (List.getElem_mem hlt)
  exact (letB_ne this).2.2 e
theorem goes_letter {c : UInt8} (h : moreB c = false) : letB c = false := by
  unfold moreB at h
  simp only [Bool.or_eq_false_iff] at h
  exact h.1.1
/-- one without is, if no letter, digit or = follows -/
theorem refE_open {name t b : List UInt8} (h : namedL name = some t) (h0 : name.getLast? ≠ some 59) (hb : goesL b = false) (hb2 : b.head? ≠ some 59) : refE (name ++ b) = some (t, name.length) := by
  obtain ⟨h1, h2, h3⟩ := named_letters' h h0
  rw [refE_letters h1 h3]
  unfold nameE
  have hlen : (name ++ b).length = name.length + b.length := by simp
  obtain ⟨n, hn⟩ : ∃ n, name.length = n + 1 := ⟨name.length - 1, by omega⟩
  rw [nameFrom_skip (m := name.length) _ (by omega) fun k hk1 hk2 => ?_, hn]
  · refine nameFrom_hit ?_ (.inr ?_)
    · rw [← hn, List.take_append_of_le_length (Nat.le_refl _), List.take_length]
      exact h
    · rw [← hn, List.drop_left]
      exact hb
  · cases b with
    | nil => have : ([] : List UInt8).length = 0 := rfl; omega
    | cons c b =>
      have hc : (name ++ c :: b)[name.length]? = some c := by simp
      refine named_none_at hc (goes_letter hb) (by omega) (by omega) fun _ e => hb2 (by rw [e]; rfl)
theorem decE_open {name t b : List UInt8} (h : namedL name = some t) (h0 : name.getLast? ≠ some 59) (hb : goesL b = false) (hb2 : b.head? ≠ some 59) : decE (38 :: (name ++ b)) = t ++ decE b := by
  rw [decE_some (refE_open h h0 hb hb2), List.drop_left]
theorem more_61 : moreB 61 = true := by decide +kernel
theorem let_61 : letB 61 = false := by decide +kernel
/-- a name with = behind it is none -/
theorem refE_equal {name t : List UInt8} (b : List UInt8) (h : namedL name = some t) (h0 : name.getLast? ≠ some 59) : refE (name ++ 61 :: b) = none := by
  obtain ⟨h1, h2, h3⟩ := named_letters' h h0
  rw [refE_letters h1 h3]
  unfold nameE
  have hlen : (name ++ 61 :: b).length = name.length + (b.length + 1) := by simp
  obtain ⟨n, hn⟩ : ∃ n, name.length = n + 1 := ⟨name.length - 1, by omega⟩
  have hc : (name ++ 61 :: b)[name.length]? = some 61 := by simp
  rw [nameFrom_skip (m := name.length) _ (by omega) fun k hk1 hk2 => named_none_at hc let_61 (by omega) (by omega) (by intro _; decide), hn]
  refine nameFrom_miss (t := t) ?_ (last_letter h1 n hn _) ?_
  · rw [← hn, List.take_append_of_le_length (Nat.le_refl _), List.take_length]
    exact h
  · rw [← hn, List.drop_left]
    exact more_61
theorem decE_equal {name t : List UInt8} (b : List UInt8) (h : namedL name = some t) (h0 : name.getLast? ≠ some 59) : decE (38 :: (name ++ 61 :: b)) = 38 :: (name ++ 61 :: decE b) := by
  obtain ⟨h1, h2, h3⟩ := named_letters' h h0
  rw [decE_none (refE_equal b h h0), decE_pre _ _ fun c hc => (letB_ne (List.all_eq_true.1 h1 c hc)).2.1, decE_other _ (by decide)]
/-- a name that ends in a ; -/
theorem decE_semi {name t : List UInt8} (b : List UInt8) (h : namedL name = some t) (h0 : name.getLast? = some 59) : decE (38 :: (name ++ b)) = t ++ decE b := by
  obtain ⟨r, hr⟩ := List.getLast?_eq_some_iff.1 h0
  subst hr
  rw [List.append_assoc]
  exact decE_ended b h
/-- a & alone -/
theorem refE_alone {c : UInt8} (b : List UInt8) (h : letB c = false) (h2 : c ≠ 35) : refE (c :: b) = none := by
  rw [refE_name h2]
  unfold nameE
  rw [nameFrom_skip (m := 0) _ (by omega) fun k hk1 hk2 => ?_]
  · rfl
  · cases hx : namedL ((c :: b).take k) with
    | none => rfl
    | some t =>
      exfalso
      obtain ⟨r, hr, _, h3, _, hl, _⟩ := namedL_good hx
      cases r with
      | nil => simp at h3
      | cons d r =>
        have hd : letB d = true := List.all_eq_true.1 hr d (by simp)
        cases k with
        | zero => omega
        | succ k =>
          rw [List.take_succ_cons] at hl
          have : c = d := by
            rcases hl with hl | hl
            · injection hl
            · rw [List.cons_append] at hl; injection hl
          rw [this, hd] at h
          cases h
theorem decE_alone {c : UInt8} (b : List UInt8) (h : letB c = false) (h2 : c ≠ 35) : decE (38 :: c :: b) = 38 :: decE (c :: b) := decE_none (refE_alone b h h2)
end Go.Proofs.Ytmcjljjagfpkkaa
