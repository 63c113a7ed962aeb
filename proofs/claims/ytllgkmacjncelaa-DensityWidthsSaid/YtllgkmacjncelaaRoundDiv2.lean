/-
  The quotient of two floats that are not less than 0, and a float of an integer: what they are, and that they keep the order. Conditions: as each theorem states.
-/
import Derived.Test.YtllgkmacjncelaaRoundDiv
import Derived.Test.YtllgkmacjncelaaDensOf
set_option linter.all false
namespace Go.Proofs.Ytllgkmacjncelaa
/-- minus the least place -/
def lp : Nat := 1074
theorem lp_eq : lp = 1074 := rfl
theorem word_false (r : Nat) : Ieee.double.word false r = r := rfl
theorem log2_le {n : Nat} (h : n ≠ 0) : 2 ^ n.log2 ≤ n := Nat.log2_self_le h
theorem pow_div {n a d : Nat} (h : 2 ^ (a + d) ≤ n) : 2 ^ a ≤ n / 2 ^ d := by
  rw [Nat.le_div_iff_mul_le (Nat.two_pow_pos _), ← Nat.pow_add]; exact h
theorem div_pow {n a d : Nat} (h : n < 2 ^ (a + d)) : n / 2 ^ d < 2 ^ a := by
  rw [Nat.div_lt_iff_lt_mul (Nat.two_pow_pos _), ← Nat.pow_add]; exact h
/-- a float of an integer: its rung is a rounding -/
theorem width_rnd (a : Nat) (h0 : 0 < a) (h : a < 2 ^ 64) : ∃ r, Ieee.double.nearest false a 0 = r ∧ Rnd (a * 2 ^ lp) 1 r ∧ r < 2047 * 2 ^ 52 := by
  have hlp := lp_eq
  have hne : a ≠ 0 := by omega
  have hl1 := log2_le hne
  have hl2 : a < 2 ^ (a.log2 + 1) := Nat.lt_log2_self
  have hl3 : a.log2 < 64 := (Nat.log2_lt hne).2 h
  rw [nearest_word false a 0 hne, word_false]
  have hmax : max ((0 : Int) + a.log2 - 52) (-1074) = (a.log2 : Int) - 52 := by omega
  rw [hmax]
  have key : ∃ r, ((a.log2 : Int) - 52 + 1074).toNat * 2 ^ 52 + Ieee.Toward.even.cut false (a <<< (0 - ((a.log2 : Int) - 52)).toNat) ((a.log2 : Int) - 52 - 0).toNat = r ∧ Rnd (a * 2 ^ lp) 1 r := by
    refine ⟨_, rfl, ?_⟩
    rcases Nat.lt_or_ge a.log2 52 with hlt | hge
    · have e1 : (0 - ((a.log2 : Int) - 52)).toNat = 52 - a.log2 := by omega
      have e2 : ((a.log2 : Int) - 52 - 0).toNat = 0 := by omega
      have e3 : ((a.log2 : Int) - 52 + 1074).toNat = 1022 + a.log2 := by omega
      rw [e1, e2, e3, Nat.shiftLeft_eq]
      refine cut_exact _ _ _ _ _ (by decide) ?_ ?_
      · rw [Nat.pow_zero, Nat.mul_one, Nat.mul_one, Nat.mul_assoc, ← Nat.pow_add]
        congr 2; omega
      · right
        rw [Nat.pow_zero, Nat.div_one]
        have p1 : 2 ^ 52 = 2 ^ a.log2 * 2 ^ (52 - a.log2) := by rw [← Nat.pow_add]; congr 1; omega
        have p2 : 2 ^ 53 = 2 ^ (a.log2 + 1) * 2 ^ (52 - a.log2) := by rw [← Nat.pow_add]; congr 1; omega
        constructor
        · rw [p1]; exact Nat.mul_le_mul_right _ hl1
        · rw [p2]; exact Nat.mul_lt_mul_of_pos_right hl2 (Nat.two_pow_pos _)
    · have e1 : (0 - ((a.log2 : Int) - 52)).toNat = 0 := by omega
      have e2 : ((a.log2 : Int) - 52 - 0).toNat = a.log2 - 52 := by omega
      have e3 : ((a.log2 : Int) - 52 + 1074).toNat = 1022 + a.log2 := by omega
      rw [e1, e2, e3, Nat.shiftLeft_eq, Nat.pow_zero, Nat.mul_one]
      refine cut_exact _ _ _ _ _ (by decide) ?_ ?_
      · rw [Nat.mul_one, Nat.mul_assoc, ← Nat.pow_add]
        congr 2; omega
      · right
        refine ⟨pow_div ?_, div_pow ?_⟩
        · rw [show 52 + (a.log2 - 52) = a.log2 by omega]; exact hl1
        · rw [show 53 + (a.log2 - 52) = a.log2 + 1 by omega]; exact hl2
  obtain ⟨r, hr, hR⟩ := key
  rw [hr]
  have hbound : r < 2047 * 2 ^ 52 := by
    rw [← hr, cut_eq]
    have hk : (a <<< (0 - ((a.log2 : Int) - 52)).toNat) / 2 ^ ((a.log2 : Int) - 52 - 0).toNat < 2 ^ 53 := by
      rw [Nat.shiftLeft_eq]
      refine div_pow ?_
      have : 2 ^ (53 + ((a.log2 : Int) - 52 - 0).toNat) = 2 ^ (a.log2 + 1) * 2 ^ (0 - ((a.log2 : Int) - 52)).toNat := by
        rw [← Nat.pow_add]; congr 1; omega
      rw [this]
      exact Nat.mul_lt_mul_of_pos_right hl2 (Nat.two_pow_pos _)
    have he : ((a.log2 : Int) - 52 + 1074).toNat ≤ 1086 := by omega
    have hu : (upN (a <<< (0 - ((a.log2 : Int) - 52)).toNat) ((a.log2 : Int) - 52 - 0).toNat).toNat ≤ 1 := by
      cases upN (a <<< (0 - ((a.log2 : Int) - 52)).toNat) ((a.log2 : Int) - 52 - 0).toNat <;> decide
    generalize (a <<< (0 - ((a.log2 : Int) - 52)).toNat) / 2 ^ ((a.log2 : Int) - 52 - 0).toNat = q at *
    generalize ((a.log2 : Int) - 52 + 1074).toNat = e at *
    generalize (upN (a <<< (0 - ((a.log2 : Int) - 52)).toNat) ((a.log2 : Int) - 52 - 0).toNat).toNat = u at *
    omega
  exact ⟨r, by rw [Nat.min_eq_left (by omega)], hR, hbound⟩
theorem rnd_zero (D : Nat) (hD : 0 < D) : Rnd 0 D 0 := by
  have h0 : mg 0 = 0 := mg_zero
  have h1 : mg (0 + 1) = 1 := by decide +kernel
  refine ⟨0, by rw [h0]; omega, by rw [h1]; omega, .inl ⟨rfl, ?_, ?_⟩⟩ <;> rw [h0, h1] <;> omega
/-- a width's float: a rung that is not infinity's -/
theorem widthF_rung (a : Int) (h0 : 0 ≤ a) (h : a < 2 ^ 64) : widthF a < 2047 * 2 ^ 52 ∧ Rnd (a.toNat * 2 ^ lp) 1 (widthF a) := by
  have hn : (decide (a < 0)) = false := by simpa using h0
  rw [widthF_eq, hn, show a.natAbs = a.toNat by omega]
  rcases Nat.eq_zero_or_pos a.toNat with hz | hp
  · rw [hz]
    have : Ieee.double.nearest false 0 0 = 0 := by decide +kernel
    rw [this, Nat.zero_mul]
    exact ⟨by decide, rnd_zero 1 (by decide)⟩
  · obtain ⟨r, e, hR, hb⟩ := width_rnd a.toNat hp (by omega)
    rw [e]
    exact ⟨hb, hR⟩
theorem widthF_le {a b : Int} (h0 : 0 ≤ a) (hab : a ≤ b) (h : b < 2 ^ 64) : widthF a ≤ widthF b :=
  (widthF_rung a h0 (by omega)).2.mono (widthF_rung b (by omega) h).2 (by decide) (by decide) (Nat.mul_le_mul_right _ (Nat.mul_le_mul_right _ (by omega)))
/-- the quotient of two floats that are not less than 0, the lower one greater, and neither infinite -/
theorem div_rnd (x s : Nat) (hx : x < 2047 * 2 ^ 52) (hs : s < 2047 * 2 ^ 52) (hs0 : 0 < s) :
    ∃ r, Ieee.double.div x s = some (min r (2047 * 2 ^ 52)) ∧ Rnd (mg x * 2 ^ lp) (mg s) r := by
  have hlp := lp_eq
  have hx63 : x % 2 ^ 63 = x := Nat.mod_eq_of_lt (by omega)
  have hs63 : s % 2 ^ 63 = s := Nat.mod_eq_of_lt (by omega)
  have hxn : fNeg x = false := by unfold fNeg; rw [show x / 2 ^ 63 = 0 by omega]; rfl
  have hsn : fNeg s = false := by unfold fNeg; rw [show s / 2 ^ 63 = 0 by omega]; rfl
  obtain ⟨m, i, hm, em⟩ := read_fin x (by rw [hx63]; exact hx)
  obtain ⟨n, j, hn, en⟩ := read_fin s (by rw [hs63]; exact hs)
  rw [hxn] at hm
  rw [hsn] at hn
  rw [hx63] at em
  rw [hs63] at en
  have hfb : Ieee.double.fractionBits + 2 = 54 := by decide +kernel
  have hms : 0 < mg s := by have := mg_lt hs0; rw [mg_zero] at this; exact this
  have hn0 : n ≠ 0 := by intro e; rw [e, Nat.zero_mul] at en; omega
  unfold Ieee.Format.div
  rw [hm, hn, hfb]
  simp only [Ieee.Datum.quotient, if_neg hn0, Option.map_some, Ieee.Format.write, Bool.xor_self]
  rcases Nat.eq_zero_or_pos m with hm0 | hmp
  · refine ⟨0, ?_, ?_⟩
    · rw [hm0]
      simp [Ieee.Format.nearest, word_false]
    · rw [← em, hm0, Nat.zero_mul, Nat.zero_mul]
      exact rnd_zero _ hms
  · have hmne : m ≠ 0 := by omega
    have hml : m.log2 ≤ 54 := by
      have hmb : m < 2 ^ 55 := by
        rcases Nat.lt_or_ge m (2 ^ 55) with h | h
        · exact h
        · exfalso
          -- a significand has at most 53 digits
          have hrd : Ieee.double.read x = .number false m (-1074 + (i : Int)) := hm
          unfold Ieee.Format.read at hrd
          have hsw : Ieee.double.signWeight = 2 ^ 63 := by decide +kernel
          have hbn : Ieee.double.binade = 2 ^ 52 := by decide +kernel
          simp only [hsw, hbn, hx63] at hrd
          split at hrd
          · injection hrd with _ h2 _; omega
          · split at hrd
            · injection hrd with _ h2 _; omega
            · split at hrd <;> cases hrd
      have := (Nat.log2_lt hmne).2 hmb
      omega
    obtain ⟨more, hmore⟩ : ∃ more, 54 + n.log2 - m.log2 = more := ⟨_, rfl⟩
    rw [hmore, Nat.shiftLeft_eq]
    obtain ⟨X, hX⟩ : ∃ X, m * 2 ^ more = X := ⟨_, rfl⟩
    rw [hX]
    have hXn : 2 ^ 53 * n ≤ X := by
      have h1 := log2_le hmne
      have h2 : n < 2 ^ (n.log2 + 1) := Nat.lt_log2_self
      have h3 : 2 ^ 53 * 2 ^ (n.log2 + 1) = 2 ^ m.log2 * 2 ^ more := by rw [← Nat.pow_add, ← Nat.pow_add]; congr 1; omega
      have h4 : 2 ^ 53 * n ≤ 2 ^ 53 * 2 ^ (n.log2 + 1) := Nat.mul_le_mul_left _ (by omega)
      have h5 : 2 ^ m.log2 * 2 ^ more ≤ m * 2 ^ more := Nat.mul_le_mul_right _ h1
      omega
    have hnp : 0 < n := by omega
    have hq53 : 2 ^ 53 ≤ X / n := (Nat.le_div_iff_mul_le hnp).2 hXn
    obtain ⟨q, hq⟩ : ∃ q, 2 * (X / n) + (X % n != 0).toNat = q := ⟨_, rfl⟩
    have hq54 : 2 ^ 54 ≤ q := by omega
    rw [hq]
    have hqne : q ≠ 0 := by omega
    have hql : 54 ≤ q.log2 := by
      rcases Nat.lt_or_ge q.log2 54 with h | h
      · have := (Nat.log2_lt hqne).1 h; omega
      · exact h
    have hq1 := log2_le hqne
    have hq2 : q < 2 ^ (q.log2 + 1) := Nat.lt_log2_self
    rw [nearest_word false q _ hqne, word_false]
    obtain ⟨pl, hpl⟩ : ∃ pl : Int, -1074 + (i : Int) - (-1074 + (j : Int)) - (more : Int) - 1 = pl := ⟨_, rfl⟩
    rw [hpl]
    obtain ⟨last, hlast⟩ : ∃ last : Int, max (pl + (q.log2 : Int) - 52) (-1074) = last := ⟨_, rfl⟩
    rw [hlast]
    have hsh : (pl - last).toNat = 0 := by omega
    rw [hsh, Nat.shiftLeft_eq, Nat.pow_zero, Nat.mul_one]
    obtain ⟨g, hg⟩ : ∃ g, (last - pl).toNat = g + 2 := ⟨(last - pl).toNat - 2, by omega⟩
    rw [hg]
    refine ⟨_, rfl, ?_⟩
    rw [← hq]
    refine cut_sticky X n g _ _ _ hms hnp ?_ ?_
    · rw [← em, ← en, ← hX]
      have ex : i + lp + (g + 1) = more + ((last + 1074).toNat + j) := by omega
      have l1 : m * 2 ^ i * 2 ^ lp * (n * 2 ^ (g + 1)) = m * n * (2 ^ (i + lp + (g + 1))) := by
        rw [Nat.pow_add 2 (i + lp) (g + 1), Nat.pow_add 2 i lp]; simp only [Nat.mul_assoc, Nat.mul_comm, Nat.mul_left_comm]
      have l2 : m * 2 ^ more * (2 ^ (last + 1074).toNat * (n * 2 ^ j)) = m * n * (2 ^ (more + ((last + 1074).toNat + j))) := by
        rw [Nat.pow_add 2 more _, Nat.pow_add 2 _ j]; simp only [Nat.mul_assoc, Nat.mul_comm, Nat.mul_left_comm]
      rw [l1, l2, ex]
    · rw [hq]
      have hlt : q / 2 ^ (g + 2) < 2 ^ 53 := by
        refine div_pow (Nat.lt_of_lt_of_le hq2 (Nat.pow_le_pow_right (by decide) ?_))
        omega
      by_cases he : (last + 1074).toNat = 0
      · exact .inl ⟨he, hlt⟩
      · refine .inr ⟨pow_div ?_, hlt⟩
        rw [show 52 + (g + 2) = q.log2 by omega]
        exact hq1
theorem rk_small (x : Nat) (h : x ≤ 2047 * 2 ^ 52) : fNaN x = false ∧ rk x = (x : Int) := by
  have h1 : x % 2 ^ 63 = x := Nat.mod_eq_of_lt (by omega)
  refine ⟨by unfold fNaN; rw [h1]; exact decide_eq_false (by omega), ?_⟩
  unfold rk fNeg
  rw [h1, show x / 2 ^ 63 = 0 by omega]
  rfl
/-- the quotient by infinity -/
theorem div_inf (x s : Nat) (hx : x < 2047 * 2 ^ 52) (hs : s = 2047 * 2 ^ 52) : Ieee.double.div x s = some 0 := by
  have hx63 : x % 2 ^ 63 = x := Nat.mod_eq_of_lt (by omega)
  have hs63 : s % 2 ^ 63 = s := Nat.mod_eq_of_lt (by omega)
  have hxn : fNeg x = false := by unfold fNeg; rw [show x / 2 ^ 63 = 0 by omega]; rfl
  have hsn : fNeg s = false := by unfold fNeg; rw [show s / 2 ^ 63 = 0 by omega]; rfl
  obtain ⟨m, i, hm, em⟩ := read_fin x (by rw [hx63]; exact hx)
  have hi := read_inf s (by rw [hs63]; exact hs)
  rw [hxn] at hm
  rw [hsn] at hi
  unfold Ieee.Format.div
  rw [hm, hi]
  simp [Ieee.Datum.quotient, Ieee.Format.write, Ieee.Format.nearest, word_false]
/-- what Of is of a width, where the size is not less than 0 -/
theorem of_pos (a : Int) (s : Nat) (h64 : s < 2 ^ 64) (hs : fGe s 0 = true) : (rk s = 0 ∧ ofF false 0 true a s = infF) ∨
    (fNaN s = false ∧ fLt s 0 = false ∧ fEq s 0 = false ∧ 0 < s ∧ s ≤ 2047 * 2 ^ 52 ∧ rk s = s ∧ ofF false 0 true a s = (Ieee.double.div (widthF a) s).getD 0) := by
  have h0 : fNaN 0 = false := by decide +kernel
  have r0 : rk 0 = 0 := by decide +kernel
  rw [fGe_eq, h0, r0] at hs
  have hn : fNaN s = false := by
    cases h : fNaN s
    · rfl
    · rw [h] at hs; simp at hs
  rw [hn] at hs
  have hk : 0 ≤ rk s := by simpa using hs
  have hlt : fLt s 0 = false := by rw [fLt_eq, hn, h0, r0]; simp; omega
  by_cases hz : rk s = 0
  · refine .inl ⟨hz, ?_⟩
    have he : fEq s 0 = true := by rw [fEq_eq, hn, h0, r0, hz]; rfl
    simp [ofF, hn, hlt, he]
  · right
    have he : fEq s 0 = false := by rw [fEq_eq, hn, h0, r0]; simp; exact hz
    have hb : s % 2 ^ 63 ≤ 2047 * 2 ^ 52 := by
      unfold fNaN at hn
      have := of_decide_eq_false hn
      omega
    have hneg : s / 2 ^ 63 % 2 ≠ 1 := by
      intro e
      unfold rk fNeg sgI at hk hz
      rw [e] at hk hz
      simp at hk hz
      omega
    have hs63 : s % 2 ^ 63 = s := by omega
    rw [hs63] at hb
    have hr := (rk_small s hb).2
    exact ⟨hn, hlt, he, by omega, hb, hr, by simp [ofF, hn, hlt, he]⟩
theorem fLe_small {x y : Nat} (hy : y ≤ 2047 * 2 ^ 52) (h : x ≤ y) : fLe x y = true := by
  obtain ⟨n1, r1⟩ := rk_small x (by omega)
  obtain ⟨n2, r2⟩ := rk_small y hy
  rw [fLe_eq, n1, n2, r1, r2]
  simp; exact h
theorem fGe_small {x : Nat} (hx : x ≤ 2047 * 2 ^ 52) : fGe x 0 = true := by
  obtain ⟨n1, r1⟩ := rk_small x hx
  rw [fGe_eq, n1, r1]
  have h0 : fNaN 0 = false := by decide +kernel
  have r0 : rk 0 = 0 := by decide +kernel
  rw [h0, r0]; simp
theorem infF_eq : infF = 2047 * 2 ^ 52 := by decide +kernel
/-- the three densities of the statement -/
theorem widths_law (a b : Int) (s t : Nat) (h0 : 0 ≤ a) (hab : a ≤ b) (hb : b < 2 ^ 63) (hs64 : s < 2 ^ 64) (ht64 : t < 2 ^ 64) (hs : fGe s 0 = true) (hts : fGe t s = true) :
    fLe (ofF false 0 true a s) (ofF false 0 true b s) = true ∧ fLe (ofF false 0 true b t) (ofF false 0 true b s) = true ∧ fGe (ofF false 0 true b t) 0 = true := by
  have h0' : fNaN 0 = false := by decide +kernel
  have r0 : rk 0 = 0 := by decide +kernel
  have hst : rk s ≤ rk t ∧ fNaN t = false := by
    rw [fGe_eq] at hts
    cases h1 : fNaN t
    · cases h2 : fNaN s
      · rw [h1, h2] at hts; exact ⟨by simpa using hts, rfl⟩
      · rw [h2] at hts; simp at hts
    · rw [h1] at hts; simp at hts
  have hsk : 0 ≤ rk s := by
    rw [fGe_eq, h0', r0] at hs
    cases h2 : fNaN s
    · rw [h2] at hs; simpa using hs
    · rw [h2] at hs; simp at hs
  have ht : fGe t 0 = true := by rw [fGe_eq, h0', r0, hst.2]; simp; omega
  obtain ⟨wa, ra⟩ := widthF_rung a h0 (by omega)
  obtain ⟨wb, rb⟩ := widthF_rung b (by omega) (by omega)
  have wab : widthF a ≤ widthF b := widthF_le h0 hab (by omega)
  have mono : ∀ {x y : Nat}, x ≤ y → mg x ≤ mg y := fun {x y} h => by
    rcases Nat.lt_or_eq_of_le h with h | h
    · exact Nat.le_of_lt (mg_lt h)
    · rw [h]; exact Nat.le_refl _
  rcases of_pos a s hs64 hs with ⟨hz, e1⟩ | ⟨_, _, _, hp, hbs, hrs, e1⟩
  · rcases of_pos b s hs64 hs with ⟨_, e2⟩ | ⟨_, _, _, hp, _, hr, _⟩
    · rw [e1, e2]
      have hinf : infF ≤ 2047 * 2 ^ 52 := by rw [infF_eq]; exact Nat.le_refl _
      refine ⟨fLe_small hinf (Nat.le_refl _), ?_⟩
      have hzle : ofF false 0 true b t ≤ infF := by
        rcases of_pos b t ht64 ht with ⟨_, e3⟩ | ⟨_, _, _, hp, hbt, _, e3⟩
        · rw [e3]; exact Nat.le_refl _
        · rw [e3]
          rcases Nat.lt_or_eq_of_le hbt with hlt | heq
          · obtain ⟨r, hr, _⟩ := div_rnd (widthF b) t wb hlt hp
            rw [hr, infF_eq]; exact Nat.min_le_right _ _
          · rw [div_inf _ _ wb heq]; exact Nat.zero_le _
      exact ⟨fLe_small hinf hzle, fGe_small (Nat.le_trans hzle hinf)⟩
    · omega
  · rcases of_pos b s hs64 hs with ⟨hz, _⟩ | ⟨_, _, _, _, _, _, e2⟩
    · omega
    · rcases of_pos b t ht64 ht with ⟨hz, _⟩ | ⟨_, _, _, hpt, hbt, hrt, e3⟩
      · omega
      · rw [e1, e2, e3]
        rcases Nat.lt_or_eq_of_le hbs with hlt | heq
        · obtain ⟨r1, q1, R1⟩ := div_rnd (widthF a) s wa hlt hp
          obtain ⟨r2, q2, R2⟩ := div_rnd (widthF b) s wb hlt hp
          have hms : 0 < mg s := by have := mg_lt hp; rw [mg_zero] at this; exact this
          have h12 : r1 ≤ r2 := R1.mono R2 hms hms (Nat.mul_le_mul_right _ (Nat.mul_le_mul_right _ (mono wab)))
          rw [q1, q2]
          have m2 : min r2 (2047 * 2 ^ 52) ≤ 2047 * 2 ^ 52 := Nat.min_le_right _ _
          refine ⟨fLe_small m2 (by show min r1 _ ≤ min r2 _; omega), ?_⟩
          rcases Nat.lt_or_eq_of_le hbt with hlt' | heq'
          · obtain ⟨r3, q3, R3⟩ := div_rnd (widthF b) t wb hlt' hpt
            have hmt : 0 < mg t := by have := mg_lt hpt; rw [mg_zero] at this; exact this
            have hst' : s ≤ t := by omega
            have h32 : r3 ≤ r2 := R3.mono R2 hmt hms (Nat.mul_le_mul_left _ (mono hst'))
            rw [q3]
            exact ⟨fLe_small m2 (by show min r3 _ ≤ min r2 _; omega), fGe_small (Nat.min_le_right _ _)⟩
          · rw [div_inf _ _ wb heq']
            exact ⟨fLe_small m2 (Nat.zero_le _), fGe_small (Nat.zero_le _)⟩
        · rw [div_inf _ _ wa heq, div_inf _ _ wb heq]
          have : t = s := by omega
          rw [this, div_inf _ _ wb heq]
          exact ⟨fLe_small (Nat.zero_le _) (Nat.le_refl _), fLe_small (Nat.zero_le _) (Nat.le_refl _), fGe_small (Nat.zero_le _)⟩
/-- the division in Of is valid -/
theorem of_div (a : Int) (s : Nat) (h0 : 0 ≤ a) (ha : a < 2 ^ 63) (h64 : s < 2 ^ 64) (hs : fGe s 0 = true) (he : fEq s 0 = false) : ∃ r, Ieee.double.div (widthF a) s = some r := by
  obtain ⟨wa, _⟩ := widthF_rung a h0 (by omega)
  have h0' : fNaN 0 = false := by decide +kernel
  have r0 : rk 0 = 0 := by decide +kernel
  rcases of_pos a s h64 hs with ⟨hz, _⟩ | ⟨_, _, _, hp, hb, _, _⟩
  · exfalso
    have hn : fNaN s = false := by
      rw [fGe_eq] at hs
      cases h : fNaN s
      · rfl
      · rw [h] at hs; simp at hs
    rw [fEq_eq, hn, h0', r0, hz] at he
    simp at he
  · rcases Nat.lt_or_eq_of_le hb with hlt | heq
    · obtain ⟨r, hr, _⟩ := div_rnd (widthF a) s wa hlt hp
      exact ⟨_, hr⟩
    · exact ⟨_, div_inf _ _ wa heq⟩
end Go.Proofs.Ytllgkmacjncelaa
