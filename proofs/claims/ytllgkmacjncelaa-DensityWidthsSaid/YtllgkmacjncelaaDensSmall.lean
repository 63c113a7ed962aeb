/-
  The walk of layer 20's small case. Conditions: none.
-/
import Derived.Test.YtllgkmacjncelaaDensPick
import Derived.Test.YtllgkmacjncelaaDensKeptW
import Derived.Test.YtllgkmacjncelaaIntsSame
import Derived.Laws.NewFold
set_option linter.all false
namespace Go.Proofs.Ytllgkmacjncelaa
open Go.RowKit
theorem nan_drawn (t : Nat) : fNaN ((Question.nanBits .f64 0 0).cut t) = true ∧ (Question.nanBits .f64 0 0).cut t < 2 ^ 64 := by
  have e : (Question.nanBits .f64 0 0).cut t = t % 2 * 2 ^ 63 + 9218868437227405312 + 1 + t / 2 % (2 ^ 52 - 1) := rfl
  rw [e]
  have h1 := Nat.mod_lt (t / 2) (show 0 < 2 ^ 52 - 1 by decide)
  generalize t / 2 % (2 ^ 52 - 1) = r at *
  refine ⟨decide_eq_true ?_, by omega⟩
  have h2 : t % 2 = 0 ∨ t % 2 = 1 := by omega
  rcases h2 with h2 | h2 <;> rw [h2] <;> omega
/-- 0/0: some number that is none -/
theorem run_zero_zero (t : TypeId) (w : World) : ∃ x, fNaN x = true ∧ x < 2 ^ 64 ∧ (binOp .quo t (.float .f64 0) (.float .f64 0)).run Try.prog w = .ok (.float .f64 x) w.drew := by
  have h1 : FloatKind.f64.format.div 0 0 = none := by decide +kernel
  refine ⟨(Question.nanBits .f64 0 0).cut (w.tape w.drawn (.nanBits .f64 0 0)), ?_, ?_, ?_⟩
  · exact (nan_drawn _).1
  · exact (nan_drawn _).2
  · simp [binOp, Op.floatArith, h1, Question.forced]
theorem ReadF.made (w : World) (l : List Nat) (t : TypeId) : ReadF (w.alloc (.cells (l.map (Value.float .f64)).toArray t)) (.slice (some ⟨w.heap.size, 0, none⟩) l.length l.length) l := by
  refine .inr ⟨w.heap.size, 0, l.length, rfl, Nat.le_refl _, fun j hj => ?_⟩
  rw [World.cell?_alloc_mark w (l.map (Value.float .f64)).toArray t (0, 0) (0 + j)]
  simp [List.getElem?_eq_getElem hj]
theorem ReadI.made (w : World) (l : List Int) (t : TypeId) : ReadI (w.alloc (.cells (l.map (Value.int .i64)).toArray t)) (.slice (some ⟨w.heap.size, 0, none⟩) l.length l.length) l := by
  refine .inr ⟨w.heap.size, 0, l.length, rfl, Nat.le_refl _, fun j hj => ?_⟩
  rw [World.cell?_alloc_mark w (l.map (Value.int .i64)).toArray t (0, 0) (0 + j)]
  simp [List.getElem?_eq_getElem hj]
theorem of_1 (x : Nat) : ofF false 0 true 3 4611686018427387904 = 4609434218613702656 := by decide +kernel
theorem of_2 : ofF false 0 true 3 9223372036854775808 = infF := by decide +kernel
theorem of_3 (x : Nat) (hx : fNaN x = true) : ofF false 0 true 3 x = nanF := by simp [ofF, hx]
theorem of_4 (x : Nat) : ofF true 4611686018427387904 false 0 x = 4611686018427387904 := rfl
theorem of_5 : ofF false 0 false 0 4619567317775286272 = 4607182418800017408 := rfl
theorem fl_1 : fEq 4609434218613702656 4609434218613702656 = true := by decide +kernel
theorem fl_2 : fEq infF infF = true := by decide +kernel
theorem fl_3 : fNe nanF nanF = true := by decide +kernel
theorem fl_4 : fEq 4611686018427387904 4611686018427387904 = true := by decide +kernel
theorem fl_5 : fEq 4607182418800017408 4607182418800017408 = true := by decide +kernel
theorem quo_1 (t : TypeId) (w : World) : (binOp .quo t (.float .f64 4607182418800017408) (.float .f64 0)).run Try.prog w = .ok (.float .f64 infF) w :=
  run_float_arith w .quo t .f64 _ _ _ (by decide +kernel)
theorem neg_zero (w : World) : (Op.unary UnOp.neg (.float .f64 0)).run Try.prog w = .ok (.float .f64 9223372036854775808) w := by kernel_rfl
theorem kept_small (x : Nat) (hx : fNaN x = true) : keptI [4607182418800017408, x, 4611686018427387904, 4607182418800017408, 0, 9223372036854775808, x] 7 = [0, 2, 4] := by
  have h1 : fNaN 4607182418800017408 = false := by decide +kernel
  have h2 : fNaN 4611686018427387904 = false := by decide +kernel
  have h3 : fNaN 0 = false := by decide +kernel
  have h4 : fNaN 9223372036854775808 = false := by decide +kernel
  have r1 : rk 4607182418800017408 = 4607182418800017408 := by decide +kernel
  have r2 : rk 4611686018427387904 = 4611686018427387904 := by decide +kernel
  have r3 : rk 0 = 0 := by decide +kernel
  have r4 : rk 9223372036854775808 = 0 := by decide +kernel
  have n0 : newAt [4607182418800017408, x, 4611686018427387904, 4607182418800017408, 0, 9223372036854775808, x] 0 := ⟨h1, fun j hj => by omega⟩
  have n1 : ¬ newAt [4607182418800017408, x, 4611686018427387904, 4607182418800017408, 0, 9223372036854775808, x] 1 := fun h => by have := h.1; simp [hx] at this
  have n2 : newAt [4607182418800017408, x, 4611686018427387904, 4607182418800017408, 0, 9223372036854775808, x] 2 := ⟨h2, fun j hj hn => by
    match j, hj with
    | 0, _ => simp [r1, r2]
    | 1, _ => simp [hx] at hn⟩
  have n3 : ¬ newAt [4607182418800017408, x, 4611686018427387904, 4607182418800017408, 0, 9223372036854775808, x] 3 := fun h => h.2 0 (by omega) h1 rfl
  have n4 : newAt [4607182418800017408, x, 4611686018427387904, 4607182418800017408, 0, 9223372036854775808, x] 4 := ⟨h3, fun j hj hn => by
    match j, hj with
    | 0, _ => simp [r1, r3]
    | 1, _ => simp [hx] at hn
    | 2, _ => simp [r2, r3]
    | 3, _ => simp [r1, r3]⟩
  have n5 : ¬ newAt [4607182418800017408, x, 4611686018427387904, 4607182418800017408, 0, 9223372036854775808, x] 5 := fun h => h.2 4 (by omega) h3 (by simp [r3, r4])
  have n6 : ¬ newAt [4607182418800017408, x, 4611686018427387904, 4607182418800017408, 0, 9223372036854775808, x] 6 := fun h => by have := h.1; simp [hx] at this
  rw [keptI_no n6, keptI_no n5, keptI_yes n4, keptI_no n3, keptI_yes n2, keptI_no n1, keptI_yes n0]
  rfl
theorem pick_1 : pickF [4607182418800017408, 4613937818241073152, 4611686018427387904] (rk (wantB 4609434218613702656)) = 2 := by decide +kernel
theorem pick_2 : pickF [4607182418800017408, 4613937818241073152, 4611686018427387904] (rk (wantB 4621256167635550208)) = 1 := by decide +kernel
theorem pick_3 (x : Nat) (hx : fNaN x = true) : pickF [x] (rk (wantB 4607182418800017408)) = -1 := PickIs.eq (.inl ⟨rfl, fun j hj => by
    obtain rfl : j = 0 := by simpa using hj
    exact hx⟩)
theorem pick_4 (x : Nat) (hx : fNaN x = true) : pickF [4602678819172646912, x, 4607182418800017408] (rk (wantB x)) = 2 := by
  have e : wantB x = 4607182418800017408 := by unfold wantB; rw [hx]; rfl
  have h0 : fNaN 4602678819172646912 = false := by decide +kernel
  have h1 : fNaN 4607182418800017408 = false := by decide +kernel
  have r1 : rk 4607182418800017408 = 4607182418800017408 := by decide +kernel
  have r2 : rk 4602678819172646912 = 4602678819172646912 := by decide +kernel
  rw [e]
  refine PickIs.eq (.inr ⟨2, by simp, rfl, h1, fun j hj hn => ?_⟩)
  match j, hj with
  | 0, _ => left; simp [r1, r2]
  | 1, _ => simp [hx] at hn
  | 2, _ => left; simp
theorem pick_5 : pickF [] (rk (wantB 4607182418800017408)) = -1 := by decide +kernel
theorem pick_const (v : Value) (l : List Nat) (want : Nat) (n : Int) (w : World) (hn : pickF l (rk (wantB want)) = n) (hv : ReadF w v l) (hl : l.length ≤ 100000) :
    Calls Try.prog 15 #[v, .float .f64 want] w fun e w' => e = .returned (.int .i64 n) ∧ Below w.heap.size w w' := by
  subst hn
  exact pick_calls v l want w hv hl
theorem ints_const (v x : Value) (l : List Int) (w : World) (hv : ReadI w v l) (hx : ReadI w x l) (hl : l.length ≤ 100000) :
    Calls Try.prog 21 #[v, x] w fun e w' => e = .returned (.bool true) ∧ Below w.heap.size w w' := by
  have := refInts_calls v x l l w hv hx hl hl
  simpa using this
theorem of_const (hd : Bool) (d : Nat) (hw : Bool) (a : Int) (s r : Nat) (h : ofF hd d hw a s = r) (hdiv : hd = false → hw = true → fNaN s = false → fLt s 0 = false → fEq s 0 = false → ∃ r, Ieee.double.div (widthF a) s = some r) (w : World) :
    Calls Try.prog 17 #[.agg #[.string ⟨#[]⟩, .slice none 0 0, .bool hw, .int .i64 a, .bool false, .int .i64 0, .bool hd, .float .f64 d], .float .f64 s] w fun e w' => e = .returned (.float .f64 r) ∧ Below w.heap.size w w' := by
  subst h
  exact of_calls _ _ _ _ _ _ _ _ _ _ hdiv ⟨none, 0, 0, rfl⟩
theorem build_c (fs : Array (Nat × Value)) (w : World) (v : Value) (h : (Instr.build 38 fs).run Try.prog w = .ok v w) : (Instr.build 38 fs).run Try.prog w = .ok v w := h
set_option maxHeartbeats 4000000 in
theorem densSmall_calls (w : World) : Calls Try.prog 14 #[] w fun e w' => e = .returned (.bool true) ∧ Below w.heap.size w w' := by
  have o4 := ord_eq
  have o5 := ord_ne
  go_enter Try.func14, Try.ntmps14
  have q1 := quo_1
  have ng := neg_zero
  have f1 := fl_1
  have f2 := fl_2
  have f3 := fl_3
  have f4 := fl_4
  have f5 := fl_5
  obtain ⟨x, hx, hx64, hrun⟩ := run_zero_zero 30 w
  go_wp2_with fail
  refine (of_const _ _ _ _ _ _ (of_1 0) (fun _ _ _ _ _ => ⟨_, rfl⟩) _).mono ?_
  rintro e w1 ⟨rfl, hb⟩
  have hb := (Below.refl w.heap.size w).drew.trans hb
  go_wp2_with fail
  refine (of_const _ _ _ _ _ _ of_2 (fun _ _ _ _ h => by cases h) _).mono ?_
  rintro e w2 ⟨rfl, hb2⟩
  have hb := hb.trans (hb2.mono hb.size)
  clear hb2
  go_wp2_with fail
  refine (of_const _ _ _ _ _ _ (of_3 x hx) (fun _ _ h => by rw [hx] at h; cases h) _).mono ?_
  rintro e w3 ⟨rfl, hb2⟩
  have hb := hb.trans (hb2.mono hb.size)
  clear hb2
  go_wp2_with fail
  refine (of_const _ _ _ _ _ _ (of_4 x) (fun h => by cases h) _).mono ?_
  rintro e w4 ⟨rfl, hb2⟩
  have hb := hb.trans (hb2.mono hb.size)
  clear hb2
  go_wp2_with fail
  refine (of_const _ _ _ _ _ _ of_5 (fun _ h => by cases h) _).mono ?_
  rintro e w5 ⟨rfl, hb2⟩
  have hb := hb.trans (hb2.mono hb.size)
  clear hb2
  go_wp2_with fail
  refine (kept_calls _ [4607182418800017408, x, 4611686018427387904, 4607182418800017408, 0, 9223372036854775808, x] _ (ReadF.made _ _ _) (by simp) (by simp [hx64])).mono ?_
  rintro e w6 ⟨u, rfl, hou, hb2⟩
  rw [show [4607182418800017408, x, 4611686018427387904, 4607182418800017408, 0, 9223372036854775808, x].length = 7 from rfl, kept_small x hx] at hou
  have hru := hou.read
  clear hou
  have hb := hb.trans (((Below.refl w5.heap.size w5).alloc (Nat.le_refl _) _).trans (hb2.mono (by simp)) |>.mono hb.size)
  clear hb2
  obtain ⟨A, c, rfl, hc⟩ := hru.len
  go_wp2_with fail
  refine (ints_const _ _ [0, 2, 4] _ (hru.below ((Below.refl _ _).alloc (Nat.le_refl _) _)) (ReadI.made _ [0, 2, 4] _) (by simp)).mono ?_
  rintro e w7 ⟨rfl, hb2⟩
  have hb := hb.trans ((((Below.refl w6.heap.size w6).alloc (Nat.le_refl _) _).trans (hb2.mono (by simp))).mono hb.size)
  clear hb2
  go_wp2_with fail
  refine (pick_const _ [4607182418800017408, 4613937818241073152, 4611686018427387904] _ _ _ pick_1 (ReadF.made _ [4607182418800017408, 4613937818241073152, 4611686018427387904] _) (by simp)).mono ?_
  rintro e w8 ⟨rfl, hb2⟩
  have hb := hb.trans ((((Below.refl w7.heap.size w7).alloc (Nat.le_refl _) _).trans (hb2.mono (by simp))).mono hb.size)
  clear hb2
  go_wp2_with fail
  refine (pick_const _ [4607182418800017408, 4613937818241073152, 4611686018427387904] _ _ _ pick_2 (ReadF.made _ [4607182418800017408, 4613937818241073152, 4611686018427387904] _) (by simp)).mono ?_
  rintro e w9 ⟨rfl, hb2⟩
  have hb := hb.trans ((((Below.refl w8.heap.size w8).alloc (Nat.le_refl _) _).trans (hb2.mono (by simp))).mono hb.size)
  clear hb2
  go_wp2_with fail
  refine (pick_const _ [x] _ _ _ (pick_3 x hx) (ReadF.made _ [x] _) (by simp)).mono ?_
  rintro e w10 ⟨rfl, hb2⟩
  have hb := hb.trans ((((Below.refl w9.heap.size w9).alloc (Nat.le_refl _) _).trans (hb2.mono (by simp))).mono hb.size)
  clear hb2
  go_wp2_with fail
  refine (pick_const _ [4602678819172646912, x, 4607182418800017408] _ _ _ (pick_4 x hx) (ReadF.made _ [4602678819172646912, x, 4607182418800017408] _) (by simp)).mono ?_
  rintro e w11 ⟨rfl, hb2⟩
  have hb := hb.trans ((((Below.refl w10.heap.size w10).alloc (Nat.le_refl _) _).trans (hb2.mono (by simp))).mono hb.size)
  clear hb2
  go_wp2_with fail
  refine (pick_const _ [] _ _ _ pick_5 (.inl ⟨rfl, rfl⟩) (by simp)).mono ?_
  rintro e w12 ⟨rfl, hb2⟩
  have hb := hb.trans (hb2.mono hb.size)
  clear hb2
  go_wp2_with fail
  go_ret
  exact ⟨rfl, hb⟩
end Go.Proofs.Ytllgkmacjncelaa
