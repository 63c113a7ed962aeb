/-
  The walk of density's Of. Conditions: none.
-/
import Derived.Test.YtllgkmacjncelaaFloatOps
import Derived.Laws.Externs
set_option linter.all false
namespace Go.Proofs.Ytllgkmacjncelaa
open Go.RowKit
def infF : Nat := 9218868437227405312
def nanF : Nat := 9221120237041090561
def widthF (a : Int) : Nat := floatOfInt FloatKind.f64 a
theorem widthF_eq (a : Int) : widthF a = Ieee.double.nearest (a < 0) a.natAbs 0 := rfl
def ofF (hd : Bool) (d : Nat) (hw : Bool) (a : Int) (s : Nat) : Nat :=
  if hd = true then d else if hw = false then 4607182418800017408 else if fNaN s = true then nanF else if fLt s 0 = true then nanF else if fEq s 0 = true then infF else (Ieee.double.div (widthF a) s).getD 0
theorem run_frombits (n : Int) (w : World) : (callFunc 26 #[.int .u64 n]).run Try.prog w = .ok (.value (.float .f64 n.toNat)) w := by
  rw [run_callFunc_extern Try.func26 (by kernel_rfl) (by kernel_rfl) (by kernel_rfl) (e := Extern.MathFloatBits.float64frombits) (by kernel_rfl)]
  rfl
theorem run_bits (n : Nat) (w : World) : (callFunc 23 #[.float .f64 n]).run Try.prog w = .ok (.value (.int .u64 n)) w := by
  rw [run_callFunc_extern Try.func23 (by kernel_rfl) (by kernel_rfl) (by kernel_rfl) (e := Extern.MathFloatBits.float64bits) (by kernel_rfl)]
  rfl
theorem nanF_calls (w : World) : Calls Try.prog 24 #[] w fun e w' => e = .returned (.float .f64 nanF) ∧ Below w.heap.size w w' := by
  have h1 := run_frombits
  go_enter Try.func24, Try.ntmps24
  go_wp2_with fail
  go_ret
  exact ⟨rfl, Below.refl _ _⟩
theorem infF_calls (w : World) : Calls Try.prog 25 #[.int .i64 1] w fun e w' => e = .returned (.float .f64 infF) ∧ Below w.heap.size w w' := by
  have h1 := run_frombits
  go_enter Try.func25, Try.ntmps25
  go_wp2_with fail
  go_ret
  exact ⟨rfl, Below.refl _ _⟩
set_option maxHeartbeats 2000000 in
theorem of_calls (u : ByteArray) (wo : Value) (hw : Bool) (a : Int) (hh : Bool) (h : Int) (hd : Bool) (d s : Nat) (w : World)
    (hdiv : hd = false → hw = true → fNaN s = false → fLt s 0 = false → fEq s 0 = false → ∃ r, Ieee.double.div (widthF a) s = some r)
    (hwo : ∃ A n c, wo = .slice A n c) :
    Calls Try.prog 17 #[.agg #[.string u, wo, .bool hw, .int .i64 a, .bool hh, .int .i64 h, .bool hd, .float .f64 d], .float .f64 s] w fun e w' => e = .returned (.float .f64 (ofF hd d hw a s)) ∧ Below w.heap.size w w' := by
  obtain ⟨A, n, c, rfl⟩ := hwo
  have o1 := ord_lt
  have o4 := ord_eq
  cases hd with
  | true =>
    clear hdiv
    go_enter Try.func17, Try.ntmps17
    go_wp2_with fail
    go_ret
    exact ⟨rfl, (Below.refl _ _).alloc (Nat.le_refl _) _⟩
  | false =>
    cases hw with
    | false =>
      clear hdiv
      go_enter Try.func17, Try.ntmps17
      go_wp2_with fail
      go_ret
      exact ⟨rfl, (Below.refl _ _).alloc (Nat.le_refl _) _⟩
    | true =>
      have hdiv' := hdiv rfl rfl
      clear hdiv
      cases hn : fNaN s
      · cases hl : fLt s 0
        · cases he : fEq s 0
          · obtain ⟨r, hr⟩ := hdiv' hn hl he
            clear hdiv'
            have hq : ∀ (t : TypeId) (W : World), (binOp .quo t (.float .f64 (floatOfInt FloatKind.f64 a)) (.float .f64 s)).run Try.prog W = .ok (.float .f64 r) W := fun t W => run_float_arith W .quo t .f64 _ _ r hr
            go_enter Try.func17, Try.ntmps17
            go_wp2_with fail
            refine (isNaN_calls _ _).mono ?_
            rintro e w1 ⟨rfl, rfl⟩
            rw [hn]
            go_wp2_with fail
            go_ret
            exact ⟨by simp [ofF, hn, hl, he, hr], (Below.refl _ _).alloc (Nat.le_refl _) _⟩
          · clear hdiv'
            go_enter Try.func17, Try.ntmps17
            go_wp2_with fail
            refine (isNaN_calls _ _).mono ?_
            rintro e w1 ⟨rfl, rfl⟩
            rw [hn]
            go_wp2_with fail
            refine (infF_calls _).mono ?_
            rintro e w1 ⟨rfl, hb⟩
            go_wp2_with fail
            go_ret
            exact ⟨by simp [ofF, hn, hl, he], ((Below.refl _ _).alloc (Nat.le_refl _) _).trans (hb.mono (by simp))⟩
        · clear hdiv'
          go_enter Try.func17, Try.ntmps17
          go_wp2_with fail
          refine (isNaN_calls _ _).mono ?_
          rintro e w1 ⟨rfl, rfl⟩
          rw [hn]
          go_wp2_with fail
          refine (nanF_calls _).mono ?_
          rintro e w1 ⟨rfl, hb⟩
          go_wp2_with fail
          go_ret
          exact ⟨by simp [ofF, hn, hl], ((Below.refl _ _).alloc (Nat.le_refl _) _).trans (hb.mono (by simp))⟩
      · clear hdiv'
        go_enter Try.func17, Try.ntmps17
        go_wp2_with fail
        refine (isNaN_calls _ _).mono ?_
        rintro e w1 ⟨rfl, rfl⟩
        rw [hn]
        go_wp2_with fail
        refine (nanF_calls _).mono ?_
        rintro e w1 ⟨rfl, hb⟩
        go_wp2_with fail
        go_ret
        exact ⟨by simp [ofF, hn], ((Below.refl _ _).alloc (Nat.le_refl _) _).trans (hb.mono (by simp))⟩
end Go.Proofs.Ytllgkmacjncelaa
