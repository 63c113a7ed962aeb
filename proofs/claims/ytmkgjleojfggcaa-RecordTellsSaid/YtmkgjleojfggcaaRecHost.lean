/-
  What '==' says of two [8]uint16, and of two hosts. Conditions: none.
-/
import Derived.Test.YtmkgjleojfggcaaTextsSame
import Derived.Laws.StructEq
set_option linter.all false
namespace Go.Proofs.Ytmkgjleojfggcaa
open Go.RowKit

theorem eq_six (a0 a1 a2 a3 a4 a5 a6 a7 c0 c1 c2 c3 c4 c5 c6 c7 : Int) (w : World) :
    (Op.equalIn 9999 28 (.agg #[.int .u16 a0, .int .u16 a1, .int .u16 a2, .int .u16 a3, .int .u16 a4, .int .u16 a5, .int .u16 a6, .int .u16 a7]) (.agg #[.int .u16 c0, .int .u16 c1, .int .u16 c2, .int .u16 c3, .int .u16 c4, .int .u16 c5, .int .u16 c6, .int .u16 c7])).run Try.prog w =
      .ok (a0 == c0 && (a1 == c1 && (a2 == c2 && (a3 == c3 && (a4 == c4 && (a5 == c5 && (a6 == c6 && a7 == c7))))))) w := by
  have u3 := Try.underlying27
  have ha3 := Try.isAgg27
  have z3 := Try.sizeOf27
  rw [show (9999 : Nat) = 9998 + 1 from rfl, Op.equalIn]
  simp only [Sem.run_bind, run_underlying Try.underlying28, Result.andThen_ok]
  simp only [Std.Legacy.Range.forIn_eq_forIn_range', Std.Legacy.Range.size, Nat.sub_zero, Nat.add_sub_cancel, Nat.div_one, List.range'_succ, List.range'_zero, List.forIn_cons, List.forIn_nil]
  go_simp
  by_cases h0 : a0 = c0
  · by_cases h1 : a1 = c1
    · by_cases h2 : a2 = c2
      · by_cases h3 : a3 = c3
        · by_cases h4 : a4 = c4
          · by_cases h5 : a5 = c5
            · by_cases h6 : a6 = c6
              · by_cases h7 : a7 = c7 <;> simp [h0, h1, h2, h3, h4, h5, h6, h7]
              · simp [h0, h1, h2, h3, h4, h5, h6]
            · simp [h0, h1, h2, h3, h4, h5]
          · simp [h0, h1, h2, h3, h4]
        · simp [h0, h1, h2, h3]
      · simp [h0, h1, h2]
    · simp [h0, h1]
  · simp [h0]

theorem eq_host (k f k' f' : Int) (n n' : ByteArray) (a0 a1 a2 a3 a4 a5 a6 a7 c0 c1 c2 c3 c4 c5 c6 c7 : Int) (w : World) :
    (Op.equalIn 10000 30 (.agg #[.int .i64 k, .string n, .int .u32 f, .int .u16 a0, .int .u16 a1, .int .u16 a2, .int .u16 a3, .int .u16 a4, .int .u16 a5, .int .u16 a6, .int .u16 a7]) (.agg #[.int .i64 k', .string n', .int .u32 f', .int .u16 c0, .int .u16 c1, .int .u16 c2, .int .u16 c3, .int .u16 c4, .int .u16 c5, .int .u16 c6, .int .u16 c7])).run Try.prog w =
      .ok (k == k' && (n.toList == n'.toList && (f == f' && (a0 == c0 && (a1 == c1 && (a2 == c2 && (a3 == c3 && (a4 == c4 && (a5 == c5 && (a6 == c6 && a7 == c7)))))))))) w := by
  have u1 := Try.underlying3
  have a1' := Try.isAgg3
  have z1 := Try.sizeOf3
  have u2 := Try.underlying9
  have a2' := Try.isAgg9
  have z2 := Try.sizeOf9
  have u3 := Try.underlying26
  have a3' := Try.isAgg26
  have z3 := Try.sizeOf26
  have a4' := Try.isAgg28
  have z4 := Try.sizeOf28
  have h8 := eq_six a0 a1 a2 a3 a4 a5 a6 a7 c0 c1 c2 c3 c4 c5 c6 c7
  have hS : Try.prog.underlying 30 = some (.struct (Try.prog.fieldsOf 30)) := by kernel_rfl
  rw [show (10000 : Nat) = 9999 + 1 from rfl, run_equalIn_agg w 9999 30 _ _ hS (by kernel_rfl)]
  simp only [Program.fieldsOf, Try.underlying30]
  go_simp
  by_cases e1 : k = k'
  · by_cases e2 : n.toList = n'.toList
    · by_cases e3 : f = f'
      · simp [e1, e2, e3, h8, Result.andThen]
        cases (a0 == c0 && (a1 == c1 && (a2 == c2 && (a3 == c3 && (a4 == c4 && (a5 == c5 && (a6 == c6 && a7 == c7))))))) <;> rfl
      · simp [e1, e2, e3]
    · simp [e1, e2]
  · simp [e1]
end Go.Proofs.Ytmkgjleojfggcaa
