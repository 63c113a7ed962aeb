/-
  Addresses in memory: boxed, copied, read whole. Conditions: as each theorem states.
-/
import Derived.Test.YtmkgjleojfggcaaRecSmall2
import Derived.Test.YtmkgjleojfggcaaRecFew
import Derived.Test.YtmkgjleojfggcaaRecRefSame
set_option linter.all false
namespace Go.Proofs.Ytmkgjleojfggcaa
open Go.RowKit
def Url.cells (u : Url) : Array Value := #[.string u.scheme, .string u.user, .string u.pass, .int .i64 u.kind, .string u.name, .int .u32 u.four, .int .u16 u.x0, .int .u16 u.x1, .int .u16 u.x2, .int .u16 u.x3, .int .u16 u.x4, .int .u16 u.x5, .int .u16 u.x6, .int .u16 u.x7,
    .bool u.hasPort, .int .i64 u.port, .bool u.opq, .string u.flat, u.pathV, .bool u.hasQuery, .string u.query, .bool u.hasFrag, .string u.frag]
theorem Url.val_eq (u : Url) : u.val = .agg u.cells := rfl
theorem wpList_box_url {ops : Array Oper} {rest : List Oper} {o : Oper} {a : Act} {Q : Exit → Act → World → Prop} (hg : o.guard = none) (x : Operand) (hop : o.op = .box 33 x) (w : World) (c : Array Value) (hx : a.eval x = .agg c)
    (hK : wpList Try.prog ops Q rest (a.put o.dst (.pointer (some ⟨w.heap.size, 0, none⟩))) (w.alloc (.cells c 33))) : wpList Try.prog ops Q (o :: rest) a w := by
  refine wpList_plain hg fun K' hK' => ?_
  have hr : (Instr.box 33 (.agg c)).run Try.prog w = .ok (.pointer (some ⟨w.heap.size, 0, none⟩)) (w.alloc (.cells c 33)) := by simp [go_sem]
  unfold Oper.wp
  simp [execOp, hop, hx, hr, Result.andThen]
  exact hK' _ _ hK
theorem oper_load_url {o : Oper} {a : Act} {K : Act → World → Prop} {Q : Exit → Act → World → Prop} (p : Operand) (hop : o.op = .load 33 p) (w : World) (g : Nat) (c : Array Value)
    (hp : a.eval p = .pointer (some ⟨g, 0, none⟩)) (hsz : c.size = 23) (hcell : w.heap[g]? = some (.cells c 33)) (hK : K (a.put o.dst (.agg c)) w) : o.wp Try.prog a w K Q := by
  have hr := run_load_url w g c hsz hcell
  unfold Oper.wp
  simp [execOp, hop, hp, hr, Result.andThen]
  exact hK
theorem cell_path {w : World} {g : Nat} {u : Url} (h : w.heap[g]? = some (.cells u.cells 33)) : w.cell? ⟨g, 18, none⟩ = some u.pathV := by
  rw [cell_of_row _ _ 18 u.cells 33 (0, 0) h]; rfl
theorem Url.same_self (u : Url) : u.same u = true := by simp [Url.same]
end Go.Proofs.Ytmkgjleojfggcaa
