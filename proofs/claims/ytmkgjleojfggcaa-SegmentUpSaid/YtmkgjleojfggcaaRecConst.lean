/-
  Contracts at fixed texts, and what the building and the storing of an address do, for layer 12's small case. Conditions: none.
-/
import Derived.Test.YtmkgjleojfggcaaRecShort
import Derived.Test.YtmkgjleojfggcaaRecStarts
import Derived.Test.YtmkgjleojfggcaaRecPort
import Derived.Deep.WholeRow
import Derived.Test.YtmkgjleojfggcaaFall
set_option linter.all false
namespace Go.Proofs.Ytmkgjleojfggcaa
open Go.RowKit
theorem ReadT.one (w : World) (s : ByteArray) : ReadT (w.alloc (.cells #[.string s] 9)) (.slice (some ⟨w.heap.size, 0, none⟩) 1 1) [s] := by
  refine .inr ⟨w.heap.size, 0, 1, rfl, Nat.le_refl _, fun j hj => ?_⟩
  obtain rfl : j = 0 := by simpa using hj
  exact World.cell?_alloc_mark w #[.string s] 9 (0, 0) 0
theorem special_const (s : ByteArray) (b : Bool) (hb : special s = b) (w : World) :
    Calls Try.prog 23 #[.string s] w fun e w' => e = .returned (.bool b) ∧ w = w' := by subst hb; exact special_calls s w
theorem drive_const (s : ByteArray) (b : Bool) (hb : driveL s.data.toList = b) (w : World) :
    Calls Try.prog 25 #[.string s] w fun e w' => e = .returned (.bool b) ∧ w = w' := by subst hb; exact drive_calls s w
theorem normal_const (s : ByteArray) (b : Bool) (hb : normalL s.data.toList = b) (w : World) :
    Calls Try.prog 27 #[.string s] w fun e w' => e = .returned (.bool b) ∧ w = w' := by subst hb; exact normal_calls s w
theorem starts_const (s : ByteArray) (b : Bool) (hb : startsL s.data.toList = b) (w : World) :
    Calls Try.prog 29 #[.string s] w fun e w' => e = .returned (.bool b) ∧ w = w' := by subst hb; exact starts_calls s w
theorem dot_const (s : ByteArray) (b : Bool) (hb : dotL s.data.toList = b) (hs : s.size ≤ 90000) (w : World) :
    Calls Try.prog 31 #[.string s] w fun e w' => e = .returned (.bool b) ∧ Below w.heap.size w w' := by subst hb; exact dot_calls s w hs
theorem dots_const (s : ByteArray) (b : Bool) (hb : dotsL s.data.toList = b) (hs : s.size ≤ 90000) (w : World) :
    Calls Try.prog 33 #[.string s] w fun e w' => e = .returned (.bool b) ∧ Below w.heap.size w w' := by subst hb; exact dots_calls s w hs
theorem port_const (s : ByteArray) (n : Int) (b : Bool) (hb : portOf s = (n, b)) (w : World) :
    Calls Try.prog 21 #[.string s] w fun e w' => e = .returned (.tuple #[.int .i64 n, .bool b]) ∧ w = w' := by
  have := port_calls s w
  rw [hb] at this
  exact this
theorem port_1 : portOf ⟨#[119, 115, 115]⟩ = (443, true) := by simp [portOf, ByteArray.toList_eq]
theorem port_2 : portOf ⟨#[102, 105, 108, 101]⟩ = (0, false) := by simp [portOf, ByteArray.toList_eq]
theorem norm_1 : normalL [99, 58] = true := by decide +kernel
theorem short_1 : shortT ⟨#[102, 105, 108, 101]⟩ [⟨#[99, 58]⟩] = [⟨#[99, 58]⟩] := by simp [shortT, aloneT, ByteArray.toList_eq, norm_1]
theorem short_2 : shortT ⟨#[104, 116, 116, 112]⟩ [⟨#[99, 58]⟩] = [] := by simp [shortT, aloneT, ByteArray.toList_eq]
theorem shorten_const (s x : ByteArray) (l : List ByteArray) (hl : shortT s [x] = l) (w : World) :
    Calls Try.prog 36 #[.string s, .slice (some ⟨w.heap.size, 0, none⟩) 1 1] (w.alloc (.cells #[.string x] 9)) fun e w' => ∃ A c, e = .returned (.slice A l.length c) ∧ Below w.heap.size w w' := by
  refine (shorten_calls s _ [x] _ (ReadT.one _ _) (by simp)).mono ?_
  rintro e w1 ⟨v1, rfl, ho1, hb1⟩
  rw [hl] at ho1
  obtain ⟨A, c, rfl, hc⟩ := ho1.read.len
  exact ⟨A, c, rfl, (alloc_below _ _).trans (hb1.mono (by simp))⟩
theorem build_url (a : ByteArray) (v : Value) (w : World) (A : Option Addr) (n c : Nat) (hv : v = .slice A n c) : (Instr.build 33 #[(0, .string a), (8, v)]).run Try.prog w =
    .ok (.agg #[.string a, .string ⟨#[]⟩, .string ⟨#[]⟩, .int .i64 0, .string ⟨#[]⟩, .int .u32 0, .int .u16 0, .int .u16 0, .int .u16 0, .int .u16 0, .int .u16 0, .int .u16 0, .int .u16 0, .int .u16 0, .bool false, .int .i64 0, .bool false, .string ⟨#[]⟩, v, .bool false, .string ⟨#[]⟩, .bool false, .string ⟨#[]⟩]) w := by
  subst hv
  exact run_build w 33 _ _ (by kernel_rfl)
theorem store_url (a : ByteArray) (A : Option Addr) (n c : Nat) (w : World) :
    (storeCells ⟨w.heap.size, 0, none⟩ [.string a, .string ⟨#[]⟩, .string ⟨#[]⟩, .int .i64 0, .string ⟨#[]⟩, .int .u32 0, .int .u16 0, .int .u16 0, .int .u16 0, .int .u16 0, .int .u16 0, .int .u16 0, .int .u16 0, .int .u16 0, .bool false, .int .i64 0, .bool false, .string ⟨#[]⟩, .slice A n c, .bool false, .string ⟨#[]⟩, .bool false, .string ⟨#[]⟩] 0).run Try.prog
      (w.alloc (.cells #[.string ⟨#[]⟩, .string ⟨#[]⟩, .string ⟨#[]⟩, .int .i64 0, .string ⟨#[]⟩, .int .u32 0, .int .u16 0, .int .u16 0, .int .u16 0, .int .u16 0, .int .u16 0, .int .u16 0, .int .u16 0, .int .u16 0, .bool false, .int .i64 0, .bool false, .string ⟨#[]⟩, .slice none 0 0, .bool false, .string ⟨#[]⟩, .bool false, .string ⟨#[]⟩] 33)) =
    .ok () (w.alloc (.cells #[.string a, .string ⟨#[]⟩, .string ⟨#[]⟩, .int .i64 0, .string ⟨#[]⟩, .int .u32 0, .int .u16 0, .int .u16 0, .int .u16 0, .int .u16 0, .int .u16 0, .int .u16 0, .int .u16 0, .int .u16 0, .bool false, .int .i64 0, .bool false, .string ⟨#[]⟩, .slice A n c, .bool false, .string ⟨#[]⟩, .bool false, .string ⟨#[]⟩] 33)) :=
  run_storeCells_new w 33 _ #[.string a, .string ⟨#[]⟩, .string ⟨#[]⟩, .int .i64 0, .string ⟨#[]⟩, .int .u32 0, .int .u16 0, .int .u16 0, .int .u16 0, .int .u16 0, .int .u16 0, .int .u16 0, .int .u16 0, .int .u16 0, .bool false, .int .i64 0, .bool false, .string ⟨#[]⟩, .slice A n c, .bool false, .string ⟨#[]⟩, .bool false, .string ⟨#[]⟩] (by kernel_rfl) rfl (by simp [Value.oneCell'])
theorem wpList_store_new {ops : Array Oper} {rest : List Oper} {o : Oper} {a : Act} {Q : Exit → Act → World → Prop} (hg : o.guard = none) (t : TypeId) (p x : Operand) (hop : o.op = .store t p x) (w : World) (c c' : Array Value)
    (g : Nat) (hp : a.eval p = .pointer (some ⟨g, 0, none⟩)) (hgs : w.heap.size = g) (hx : a.eval x = .agg c') (hi : (Try.prog.info? t).map (·.size) = some c'.size) (ho : c.size = c'.size) (h1 : c'.all (·.oneCell') = true)
    (hK : wpList Try.prog ops Q rest (a.put o.dst undef) (w.alloc (.cells c' t))) : wpList Try.prog ops Q (o :: rest) a (w.alloc (.cells c t)) := by
  subst hgs
  refine wpList_plain hg fun K' hK' => ?_
  have hr := run_storeAt_new (P := Try.prog) w t c c' hi ho h1
  unfold Oper.wp
  simp [execOp, hop, hp, hx, hr, Result.andThen]
  exact hK' _ _ hK
theorem wpList_build_any {ops : Array Oper} {rest : List Oper} {o : Oper} {a : Act} {Q : Exit → Act → World → Prop} (hg : o.guard = none) (t : TypeId) (fs : Array (Nat × Operand)) (hop : o.op = .build t fs) (w : World) (v : Value)
    (hr : (Instr.build t (fs.map fun p => (p.1, a.eval p.2))).run Try.prog w = .ok v w)
    (hK : wpList Try.prog ops Q rest (a.put o.dst v) w) : wpList Try.prog ops Q (o :: rest) a w := by
  refine wpList_plain hg fun K' hK' => ?_
  unfold Oper.wp
  simp [execOp, hop, hr, Result.andThen]
  exact hK' _ _ hK
def urlV (a : ByteArray) (v : Value) : Array Value := #[.string a, .string ⟨#[]⟩, .string ⟨#[]⟩, .int .i64 0, .string ⟨#[]⟩, .int .u32 0, .int .u16 0, .int .u16 0, .int .u16 0, .int .u16 0, .int .u16 0, .int .u16 0, .int .u16 0, .int .u16 0, .bool false, .int .i64 0, .bool false, .string ⟨#[]⟩, v, .bool false, .string ⟨#[]⟩, .bool false, .string ⟨#[]⟩]
theorem run_alloc_url (w : World) (old : Value) : (Instr.alloc 33 true old).run Try.prog w = .ok (.pointer (some ⟨w.heap.size, 0, none⟩)) (w.alloc (.cells (urlV ⟨#[]⟩ (.slice none 0 0)) 33)) := by kernel_rfl
theorem wpList_alloc_url {ops : Array Oper} {rest : List Oper} {o : Oper} {a : Act} {Q : Exit → Act → World → Prop} (hg : o.guard = none) (hop : o.op = .alloc 33) (w : World)
    (hK : wpList Try.prog ops Q rest (a.put o.dst (.pointer (some ⟨w.heap.size, 0, none⟩))) (w.alloc (.cells (urlV ⟨#[]⟩ (.slice none 0 0)) 33))) : wpList Try.prog ops Q (o :: rest) a w := by
  refine wpList_plain hg fun K' hK' => ?_
  unfold Oper.wp
  simp [execOp, hop, run_alloc_url, Result.andThen]
  exact hK' _ _ hK
theorem run_load_url (w : World) (g : Nat) (c : Array Value) (hsz : c.size = 23) (hcell : w.heap[g]? = some (.cells c 33)) :
    (Instr.loadAt 33 (.pointer (some ⟨g, 0, none⟩))).run Try.prog w = .ok (.agg c) w := by
  have h := run_loadCells_list (P := Try.prog) w ⟨g, 0, none⟩ c.toList (fun j v hv => by
    have hadd : (⟨g, 0, none⟩ : Addr).add j = ⟨g, j, none⟩ := by unfold Addr.add; split <;> simp_all
    rw [hadd, cell_of_row _ _ j c 33 (0, 0) hcell]
    simpa using hv)
  have hl : c.toList.length = 23 := by simpa using hsz
  rw [hl] at h
  have a1 := Try.isAgg33
  have z1 := Try.sizeOf33
  simp [Instr.loadAt, Instr.sureAddr, loadVar, a1, z1, Result.andThen, h]
theorem wpList_load_url {ops : Array Oper} {rest : List Oper} {o : Oper} {a : Act} {Q : Exit → Act → World → Prop} (p : Operand) (hop : o.op = .load 33 p) (w : World) (g : Nat) (c : Array Value)
    (hgd : o.guard = none) (hsz : c.size = 23) (hp : a.eval p = .pointer (some ⟨g, 0, none⟩)) (hcell : w.heap[g]? = some (.cells c 33)) (hK : wpList Try.prog ops Q rest (a.put o.dst (.agg c)) w) :
    wpList Try.prog ops Q (o :: rest) a w := by
  refine wpList_plain hgd fun K' hK' => ?_
  have hr := run_load_url w g c hsz hcell
  unfold Oper.wp
  simp [execOp, hop, hp, hr, Result.andThen]
  exact hK' _ _ hK
theorem wpList_load_urlG {ops : Array Oper} {rest : List Oper} {o : Oper} {a : Act} {Q : Exit → Act → World → Prop} (hw : Region.wanted o (yielded ops a.tmps) = true) (p : Operand) (hop : o.op = .load 33 p) (w : World) (g : Nat) (c : Array Value)
    (hp : a.eval p = .pointer (some ⟨g, 0, none⟩)) (hsz : c.size = 23) (hcell : w.heap[g]? = some (.cells c 33)) (hK : wpList Try.prog ops Q rest (a.put o.dst (.agg c)) w) :
    wpList Try.prog ops Q (o :: rest) a w := by
  refine wpList_yes hw fun K' hK' => ?_
  have hr := run_load_url w g c hsz hcell
  unfold Oper.wp
  simp [execOp, hop, hp, hr, Result.andThen]
  exact hK' _ _ hK
theorem four_heap (w : World) (o1 o2 o3 o4 : Obj) : ((((w.alloc o1).alloc o2).alloc o3).alloc o4).heap[w.heap.size + 1]? = some o2 ∧ ((((w.alloc o1).alloc o2).alloc o3).alloc o4).heap[w.heap.size + 1 + 1 + 1]? = some o4 ∧
    ((((w.alloc o1).alloc o2).alloc o3).alloc o4).heap.size = w.heap.size + 4 ∧ Below w.heap.size w ((((w.alloc o1).alloc o2).alloc o3).alloc o4) := by
  refine ⟨?_, ?_, ?_, ?_⟩
  · show ((((w.heap.push _).push _).push _).push _)[w.heap.size + 1]? = _
    simp only [Array.getElem?_push, Array.size_push]
    rw [if_neg (by omega), if_neg (by omega), if_pos trivial]
  · show ((((w.heap.push _).push _).push _).push _)[w.heap.size + 1 + 1 + 1]? = _
    simp only [Array.getElem?_push, Array.size_push]
    rw [if_pos trivial]
  · show ((((w.heap.push _).push _).push _).push _).size = _
    simp
  · exact ((((Below.refl _ _).alloc (Nat.le_refl _) o1).alloc (by simp) o2).alloc (by simp; omega) o3).alloc (by simp; omega) o4
end Go.Proofs.Ytmkgjleojfggcaa
