/-
  The contract of boundByte. Conditions: none.
-/
import Derived.Test.YtmcjljjagfpkkaaEntFree
import Derived.Test.YtmcjljjagfpkkaaFall
import Derived.Deep.Cut
import Derived.Deep.WholeRow
import Derived.LoopTactic
set_option linter.all false
namespace Go.Proofs.Ytmcjljjagfpkkaa
open Go.RowKit
def byteTab : Array Value := #[.string ⟨#[97, 112, 111, 115]⟩, .int .u8 39, .string ⟨#[99, 111, 108, 111, 110]⟩, .int .u8 58, .string ⟨#[115, 111, 108]⟩, .int .u8 47, .string ⟨#[98, 115, 111, 108]⟩, .int .u8 92, .string ⟨#[113, 117, 101, 115, 116]⟩, .int .u8 63, .string ⟨#[110, 117, 109]⟩, .int .u8 35, .string ⟨#[112, 101, 114, 99, 110, 116]⟩, .int .u8 37, .string ⟨#[99, 111, 109, 109, 97, 116]⟩, .int .u8 64, .string ⟨#[101, 113, 117, 97, 108, 115]⟩, .int .u8 61, .string ⟨#[112, 108, 117, 115]⟩, .int .u8 43, .string ⟨#[99, 111, 109, 109, 97]⟩, .int .u8 44, .string ⟨#[112, 101, 114, 105, 111, 100]⟩, .int .u8 46, .string ⟨#[115, 101, 109, 105]⟩, .int .u8 59, .string ⟨#[101, 120, 99, 108]⟩, .int .u8 33, .string ⟨#[100, 111, 108, 108, 97, 114]⟩, .int .u8 36, .string ⟨#[97, 115, 116]⟩, .int .u8 42, .string ⟨#[108, 111, 119, 98, 97, 114]⟩, .int .u8 95, .string ⟨#[103, 114, 97, 118, 101]⟩, .int .u8 96, .string ⟨#[72, 97, 116]⟩, .int .u8 94, .string ⟨#[108, 112, 97, 114]⟩, .int .u8 40, .string ⟨#[114, 112, 97, 114]⟩, .int .u8 41, .string ⟨#[108, 115, 113, 98]⟩, .int .u8 91, .string ⟨#[114, 115, 113, 98]⟩, .int .u8 93, .string ⟨#[108, 99, 117, 98]⟩, .int .u8 123, .string ⟨#[114, 99, 117, 98]⟩, .int .u8 125, .string ⟨#[118, 101, 114, 98, 97, 114]⟩, .int .u8 124, .string ⟨#[84, 97, 98]⟩, .int .u8 9, .string ⟨#[78, 101, 119, 76, 105, 110, 101]⟩, .int .u8 10]
def zeroTab : Array Value := #[.string ⟨#[]⟩, .int .u8 0, .string ⟨#[]⟩, .int .u8 0, .string ⟨#[]⟩, .int .u8 0, .string ⟨#[]⟩, .int .u8 0, .string ⟨#[]⟩, .int .u8 0, .string ⟨#[]⟩, .int .u8 0, .string ⟨#[]⟩, .int .u8 0, .string ⟨#[]⟩, .int .u8 0, .string ⟨#[]⟩, .int .u8 0, .string ⟨#[]⟩, .int .u8 0, .string ⟨#[]⟩, .int .u8 0, .string ⟨#[]⟩, .int .u8 0, .string ⟨#[]⟩, .int .u8 0, .string ⟨#[]⟩, .int .u8 0, .string ⟨#[]⟩, .int .u8 0, .string ⟨#[]⟩, .int .u8 0, .string ⟨#[]⟩, .int .u8 0, .string ⟨#[]⟩, .int .u8 0, .string ⟨#[]⟩, .int .u8 0, .string ⟨#[]⟩, .int .u8 0, .string ⟨#[]⟩, .int .u8 0, .string ⟨#[]⟩, .int .u8 0, .string ⟨#[]⟩, .int .u8 0, .string ⟨#[]⟩, .int .u8 0, .string ⟨#[]⟩, .int .u8 0, .string ⟨#[]⟩, .int .u8 0, .string ⟨#[]⟩, .int .u8 0, .string ⟨#[]⟩, .int .u8 0]
theorem wpList_store_new {ops : Array Oper} {rest : List Oper} {o : Oper} {a : Act} {Q : Exit → Act → World → Prop} (hg : o.guard = none) (t : TypeId) (p x : Operand) (hop : o.op = .store t p x) (w : World) (c c' : Array Value)
    (g : Nat) (hp : a.eval p = .pointer (some ⟨g, 0, none⟩)) (hgs : w.heap.size = g) (hx : a.eval x = .agg c') (hi : (Try.prog.info? t).map (·.size) = some c'.size) (ho : c.size = c'.size) (h1 : c'.all (·.oneCell') = true)
    (hK : wpList Try.prog ops Q rest (a.put o.dst undef) (w.alloc (.cells c' t))) : wpList Try.prog ops Q (o :: rest) a (w.alloc (.cells c t)) := by
  subst hgs
  refine wpList_plain hg fun K' hK' => ?_
  have hr := run_storeAt_new (P := Try.prog) w t c c' hi ho h1
  unfold Oper.wp
  simp [execOp, hop, hp, hx, hr, Result.andThen]
  exact hK' _ _ hK
theorem wpList_build_any {ops : Array Oper} {rest : List Oper} {o : Oper} {a : Act} {Q : Exit → Act → World → Prop} (hg : o.guard = none) (t : TypeId) (fs : Array (Nat × Operand)) (hop : o.op = .build t fs) (w : World) (v : Value)
    (hr : (Instr.build t (fs.map fun p => (p.1, a.eval p.2))).run Try.prog w = .ok v w)
    (hK : wpList Try.prog ops Q rest (a.put o.dst v) w) : wpList Try.prog ops Q (o :: rest) a w := by
  refine wpList_plain hg fun K' hK' => ?_
  unfold Oper.wp
  simp [execOp, hop, hr, Result.andThen]
  exact hK' _ _ hK
theorem run_alloc_tab (w : World) (old : Value) : (Instr.alloc 63 true old).run Try.prog w = .ok (.pointer (some ⟨w.heap.size, 0, none⟩)) (w.alloc (.cells zeroTab 63)) := by kernel_rfl
theorem wpList_alloc_tab {ops : Array Oper} {rest : List Oper} {o : Oper} {a : Act} {Q : Exit → Act → World → Prop} (hg : o.guard = none) (hop : o.op = .alloc 63) (w : World)
    (hK : wpList Try.prog ops Q rest (a.put o.dst (.pointer (some ⟨w.heap.size, 0, none⟩))) (w.alloc (.cells zeroTab 63))) : wpList Try.prog ops Q (o :: rest) a w := by
  refine wpList_plain hg fun K' hK' => ?_
  unfold Oper.wp
  simp [execOp, hop, run_alloc_tab, Result.andThen]
  exact hK' _ _ hK
theorem run_load_tab (w : World) (g : Nat) (c : Array Value) (hsz : c.size = 56) (hcell : w.heap[g]? = some (.cells c 63)) :
    (Instr.loadAt 63 (.pointer (some ⟨g, 0, none⟩))).run Try.prog w = .ok (.agg c) w := by
  have h := run_loadCells_list (P := Try.prog) w ⟨g, 0, none⟩ c.toList (fun j v hv => by
    have hadd : (⟨g, 0, none⟩ : Addr).add j = ⟨g, j, none⟩ := by unfold Addr.add; split <;> simp_all
    rw [hadd, cell_of_row _ _ j c 63 (0, 0) hcell]
    simpa using hv)
  have hl : c.toList.length = 56 := by simpa using hsz
  rw [hl] at h
  have a1 := Try.isAgg63
  have z1 := Try.sizeOf63
  simp [Instr.loadAt, Instr.sureAddr, loadVar, a1, z1, Result.andThen, h]
theorem wpList_load_tab {ops : Array Oper} {rest : List Oper} {o : Oper} {a : Act} {Q : Exit → Act → World → Prop} (p : Operand) (hop : o.op = .load 63 p) (w : World) (g : Nat) (c : Array Value)
    (hgd : o.guard = none) (hsz : c.size = 56) (hp : a.eval p = .pointer (some ⟨g, 0, none⟩)) (hcell : w.heap[g]? = some (.cells c 63)) (hK : wpList Try.prog ops Q rest (a.put o.dst (.agg c)) w) :
    wpList Try.prog ops Q (o :: rest) a w := by
  refine wpList_plain hgd fun K' hK' => ?_
  have hr := run_load_tab w g c hsz hcell
  unfold Oper.wp
  simp [execOp, hop, hp, hr, Result.andThen]
  exact hK' _ _ hK
theorem alloc_heap (w : World) (o : Obj) : (w.alloc o).heap[w.heap.size]? = some o := by
  show (w.heap.push o)[w.heap.size]? = _
  simp
theorem lookT_step {T : List (List UInt8 × List UInt8)} {n : List UInt8} (k : Nat) (h : lookT (T.take k) n = none) (hk : k < T.length) (hn : T[k].1 ≠ n) : lookT (T.take (k + 1)) n = none := by
  rw [List.take_succ_eq_append_getElem hk, lookT_app, h]
  simp [lookT, hn]
theorem tab_size : byteTab.size = 56 := by kernel_rfl
theorem alloc_belowE (w : World) (o : Obj) : Below w.heap.size w (w.alloc o) := (Below.refl _ _).alloc (Nat.le_refl _) o
set_option maxHeartbeats 8000000 in
set_option maxRecDepth 100000 in
theorem boundByte_calls (s : ByteArray) (w : World) :
    Calls Try.prog 53 #[.string s] w fun e w' => ∃ n : UInt8, e = .returned (.int .u8 (n.toNat : Int)) ∧ lookT byteT s.data.toList = (if n = 0 then none else some [n]) ∧ Below w.heap.size w w' := by
  go_enter Try.func53, Try.ntmps53
  go_upto_region 1 with (fail)
  apply wp_region_lit
  iterate 28 (refine wpList_yes rfl ?_; intro K hK; go_simp; refine hK _ _ ?_; clear hK K)
  refine wpList_build_any rfl 63 _ rfl _ (.agg byteTab) (by kernel_rfl) ?_
  simp only [Act.put, List.setIfInBounds_toArray, List.set_cons_zero, List.set_cons_succ]
  refine wpList_alloc_tab rfl rfl _ ?_
  simp only [Act.put, List.setIfInBounds_toArray, List.set_cons_zero, List.set_cons_succ]
  refine wpList_store_new rfl 63 _ _ rfl w zeroTab byteTab _ rfl rfl rfl (by kernel_rfl) (by kernel_rfl) (by kernel_rfl) ?_
  simp only [Act.put, List.setIfInBounds_toArray, List.set_cons_zero, List.set_cons_succ]
  apply wpList_nil
  have HH := hid (alloc_heap w (.cells byteTab 63))
  have HB := hid (alloc_belowE w (.cells byteTab 63))
  generalize w.alloc (.cells byteTab 63) = w1 at *
  go_upto_region 2 with (fail)
  apply wp_region_lit
  refine wpList_load_tab _ rfl _ _ _ rfl tab_size rfl HH.out ?_
  simp only [Act.put, List.setIfInBounds_toArray, List.set_cons_zero, List.set_cons_succ]
  iterate 1 (refine wpList_yes rfl ?_; intro K hK; go_simp; refine hK _ _ ?_; clear hK K)
  apply wpList_nil
  go_wp2_with fail
  go_loopw [36] (fun i wr => ∃ k : Nat, k ≤ 28 ∧ i = .int .i64 k ∧ Hid (lookT (byteT.take k) s.data.toList = none) ∧ Below w.heap.size w wr) (fun i _ => 28 - (intOf i).toNat)
  case atStart => exact ⟨0, by omega, rfl, hid rfl, HB.out⟩
  case round =>
    obtain ⟨k, hk, rfl, hlk, hbw⟩ := hrel
    by_cases hlt : k < 28
    · have hks : k = 0 ∨ k = 1 ∨ k = 2 ∨ k = 3 ∨ k = 4 ∨ k = 5 ∨ k = 6 ∨ k = 7 ∨ k = 8 ∨ k = 9 ∨ k = 10 ∨ k = 11 ∨ k = 12 ∨ k = 13 ∨ k = 14 ∨ k = 15 ∨ k = 16 ∨ k = 17 ∨ k = 18 ∨ k = 19 ∨ k = 20 ∨ k = 21 ∨ k = 22 ∨ k = 23 ∨ k = 24 ∨ k = 25 ∨ k = 26 ∨ k = 27 := by omega
      rcases hks with rfl | rfl | rfl | rfl | rfl | rfl | rfl | rfl | rfl | rfl | rfl | rfl | rfl | rfl | rfl | rfl | rfl | rfl | rfl | rfl | rfl | rfl | rfl | rfl | rfl | rfl | rfl | rfl
      · have hix : ∀ W, (Instr.index 63 (.agg byteTab) (.int .i64 0)).run Try.prog W = .ok (.agg #[.string ⟨#[97, 112, 111, 115]⟩, .int .u8 39]) W := fun W => by kernel_rfl
        by_cases hn : s.data.toList = [97, 112, 111, 115]
        · have h1 : (s.toList == [97, 112, 111, 115]) = true := by rw [ByteArray.toList_eq, hn]; decide
          have h2 : ([97, 112, 111, 115] == s.toList) = true := by rw [ByteArray.toList_eq, hn]; decide
          have HT : Hid (lookT byteT s.data.toList = some [39]) := hid (by rw [hn]; decide +kernel)
          clear hn
          go_wp2_with fail
          go_ret
          exact ⟨39, rfl, by rw [HT.out]; decide, hbw.alloc hbw.size _⟩
        · have h1 : (s.toList == [97, 112, 111, 115]) = false := keyN hn
          have h2 : ([97, 112, 111, 115] == s.toList) = false := by rw [ByteArray.toList_eq, beq_eq_false_iff_ne]; exact fun e => hn e.symm
          have HT : Hid (lookT (byteT.take 1) s.data.toList = none) := hid (lookT_step 0 hlk.out (by decide) (fun e => hn e.symm))
          clear hn
          go_wp2_with fail
          go_roundw
          case rel => exact ⟨1, by omega, by go_num, HT, hbw.alloc hbw.size _⟩
          case measure => simp [intOf]
      · have hix : ∀ W, (Instr.index 63 (.agg byteTab) (.int .i64 1)).run Try.prog W = .ok (.agg #[.string ⟨#[99, 111, 108, 111, 110]⟩, .int .u8 58]) W := fun W => by kernel_rfl
        by_cases hn : s.data.toList = [99, 111, 108, 111, 110]
        · have h1 : (s.toList == [99, 111, 108, 111, 110]) = true := by rw [ByteArray.toList_eq, hn]; decide
          have h2 : ([99, 111, 108, 111, 110] == s.toList) = true := by rw [ByteArray.toList_eq, hn]; decide
          have HT : Hid (lookT byteT s.data.toList = some [58]) := hid (by rw [hn]; decide +kernel)
          clear hn
          go_wp2_with fail
          go_ret
          exact ⟨58, rfl, by rw [HT.out]; decide, hbw.alloc hbw.size _⟩
        · have h1 : (s.toList == [99, 111, 108, 111, 110]) = false := keyN hn
          have h2 : ([99, 111, 108, 111, 110] == s.toList) = false := by rw [ByteArray.toList_eq, beq_eq_false_iff_ne]; exact fun e => hn e.symm
          have HT : Hid (lookT (byteT.take 2) s.data.toList = none) := hid (lookT_step 1 hlk.out (by decide) (fun e => hn e.symm))
          clear hn
          go_wp2_with fail
          go_roundw
          case rel => exact ⟨2, by omega, by go_num, HT, hbw.alloc hbw.size _⟩
          case measure => simp [intOf]
      · have hix : ∀ W, (Instr.index 63 (.agg byteTab) (.int .i64 2)).run Try.prog W = .ok (.agg #[.string ⟨#[115, 111, 108]⟩, .int .u8 47]) W := fun W => by kernel_rfl
        by_cases hn : s.data.toList = [115, 111, 108]
        · have h1 : (s.toList == [115, 111, 108]) = true := by rw [ByteArray.toList_eq, hn]; decide
          have h2 : ([115, 111, 108] == s.toList) = true := by rw [ByteArray.toList_eq, hn]; decide
          have HT : Hid (lookT byteT s.data.toList = some [47]) := hid (by rw [hn]; decide +kernel)
          clear hn
          go_wp2_with fail
          go_ret
          exact ⟨47, rfl, by rw [HT.out]; decide, hbw.alloc hbw.size _⟩
        · have h1 : (s.toList == [115, 111, 108]) = false := keyN hn
          have h2 : ([115, 111, 108] == s.toList) = false := by rw [ByteArray.toList_eq, beq_eq_false_iff_ne]; exact fun e => hn e.symm
          have HT : Hid (lookT (byteT.take 3) s.data.toList = none) := hid (lookT_step 2 hlk.out (by decide) (fun e => hn e.symm))
          clear hn
          go_wp2_with fail
          go_roundw
          case rel => exact ⟨3, by omega, by go_num, HT, hbw.alloc hbw.size _⟩
          case measure => simp [intOf]
      · have hix : ∀ W, (Instr.index 63 (.agg byteTab) (.int .i64 3)).run Try.prog W = .ok (.agg #[.string ⟨#[98, 115, 111, 108]⟩, .int .u8 92]) W := fun W => by kernel_rfl
        by_cases hn : s.data.toList = [98, 115, 111, 108]
        · have h1 : (s.toList == [98, 115, 111, 108]) = true := by rw [ByteArray.toList_eq, hn]; decide
          have h2 : ([98, 115, 111, 108] == s.toList) = true := by rw [ByteArray.toList_eq, hn]; decide
          have HT : Hid (lookT byteT s.data.toList = some [92]) := hid (by rw [hn]; decide +kernel)
          clear hn
          go_wp2_with fail
          go_ret
          exact ⟨92, rfl, by rw [HT.out]; decide, hbw.alloc hbw.size _⟩
        · have h1 : (s.toList == [98, 115, 111, 108]) = false := keyN hn
          have h2 : ([98, 115, 111, 108] == s.toList) = false := by rw [ByteArray.toList_eq, beq_eq_false_iff_ne]; exact fun e => hn e.symm
          have HT : Hid (lookT (byteT.take 4) s.data.toList = none) := hid (lookT_step 3 hlk.out (by decide) (fun e => hn e.symm))
          clear hn
          go_wp2_with fail
          go_roundw
          case rel => exact ⟨4, by omega, by go_num, HT, hbw.alloc hbw.size _⟩
          case measure => simp [intOf]
      · have hix : ∀ W, (Instr.index 63 (.agg byteTab) (.int .i64 4)).run Try.prog W = .ok (.agg #[.string ⟨#[113, 117, 101, 115, 116]⟩, .int .u8 63]) W := fun W => by kernel_rfl
        by_cases hn : s.data.toList = [113, 117, 101, 115, 116]
        · have h1 : (s.toList == [113, 117, 101, 115, 116]) = true := by rw [ByteArray.toList_eq, hn]; decide
          have h2 : ([113, 117, 101, 115, 116] == s.toList) = true := by rw [ByteArray.toList_eq, hn]; decide
          have HT : Hid (lookT byteT s.data.toList = some [63]) := hid (by rw [hn]; decide +kernel)
          clear hn
          go_wp2_with fail
          go_ret
          exact ⟨63, rfl, by rw [HT.out]; decide, hbw.alloc hbw.size _⟩
        · have h1 : (s.toList == [113, 117, 101, 115, 116]) = false := keyN hn
          have h2 : ([113, 117, 101, 115, 116] == s.toList) = false := by rw [ByteArray.toList_eq, beq_eq_false_iff_ne]; exact fun e => hn e.symm
          have HT : Hid (lookT (byteT.take 5) s.data.toList = none) := hid (lookT_step 4 hlk.out (by decide) (fun e => hn e.symm))
          clear hn
          go_wp2_with fail
          go_roundw
          case rel => exact ⟨5, by omega, by go_num, HT, hbw.alloc hbw.size _⟩
          case measure => simp [intOf]
      · have hix : ∀ W, (Instr.index 63 (.agg byteTab) (.int .i64 5)).run Try.prog W = .ok (.agg #[.string ⟨#[110, 117, 109]⟩, .int .u8 35]) W := fun W => by kernel_rfl
        by_cases hn : s.data.toList = [110, 117, 109]
        · have h1 : (s.toList == [110, 117, 109]) = true := by rw [ByteArray.toList_eq, hn]; decide
          have h2 : ([110, 117, 109] == s.toList) = true := by rw [ByteArray.toList_eq, hn]; decide
          have HT : Hid (lookT byteT s.data.toList = some [35]) := hid (by rw [hn]; decide +kernel)
          clear hn
          go_wp2_with fail
          go_ret
          exact ⟨35, rfl, by rw [HT.out]; decide, hbw.alloc hbw.size _⟩
        · have h1 : (s.toList == [110, 117, 109]) = false := keyN hn
          have h2 : ([110, 117, 109] == s.toList) = false := by rw [ByteArray.toList_eq, beq_eq_false_iff_ne]; exact fun e => hn e.symm
          have HT : Hid (lookT (byteT.take 6) s.data.toList = none) := hid (lookT_step 5 hlk.out (by decide) (fun e => hn e.symm))
          clear hn
          go_wp2_with fail
          go_roundw
          case rel => exact ⟨6, by omega, by go_num, HT, hbw.alloc hbw.size _⟩
          case measure => simp [intOf]
      · have hix : ∀ W, (Instr.index 63 (.agg byteTab) (.int .i64 6)).run Try.prog W = .ok (.agg #[.string ⟨#[112, 101, 114, 99, 110, 116]⟩, .int .u8 37]) W := fun W => by kernel_rfl
        by_cases hn : s.data.toList = [112, 101, 114, 99, 110, 116]
        · have h1 : (s.toList == [112, 101, 114, 99, 110, 116]) = true := by rw [ByteArray.toList_eq, hn]; decide
          have h2 : ([112, 101, 114, 99, 110, 116] == s.toList) = true := by rw [ByteArray.toList_eq, hn]; decide
          have HT : Hid (lookT byteT s.data.toList = some [37]) := hid (by rw [hn]; decide +kernel)
          clear hn
          go_wp2_with fail
          go_ret
          exact ⟨37, rfl, by rw [HT.out]; decide, hbw.alloc hbw.size _⟩
        · have h1 : (s.toList == [112, 101, 114, 99, 110, 116]) = false := keyN hn
          have h2 : ([112, 101, 114, 99, 110, 116] == s.toList) = false := by rw [ByteArray.toList_eq, beq_eq_false_iff_ne]; exact fun e => hn e.symm
          have HT : Hid (lookT (byteT.take 7) s.data.toList = none) := hid (lookT_step 6 hlk.out (by decide) (fun e => hn e.symm))
          clear hn
          go_wp2_with fail
          go_roundw
          case rel => exact ⟨7, by omega, by go_num, HT, hbw.alloc hbw.size _⟩
          case measure => simp [intOf]
      · have hix : ∀ W, (Instr.index 63 (.agg byteTab) (.int .i64 7)).run Try.prog W = .ok (.agg #[.string ⟨#[99, 111, 109, 109, 97, 116]⟩, .int .u8 64]) W := fun W => by kernel_rfl
        by_cases hn : s.data.toList = [99, 111, 109, 109, 97, 116]
        · have h1 : (s.toList == [99, 111, 109, 109, 97, 116]) = true := by rw [ByteArray.toList_eq, hn]; decide
          have h2 : ([99, 111, 109, 109, 97, 116] == s.toList) = true := by rw [ByteArray.toList_eq, hn]; decide
          have HT : Hid (lookT byteT s.data.toList = some [64]) := hid (by rw [hn]; decide +kernel)
          clear hn
          go_wp2_with fail
          go_ret
          exact ⟨64, rfl, by rw [HT.out]; decide, hbw.alloc hbw.size _⟩
        · have h1 : (s.toList == [99, 111, 109, 109, 97, 116]) = false := keyN hn
          have h2 : ([99, 111, 109, 109, 97, 116] == s.toList) = false := by rw [ByteArray.toList_eq, beq_eq_false_iff_ne]; exact fun e => hn e.symm
          have HT : Hid (lookT (byteT.take 8) s.data.toList = none) := hid (lookT_step 7 hlk.out (by decide) (fun e => hn e.symm))
          clear hn
          go_wp2_with fail
          go_roundw
          case rel => exact ⟨8, by omega, by go_num, HT, hbw.alloc hbw.size _⟩
          case measure => simp [intOf]
      · have hix : ∀ W, (Instr.index 63 (.agg byteTab) (.int .i64 8)).run Try.prog W = .ok (.agg #[.string ⟨#[101, 113, 117, 97, 108, 115]⟩, .int .u8 61]) W := fun W => by kernel_rfl
        by_cases hn : s.data.toList = [101, 113, 117, 97, 108, 115]
        · have h1 : (s.toList == [101, 113, 117, 97, 108, 115]) = true := by rw [ByteArray.toList_eq, hn]; decide
          have h2 : ([101, 113, 117, 97, 108, 115] == s.toList) = true := by rw [ByteArray.toList_eq, hn]; decide
          have HT : Hid (lookT byteT s.data.toList = some [61]) := hid (by rw [hn]; decide +kernel)
          clear hn
          go_wp2_with fail
          go_ret
          exact ⟨61, rfl, by rw [HT.out]; decide, hbw.alloc hbw.size _⟩
        · have h1 : (s.toList == [101, 113, 117, 97, 108, 115]) = false := keyN hn
          have h2 : ([101, 113, 117, 97, 108, 115] == s.toList) = false := by rw [ByteArray.toList_eq, beq_eq_false_iff_ne]; exact fun e => hn e.symm
          have HT : Hid (lookT (byteT.take 9) s.data.toList = none) := hid (lookT_step 8 hlk.out (by decide) (fun e => hn e.symm))
          clear hn
          go_wp2_with fail
          go_roundw
          case rel => exact ⟨9, by omega, by go_num, HT, hbw.alloc hbw.size _⟩
          case measure => simp [intOf]
      · have hix : ∀ W, (Instr.index 63 (.agg byteTab) (.int .i64 9)).run Try.prog W = .ok (.agg #[.string ⟨#[112, 108, 117, 115]⟩, .int .u8 43]) W := fun W => by kernel_rfl
        by_cases hn : s.data.toList = [112, 108, 117, 115]
        · have h1 : (s.toList == [112, 108, 117, 115]) = true := by rw [ByteArray.toList_eq, hn]; decide
          have h2 : ([112, 108, 117, 115] == s.toList) = true := by rw [ByteArray.toList_eq, hn]; decide
          have HT : Hid (lookT byteT s.data.toList = some [43]) := hid (by rw [hn]; decide +kernel)
          clear hn
          go_wp2_with fail
          go_ret
          exact ⟨43, rfl, by rw [HT.out]; decide, hbw.alloc hbw.size _⟩
        · have h1 : (s.toList == [112, 108, 117, 115]) = false := keyN hn
          have h2 : ([112, 108, 117, 115] == s.toList) = false := by rw [ByteArray.toList_eq, beq_eq_false_iff_ne]; exact fun e => hn e.symm
          have HT : Hid (lookT (byteT.take 10) s.data.toList = none) := hid (lookT_step 9 hlk.out (by decide) (fun e => hn e.symm))
          clear hn
          go_wp2_with fail
          go_roundw
          case rel => exact ⟨10, by omega, by go_num, HT, hbw.alloc hbw.size _⟩
          case measure => simp [intOf]
      · have hix : ∀ W, (Instr.index 63 (.agg byteTab) (.int .i64 10)).run Try.prog W = .ok (.agg #[.string ⟨#[99, 111, 109, 109, 97]⟩, .int .u8 44]) W := fun W => by kernel_rfl
        by_cases hn : s.data.toList = [99, 111, 109, 109, 97]
        · have h1 : (s.toList == [99, 111, 109, 109, 97]) = true := by rw [ByteArray.toList_eq, hn]; decide
          have h2 : ([99, 111, 109, 109, 97] == s.toList) = true := by rw [ByteArray.toList_eq, hn]; decide
          have HT : Hid (lookT byteT s.data.toList = some [44]) := hid (by rw [hn]; decide +kernel)
          clear hn
          go_wp2_with fail
          go_ret
          exact ⟨44, rfl, by rw [HT.out]; decide, hbw.alloc hbw.size _⟩
        · have h1 : (s.toList == [99, 111, 109, 109, 97]) = false := keyN hn
          have h2 : ([99, 111, 109, 109, 97] == s.toList) = false := by rw [ByteArray.toList_eq, beq_eq_false_iff_ne]; exact fun e => hn e.symm
          have HT : Hid (lookT (byteT.take 11) s.data.toList = none) := hid (lookT_step 10 hlk.out (by decide) (fun e => hn e.symm))
          clear hn
          go_wp2_with fail
          go_roundw
          case rel => exact ⟨11, by omega, by go_num, HT, hbw.alloc hbw.size _⟩
          case measure => simp [intOf]
      · have hix : ∀ W, (Instr.index 63 (.agg byteTab) (.int .i64 11)).run Try.prog W = .ok (.agg #[.string ⟨#[112, 101, 114, 105, 111, 100]⟩, .int .u8 46]) W := fun W => by kernel_rfl
        by_cases hn : s.data.toList = [112, 101, 114, 105, 111, 100]
        · have h1 : (s.toList == [112, 101, 114, 105, 111, 100]) = true := by rw [ByteArray.toList_eq, hn]; decide
          have h2 : ([112, 101, 114, 105, 111, 100] == s.toList) = true := by rw [ByteArray.toList_eq, hn]; decide
          have HT : Hid (lookT byteT s.data.toList = some [46]) := hid (by rw [hn]; decide +kernel)
          clear hn
          go_wp2_with fail
          go_ret
          exact ⟨46, rfl, by rw [HT.out]; decide, hbw.alloc hbw.size _⟩
        · have h1 : (s.toList == [112, 101, 114, 105, 111, 100]) = false := keyN hn
          have h2 : ([112, 101, 114, 105, 111, 100] == s.toList) = false := by rw [ByteArray.toList_eq, beq_eq_false_iff_ne]; exact fun e => hn e.symm
          have HT : Hid (lookT (byteT.take 12) s.data.toList = none) := hid (lookT_step 11 hlk.out (by decide) (fun e => hn e.symm))
          clear hn
          go_wp2_with fail
          go_roundw
          case rel => exact ⟨12, by omega, by go_num, HT, hbw.alloc hbw.size _⟩
          case measure => simp [intOf]
      · have hix : ∀ W, (Instr.index 63 (.agg byteTab) (.int .i64 12)).run Try.prog W = .ok (.agg #[.string ⟨#[115, 101, 109, 105]⟩, .int .u8 59]) W := fun W => by kernel_rfl
        by_cases hn : s.data.toList = [115, 101, 109, 105]
        · have h1 : (s.toList == [115, 101, 109, 105]) = true := by rw [ByteArray.toList_eq, hn]; decide
          have h2 : ([115, 101, 109, 105] == s.toList) = true := by rw [ByteArray.toList_eq, hn]; decide
          have HT : Hid (lookT byteT s.data.toList = some [59]) := hid (by rw [hn]; decide +kernel)
          clear hn
          go_wp2_with fail
          go_ret
          exact ⟨59, rfl, by rw [HT.out]; decide, hbw.alloc hbw.size _⟩
        · have h1 : (s.toList == [115, 101, 109, 105]) = false := keyN hn
          have h2 : ([115, 101, 109, 105] == s.toList) = false := by rw [ByteArray.toList_eq, beq_eq_false_iff_ne]; exact fun e => hn e.symm
          have HT : Hid (lookT (byteT.take 13) s.data.toList = none) := hid (lookT_step 12 hlk.out (by decide) (fun e => hn e.symm))
          clear hn
          go_wp2_with fail
          go_roundw
          case rel => exact ⟨13, by omega, by go_num, HT, hbw.alloc hbw.size _⟩
          case measure => simp [intOf]
      · have hix : ∀ W, (Instr.index 63 (.agg byteTab) (.int .i64 13)).run Try.prog W = .ok (.agg #[.string ⟨#[101, 120, 99, 108]⟩, .int .u8 33]) W := fun W => by kernel_rfl
        by_cases hn : s.data.toList = [101, 120, 99, 108]
        · have h1 : (s.toList == [101, 120, 99, 108]) = true := by rw [ByteArray.toList_eq, hn]; decide
          have h2 : ([101, 120, 99, 108] == s.toList) = true := by rw [ByteArray.toList_eq, hn]; decide
          have HT : Hid (lookT byteT s.data.toList = some [33]) := hid (by rw [hn]; decide +kernel)
          clear hn
          go_wp2_with fail
          go_ret
          exact ⟨33, rfl, by rw [HT.out]; decide, hbw.alloc hbw.size _⟩
        · have h1 : (s.toList == [101, 120, 99, 108]) = false := keyN hn
          have h2 : ([101, 120, 99, 108] == s.toList) = false := by rw [ByteArray.toList_eq, beq_eq_false_iff_ne]; exact fun e => hn e.symm
          have HT : Hid (lookT (byteT.take 14) s.data.toList = none) := hid (lookT_step 13 hlk.out (by decide) (fun e => hn e.symm))
          clear hn
          go_wp2_with fail
          go_roundw
          case rel => exact ⟨14, by omega, by go_num, HT, hbw.alloc hbw.size _⟩
          case measure => simp [intOf]
      · have hix : ∀ W, (Instr.index 63 (.agg byteTab) (.int .i64 14)).run Try.prog W = .ok (.agg #[.string ⟨#[100, 111, 108, 108, 97, 114]⟩, .int .u8 36]) W := fun W => by kernel_rfl
        by_cases hn : s.data.toList = [100, 111, 108, 108, 97, 114]
        · have h1 : (s.toList == [100, 111, 108, 108, 97, 114]) = true := by rw [ByteArray.toList_eq, hn]; decide
          have h2 : ([100, 111, 108, 108, 97, 114] == s.toList) = true := by rw [ByteArray.toList_eq, hn]; decide
          have HT : Hid (lookT byteT s.data.toList = some [36]) := hid (by rw [hn]; decide +kernel)
          clear hn
          go_wp2_with fail
          go_ret
          exact ⟨36, rfl, by rw [HT.out]; decide, hbw.alloc hbw.size _⟩
        · have h1 : (s.toList == [100, 111, 108, 108, 97, 114]) = false := keyN hn
          have h2 : ([100, 111, 108, 108, 97, 114] == s.toList) = false := by rw [ByteArray.toList_eq, beq_eq_false_iff_ne]; exact fun e => hn e.symm
          have HT : Hid (lookT (byteT.take 15) s.data.toList = none) := hid (lookT_step 14 hlk.out (by decide) (fun e => hn e.symm))
          clear hn
          go_wp2_with fail
          go_roundw
          case rel => exact ⟨15, by omega, by go_num, HT, hbw.alloc hbw.size _⟩
          case measure => simp [intOf]
      · have hix : ∀ W, (Instr.index 63 (.agg byteTab) (.int .i64 15)).run Try.prog W = .ok (.agg #[.string ⟨#[97, 115, 116]⟩, .int .u8 42]) W := fun W => by kernel_rfl
        by_cases hn : s.data.toList = [97, 115, 116]
        · have h1 : (s.toList == [97, 115, 116]) = true := by rw [ByteArray.toList_eq, hn]; decide
          have h2 : ([97, 115, 116] == s.toList) = true := by rw [ByteArray.toList_eq, hn]; decide
          have HT : Hid (lookT byteT s.data.toList = some [42]) := hid (by rw [hn]; decide +kernel)
          clear hn
          go_wp2_with fail
          go_ret
          exact ⟨42, rfl, by rw [HT.out]; decide, hbw.alloc hbw.size _⟩
        · have h1 : (s.toList == [97, 115, 116]) = false := keyN hn
          have h2 : ([97, 115, 116] == s.toList) = false := by rw [ByteArray.toList_eq, beq_eq_false_iff_ne]; exact fun e => hn e.symm
          have HT : Hid (lookT (byteT.take 16) s.data.toList = none) := hid (lookT_step 15 hlk.out (by decide) (fun e => hn e.symm))
          clear hn
          go_wp2_with fail
          go_roundw
          case rel => exact ⟨16, by omega, by go_num, HT, hbw.alloc hbw.size _⟩
          case measure => simp [intOf]
      · have hix : ∀ W, (Instr.index 63 (.agg byteTab) (.int .i64 16)).run Try.prog W = .ok (.agg #[.string ⟨#[108, 111, 119, 98, 97, 114]⟩, .int .u8 95]) W := fun W => by kernel_rfl
        by_cases hn : s.data.toList = [108, 111, 119, 98, 97, 114]
        · have h1 : (s.toList == [108, 111, 119, 98, 97, 114]) = true := by rw [ByteArray.toList_eq, hn]; decide
          have h2 : ([108, 111, 119, 98, 97, 114] == s.toList) = true := by rw [ByteArray.toList_eq, hn]; decide
          have HT : Hid (lookT byteT s.data.toList = some [95]) := hid (by rw [hn]; decide +kernel)
          clear hn
          go_wp2_with fail
          go_ret
          exact ⟨95, rfl, by rw [HT.out]; decide, hbw.alloc hbw.size _⟩
        · have h1 : (s.toList == [108, 111, 119, 98, 97, 114]) = false := keyN hn
          have h2 : ([108, 111, 119, 98, 97, 114] == s.toList) = false := by rw [ByteArray.toList_eq, beq_eq_false_iff_ne]; exact fun e => hn e.symm
          have HT : Hid (lookT (byteT.take 17) s.data.toList = none) := hid (lookT_step 16 hlk.out (by decide) (fun e => hn e.symm))
          clear hn
          go_wp2_with fail
          go_roundw
          case rel => exact ⟨17, by omega, by go_num, HT, hbw.alloc hbw.size _⟩
          case measure => simp [intOf]
      · have hix : ∀ W, (Instr.index 63 (.agg byteTab) (.int .i64 17)).run Try.prog W = .ok (.agg #[.string ⟨#[103, 114, 97, 118, 101]⟩, .int .u8 96]) W := fun W => by kernel_rfl
        by_cases hn : s.data.toList = [103, 114, 97, 118, 101]
        · have h1 : (s.toList == [103, 114, 97, 118, 101]) = true := by rw [ByteArray.toList_eq, hn]; decide
          have h2 : ([103, 114, 97, 118, 101] == s.toList) = true := by rw [ByteArray.toList_eq, hn]; decide
          have HT : Hid (lookT byteT s.data.toList = some [96]) := hid (by rw [hn]; decide +kernel)
          clear hn
          go_wp2_with fail
          go_ret
          exact ⟨96, rfl, by rw [HT.out]; decide, hbw.alloc hbw.size _⟩
        · have h1 : (s.toList == [103, 114, 97, 118, 101]) = false := keyN hn
          have h2 : ([103, 114, 97, 118, 101] == s.toList) = false := by rw [ByteArray.toList_eq, beq_eq_false_iff_ne]; exact fun e => hn e.symm
          have HT : Hid (lookT (byteT.take 18) s.data.toList = none) := hid (lookT_step 17 hlk.out (by decide) (fun e => hn e.symm))
          clear hn
          go_wp2_with fail
          go_roundw
          case rel => exact ⟨18, by omega, by go_num, HT, hbw.alloc hbw.size _⟩
          case measure => simp [intOf]
      · have hix : ∀ W, (Instr.index 63 (.agg byteTab) (.int .i64 18)).run Try.prog W = .ok (.agg #[.string ⟨#[72, 97, 116]⟩, .int .u8 94]) W := fun W => by kernel_rfl
        by_cases hn : s.data.toList = [72, 97, 116]
        · have h1 : (s.toList == [72, 97, 116]) = true := by rw [ByteArray.toList_eq, hn]; decide
          have h2 : ([72, 97, 116] == s.toList) = true := by rw [ByteArray.toList_eq, hn]; decide
          have HT : Hid (lookT byteT s.data.toList = some [94]) := hid (by rw [hn]; decide +kernel)
          clear hn
          go_wp2_with fail
          go_ret
          exact ⟨94, rfl, by rw [HT.out]; decide, hbw.alloc hbw.size _⟩
        · have h1 : (s.toList == [72, 97, 116]) = false := keyN hn
          have h2 : ([72, 97, 116] == s.toList) = false := by rw [ByteArray.toList_eq, beq_eq_false_iff_ne]; exact fun e => hn e.symm
          have HT : Hid (lookT (byteT.take 19) s.data.toList = none) := hid (lookT_step 18 hlk.out (by decide) (fun e => hn e.symm))
          clear hn
          go_wp2_with fail
          go_roundw
          case rel => exact ⟨19, by omega, by go_num, HT, hbw.alloc hbw.size _⟩
          case measure => simp [intOf]
      · have hix : ∀ W, (Instr.index 63 (.agg byteTab) (.int .i64 19)).run Try.prog W = .ok (.agg #[.string ⟨#[108, 112, 97, 114]⟩, .int .u8 40]) W := fun W => by kernel_rfl
        by_cases hn : s.data.toList = [108, 112, 97, 114]
        · have h1 : (s.toList == [108, 112, 97, 114]) = true := by rw [ByteArray.toList_eq, hn]; decide
          have h2 : ([108, 112, 97, 114] == s.toList) = true := by rw [ByteArray.toList_eq, hn]; decide
          have HT : Hid (lookT byteT s.data.toList = some [40]) := hid (by rw [hn]; decide +kernel)
          clear hn
          go_wp2_with fail
          go_ret
          exact ⟨40, rfl, by rw [HT.out]; decide, hbw.alloc hbw.size _⟩
        · have h1 : (s.toList == [108, 112, 97, 114]) = false := keyN hn
          have h2 : ([108, 112, 97, 114] == s.toList) = false := by rw [ByteArray.toList_eq, beq_eq_false_iff_ne]; exact fun e => hn e.symm
          have HT : Hid (lookT (byteT.take 20) s.data.toList = none) := hid (lookT_step 19 hlk.out (by decide) (fun e => hn e.symm))
          clear hn
          go_wp2_with fail
          go_roundw
          case rel => exact ⟨20, by omega, by go_num, HT, hbw.alloc hbw.size _⟩
          case measure => simp [intOf]
      · have hix : ∀ W, (Instr.index 63 (.agg byteTab) (.int .i64 20)).run Try.prog W = .ok (.agg #[.string ⟨#[114, 112, 97, 114]⟩, .int .u8 41]) W := fun W => by kernel_rfl
        by_cases hn : s.data.toList = [114, 112, 97, 114]
        · have h1 : (s.toList == [114, 112, 97, 114]) = true := by rw [ByteArray.toList_eq, hn]; decide
          have h2 : ([114, 112, 97, 114] == s.toList) = true := by rw [ByteArray.toList_eq, hn]; decide
          have HT : Hid (lookT byteT s.data.toList = some [41]) := hid (by rw [hn]; decide +kernel)
          clear hn
          go_wp2_with fail
          go_ret
          exact ⟨41, rfl, by rw [HT.out]; decide, hbw.alloc hbw.size _⟩
        · have h1 : (s.toList == [114, 112, 97, 114]) = false := keyN hn
          have h2 : ([114, 112, 97, 114] == s.toList) = false := by rw [ByteArray.toList_eq, beq_eq_false_iff_ne]; exact fun e => hn e.symm
          have HT : Hid (lookT (byteT.take 21) s.data.toList = none) := hid (lookT_step 20 hlk.out (by decide) (fun e => hn e.symm))
          clear hn
          go_wp2_with fail
          go_roundw
          case rel => exact ⟨21, by omega, by go_num, HT, hbw.alloc hbw.size _⟩
          case measure => simp [intOf]
      · have hix : ∀ W, (Instr.index 63 (.agg byteTab) (.int .i64 21)).run Try.prog W = .ok (.agg #[.string ⟨#[108, 115, 113, 98]⟩, .int .u8 91]) W := fun W => by kernel_rfl
        by_cases hn : s.data.toList = [108, 115, 113, 98]
        · have h1 : (s.toList == [108, 115, 113, 98]) = true := by rw [ByteArray.toList_eq, hn]; decide
          have h2 : ([108, 115, 113, 98] == s.toList) = true := by rw [ByteArray.toList_eq, hn]; decide
          have HT : Hid (lookT byteT s.data.toList = some [91]) := hid (by rw [hn]; decide +kernel)
          clear hn
          go_wp2_with fail
          go_ret
          exact ⟨91, rfl, by rw [HT.out]; decide, hbw.alloc hbw.size _⟩
        · have h1 : (s.toList == [108, 115, 113, 98]) = false := keyN hn
          have h2 : ([108, 115, 113, 98] == s.toList) = false := by rw [ByteArray.toList_eq, beq_eq_false_iff_ne]; exact fun e => hn e.symm
          have HT : Hid (lookT (byteT.take 22) s.data.toList = none) := hid (lookT_step 21 hlk.out (by decide) (fun e => hn e.symm))
          clear hn
          go_wp2_with fail
          go_roundw
          case rel => exact ⟨22, by omega, by go_num, HT, hbw.alloc hbw.size _⟩
          case measure => simp [intOf]
      · have hix : ∀ W, (Instr.index 63 (.agg byteTab) (.int .i64 22)).run Try.prog W = .ok (.agg #[.string ⟨#[114, 115, 113, 98]⟩, .int .u8 93]) W := fun W => by kernel_rfl
        by_cases hn : s.data.toList = [114, 115, 113, 98]
        · have h1 : (s.toList == [114, 115, 113, 98]) = true := by rw [ByteArray.toList_eq, hn]; decide
          have h2 : ([114, 115, 113, 98] == s.toList) = true := by rw [ByteArray.toList_eq, hn]; decide
          have HT : Hid (lookT byteT s.data.toList = some [93]) := hid (by rw [hn]; decide +kernel)
          clear hn
          go_wp2_with fail
          go_ret
          exact ⟨93, rfl, by rw [HT.out]; decide, hbw.alloc hbw.size _⟩
        · have h1 : (s.toList == [114, 115, 113, 98]) = false := keyN hn
          have h2 : ([114, 115, 113, 98] == s.toList) = false := by rw [ByteArray.toList_eq, beq_eq_false_iff_ne]; exact fun e => hn e.symm
          have HT : Hid (lookT (byteT.take 23) s.data.toList = none) := hid (lookT_step 22 hlk.out (by decide) (fun e => hn e.symm))
          clear hn
          go_wp2_with fail
          go_roundw
          case rel => exact ⟨23, by omega, by go_num, HT, hbw.alloc hbw.size _⟩
          case measure => simp [intOf]
      · have hix : ∀ W, (Instr.index 63 (.agg byteTab) (.int .i64 23)).run Try.prog W = .ok (.agg #[.string ⟨#[108, 99, 117, 98]⟩, .int .u8 123]) W := fun W => by kernel_rfl
        by_cases hn : s.data.toList = [108, 99, 117, 98]
        · have h1 : (s.toList == [108, 99, 117, 98]) = true := by rw [ByteArray.toList_eq, hn]; decide
          have h2 : ([108, 99, 117, 98] == s.toList) = true := by rw [ByteArray.toList_eq, hn]; decide
          have HT : Hid (lookT byteT s.data.toList = some [123]) := hid (by rw [hn]; decide +kernel)
          clear hn
          go_wp2_with fail
          go_ret
          exact ⟨123, rfl, by rw [HT.out]; decide, hbw.alloc hbw.size _⟩
        · have h1 : (s.toList == [108, 99, 117, 98]) = false := keyN hn
          have h2 : ([108, 99, 117, 98] == s.toList) = false := by rw [ByteArray.toList_eq, beq_eq_false_iff_ne]; exact fun e => hn e.symm
          have HT : Hid (lookT (byteT.take 24) s.data.toList = none) := hid (lookT_step 23 hlk.out (by decide) (fun e => hn e.symm))
          clear hn
          go_wp2_with fail
          go_roundw
          case rel => exact ⟨24, by omega, by go_num, HT, hbw.alloc hbw.size _⟩
          case measure => simp [intOf]
      · have hix : ∀ W, (Instr.index 63 (.agg byteTab) (.int .i64 24)).run Try.prog W = .ok (.agg #[.string ⟨#[114, 99, 117, 98]⟩, .int .u8 125]) W := fun W => by kernel_rfl
        by_cases hn : s.data.toList = [114, 99, 117, 98]
        · have h1 : (s.toList == [114, 99, 117, 98]) = true := by rw [ByteArray.toList_eq, hn]; decide
          have h2 : ([114, 99, 117, 98] == s.toList) = true := by rw [ByteArray.toList_eq, hn]; decide
          have HT : Hid (lookT byteT s.data.toList = some [125]) := hid (by rw [hn]; decide +kernel)
          clear hn
          go_wp2_with fail
          go_ret
          exact ⟨125, rfl, by rw [HT.out]; decide, hbw.alloc hbw.size _⟩
        · have h1 : (s.toList == [114, 99, 117, 98]) = false := keyN hn
          have h2 : ([114, 99, 117, 98] == s.toList) = false := by rw [ByteArray.toList_eq, beq_eq_false_iff_ne]; exact fun e => hn e.symm
          have HT : Hid (lookT (byteT.take 25) s.data.toList = none) := hid (lookT_step 24 hlk.out (by decide) (fun e => hn e.symm))
          clear hn
          go_wp2_with fail
          go_roundw
          case rel => exact ⟨25, by omega, by go_num, HT, hbw.alloc hbw.size _⟩
          case measure => simp [intOf]
      · have hix : ∀ W, (Instr.index 63 (.agg byteTab) (.int .i64 25)).run Try.prog W = .ok (.agg #[.string ⟨#[118, 101, 114, 98, 97, 114]⟩, .int .u8 124]) W := fun W => by kernel_rfl
        by_cases hn : s.data.toList = [118, 101, 114, 98, 97, 114]
        · have h1 : (s.toList == [118, 101, 114, 98, 97, 114]) = true := by rw [ByteArray.toList_eq, hn]; decide
          have h2 : ([118, 101, 114, 98, 97, 114] == s.toList) = true := by rw [ByteArray.toList_eq, hn]; decide
          have HT : Hid (lookT byteT s.data.toList = some [124]) := hid (by rw [hn]; decide +kernel)
          clear hn
          go_wp2_with fail
          go_ret
          exact ⟨124, rfl, by rw [HT.out]; decide, hbw.alloc hbw.size _⟩
        · have h1 : (s.toList == [118, 101, 114, 98, 97, 114]) = false := keyN hn
          have h2 : ([118, 101, 114, 98, 97, 114] == s.toList) = false := by rw [ByteArray.toList_eq, beq_eq_false_iff_ne]; exact fun e => hn e.symm
          have HT : Hid (lookT (byteT.take 26) s.data.toList = none) := hid (lookT_step 25 hlk.out (by decide) (fun e => hn e.symm))
          clear hn
          go_wp2_with fail
          go_roundw
          case rel => exact ⟨26, by omega, by go_num, HT, hbw.alloc hbw.size _⟩
          case measure => simp [intOf]
      · have hix : ∀ W, (Instr.index 63 (.agg byteTab) (.int .i64 26)).run Try.prog W = .ok (.agg #[.string ⟨#[84, 97, 98]⟩, .int .u8 9]) W := fun W => by kernel_rfl
        by_cases hn : s.data.toList = [84, 97, 98]
        · have h1 : (s.toList == [84, 97, 98]) = true := by rw [ByteArray.toList_eq, hn]; decide
          have h2 : ([84, 97, 98] == s.toList) = true := by rw [ByteArray.toList_eq, hn]; decide
          have HT : Hid (lookT byteT s.data.toList = some [9]) := hid (by rw [hn]; decide +kernel)
          clear hn
          go_wp2_with fail
          go_ret
          exact ⟨9, rfl, by rw [HT.out]; decide, hbw.alloc hbw.size _⟩
        · have h1 : (s.toList == [84, 97, 98]) = false := keyN hn
          have h2 : ([84, 97, 98] == s.toList) = false := by rw [ByteArray.toList_eq, beq_eq_false_iff_ne]; exact fun e => hn e.symm
          have HT : Hid (lookT (byteT.take 27) s.data.toList = none) := hid (lookT_step 26 hlk.out (by decide) (fun e => hn e.symm))
          clear hn
          go_wp2_with fail
          go_roundw
          case rel => exact ⟨27, by omega, by go_num, HT, hbw.alloc hbw.size _⟩
          case measure => simp [intOf]
      · have hix : ∀ W, (Instr.index 63 (.agg byteTab) (.int .i64 27)).run Try.prog W = .ok (.agg #[.string ⟨#[78, 101, 119, 76, 105, 110, 101]⟩, .int .u8 10]) W := fun W => by kernel_rfl
        by_cases hn : s.data.toList = [78, 101, 119, 76, 105, 110, 101]
        · have h1 : (s.toList == [78, 101, 119, 76, 105, 110, 101]) = true := by rw [ByteArray.toList_eq, hn]; decide
          have h2 : ([78, 101, 119, 76, 105, 110, 101] == s.toList) = true := by rw [ByteArray.toList_eq, hn]; decide
          have HT : Hid (lookT byteT s.data.toList = some [10]) := hid (by rw [hn]; decide +kernel)
          clear hn
          go_wp2_with fail
          go_ret
          exact ⟨10, rfl, by rw [HT.out]; decide, hbw.alloc hbw.size _⟩
        · have h1 : (s.toList == [78, 101, 119, 76, 105, 110, 101]) = false := keyN hn
          have h2 : ([78, 101, 119, 76, 105, 110, 101] == s.toList) = false := by rw [ByteArray.toList_eq, beq_eq_false_iff_ne]; exact fun e => hn e.symm
          have HT : Hid (lookT (byteT.take 28) s.data.toList = none) := hid (lookT_step 27 hlk.out (by decide) (fun e => hn e.symm))
          clear hn
          go_wp2_with fail
          go_roundw
          case rel => exact ⟨28, by omega, by go_num, HT, hbw.alloc hbw.size _⟩
          case measure => simp [intOf]
    · obtain rfl : k = 28 := by omega
      have HT := hid (show lookT byteT s.data.toList = none from hlk.out)
      go_wp2_with fail
      go_ret
      exact ⟨0, rfl, by rw [HT.out]; rfl, hbw⟩
end Go.Proofs.Ytmcjljjagfpkkaa
