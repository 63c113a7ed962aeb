/-
  'append(out, b0, b1, ..)' of bytes to a slice that the call has made itself, in a list of operations and in a region whose order is drawn. Conditions: at most 1000000 bytes.
-/
import Derived.Test.YtmcjljjagfpkkaaBytes
import Derived.Deep.RegionLaw
set_option linter.all false
namespace Go.Proofs.Ytmcjljjagfpkkaa
open Go.RowKit

theorem wp_append_bytes {o : Oper} {a : Act} {K : Act → World → Prop} {Q : Exit → Act → World → Prop} (w : World) (base : Nat) (v : Value) (l news : List UInt8)
    (s x : Operand) (ho : o.op = .call { callee := .builtin .append, args := #[s, x], argTypes := #[34, 34] })
    (hs : a.eval s = v) (hown : OwnB w base v l) (h c : Nat) (hx : a.eval x = .slice (some ⟨h, 0, none⟩) news.length c) (hcell : ∀ j (hj : j < news.length), w.cell? ⟨h, j, none⟩ = some (byteV news[j]))
    (hlen : l.length + news.length ≤ 1000000) (hbase : base ≤ w.heap.size)
    (hK : ∀ v' w', OwnB w' base v' (l ++ news) → Below base w w' → K (a.put o.dst v') w') : o.wp Try.prog a w K Q := by
  obtain ⟨i0, hi, hz0, hz1, hz2⟩ := info_parts info_u8
  refine wp_append_own w s x 34 ho base 5 i0 (.int .u8 0) 1 1 Try.underlying34 hi hz0 hz1 hz2 rfl (by decide) v l.length (l.map byteV) hs hown ⟨h, 0, none⟩ news.length c (news.map byteV) hx (by simp)
    ?_ ?_ (by unfold maxLen; omega) (by omega) hbase fun v' w' h1 h2 _ => ?_
  · intro j u hj
    have hj' : j < news.length := by
      have := (List.getElem?_eq_some_iff.1 hj).1
      simpa using this
    rw [List.getElem?_map, List.getElem?_eq_getElem hj'] at hj
    simp at hj
    rw [add0, hcell j hj', hj]
  · intro u hu
    obtain ⟨b, _, rfl⟩ := List.mem_map.1 hu
    rfl
  · refine hK v' w' ?_ ?_
    · unfold OwnB; simpa using h1
    · exact (Below.refl _ _).grown h2 hbase (fun k hk => (World.ownsRow.lt hown k hk).1)

theorem step_append_bytes {ops : Array Oper} {o : Oper} {a : Act} {K : Act → World → Prop} {Q : Exit → Act → World → Prop} {E : Prop} (w : World) (base : Nat) (v : Value) (l news : List UInt8) (hgd : o.guard = none)
    (s x : Operand) (ho : o.op = .call { callee := .builtin .append, args := #[s, x], argTypes := #[34, 34] })
    (hs : a.eval s = v) (hown : OwnB w base v l) (h c : Nat) (hx : a.eval x = .slice (some ⟨h, 0, none⟩) news.length c) (hcell : ∀ j (hj : j < news.length), w.cell? ⟨h, j, none⟩ = some (byteV news[j]))
    (hlen : l.length + news.length ≤ 1000000) (hbase : base ≤ w.heap.size)
    (hK : ∀ v' w', OwnB w' base v' (l ++ news) → Below base w w' → K (a.put o.dst v') w') : if Region.wanted o (yielded ops a.tmps) = true then Oper.wp Try.prog o a w K Q else E := by
  have hw : Region.wanted o (yielded ops a.tmps) = true := by simp [Region.wanted, hgd]
  rw [if_pos hw]
  exact wp_append_bytes w base v l news s x ho hs hown h c hx hcell hlen hbase hK

theorem wpList_append_bytes {ops : Array Oper} {rest : List Oper} {o : Oper} {a : Act} {Q : Exit → Act → World → Prop} (w : World) (base : Nat) (v : Value) (l news : List UInt8) (hgd : o.guard = none)
    (s x : Operand) (ho : o.op = .call { callee := .builtin .append, args := #[s, x], argTypes := #[34, 34] })
    (hs : a.eval s = v) (hown : OwnB w base v l) (h c : Nat) (hx : a.eval x = .slice (some ⟨h, 0, none⟩) news.length c) (hcell : ∀ j (hj : j < news.length), w.cell? ⟨h, j, none⟩ = some (byteV news[j]))
    (hlen : l.length + news.length ≤ 1000000) (hbase : base ≤ w.heap.size)
    (hK : ∀ v' w', OwnB w' base v' (l ++ news) → Below base w w' → wpList Try.prog ops Q rest (a.put o.dst v') w') : wpList Try.prog ops Q (o :: rest) a w :=
  wpList_plain hgd fun _ hK' => wp_append_bytes w base v l news s x ho hs hown h c hx hcell hlen hbase fun v' w' h1 h2 => hK' _ _ (hK v' w' h1 h2)

/-- The bytes of a block that has just been made. -/
theorem cells_made (w : World) (news : List UInt8) (t : TypeId) : ∀ j (hj : j < news.length), (w.alloc (.cells (news.map byteV).toArray t)).cell? ⟨w.heap.size, j, none⟩ = some (byteV news[j]) := by
  intro j hj
  rw [World.cell?_alloc_mark w (news.map byteV).toArray t (0, 0) j]
  simp [List.getElem?_eq_getElem hj]
theorem cells3 (w : World) (t : TypeId) {a b c : Int} {x y z : UInt8} (ha : a = (x.toNat : Int)) (hb : b = (y.toNat : Int)) (hc : c = (z.toNat : Int)) :
    ∀ j (hj : j < [x, y, z].length), ((w.alloc (.cells #[.int .u8 a, .int .u8 b, .int .u8 c] t)).drew).cell? ⟨w.heap.size, j, none⟩ = some (byteV [x, y, z][j]) := by
  subst ha hb hc
  exact cells_made w [x, y, z] t
theorem OwnB.made {w : World} {base : Nat} {v : Value} {l : List UInt8} (h : OwnB w base v l) (o : Obj) : OwnB (w.alloc o).drew base v l :=
  h.below (Below.drew (Below.alloc (Below.refl w.heap.size w) (Nat.le_refl _) o))
/-- The same as wpList_append_byte, behind a draw. -/
theorem wpList_append_byteD {ops : Array Oper} {rest : List Oper} {o : Oper} {a : Act} {Q : Exit → Act → World → Prop} (w : World) (base : Nat) (v : Value) (l : List UInt8) (c : UInt8) {n : Int} (hn : n = (c.toNat : Int))
    (hgd : o.guard = none) (s x : Operand) (ho : o.op = .call { callee := .builtin .append, args := #[s, x], argTypes := #[34, 34] })
    (hs : a.eval s = v) (hown : OwnB w base v l) (hx : a.eval x = .slice (some ⟨w.heap.size, 0, none⟩) 1 1) (hlen : l.length ≤ 900000) (hbase : base ≤ w.heap.size)
    (h : ∀ v' w', OwnB w' base v' (l ++ [c]) → Below base w w' → wpList Try.prog ops Q rest (a.put o.dst v') w') : wpList Try.prog ops Q (o :: rest) a (w.alloc (.cells #[.int .u8 n] 5)).drew := by
  subst hn
  refine wpList_append_bytes _ base v l [c] hgd s x ho hs (hown.made _) w.heap.size 1 hx (fun j hj => cells_made w [c] 5 j hj) (by simp; omega) (by simp; omega) fun v' w' h1 h2 => h v' w' h1 ?_
  exact (Below.drew (Below.alloc (Below.refl base w) hbase _)).trans h2
end Go.Proofs.Ytmcjljjagfpkkaa
