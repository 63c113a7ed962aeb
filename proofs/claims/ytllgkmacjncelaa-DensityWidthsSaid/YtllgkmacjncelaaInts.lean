/-
  Slices of ints: what a value of type []int reads as, and append of one to a slice that the call has made itself. Conditions: as each theorem states.
-/
import Derived.Test.YtllgkmacjncelaaBytes
import Derived.Maps.AppendAt
set_option linter.all false
namespace Go.Proofs.Ytllgkmacjncelaa
open Go.RowKit
def intV (n : Int) : Value := .int .i64 n
def ReadI (w : World) (v : Value) (l : List Int) : Prop :=
  (v = .slice none 0 0 ∧ l = []) ∨
  ∃ g off c, v = .slice (some ⟨g, off, none⟩) l.length c ∧ l.length ≤ c ∧ ∀ j (h : j < l.length), w.cell? ⟨g, off + j, none⟩ = some (.int .i64 l[j])
def OwnI (w : World) (base : Nat) (v : Value) (l : List Int) : Prop := w.ownsRow base 3 1 v l.length (l.map intV)
theorem info_int : (Try.prog.info? 3).map (fun i => (i.zero, i.size, i.bytes)) = some (some (.int .i64 0), 1, 8) := by kernel_rfl
theorem ReadI.len {w : World} {v : Value} {l : List Int} (h : ReadI w v l) : ∃ a c, v = .slice a l.length c ∧ l.length ≤ c := by
  rcases h with ⟨rfl, rfl⟩ | ⟨g, off, c, rfl, hc, _⟩
  · exact ⟨none, 0, rfl, Nat.le_refl _⟩
  · exact ⟨_, c, rfl, hc⟩
theorem ReadI.below {w w' : World} {v : Value} {l : List Int} (h : ReadI w v l) (hb : Below w.heap.size w w') : ReadI w' v l := by
  rcases h with h | ⟨g, off, c, hv, hc, hcell⟩
  · exact .inl h
  · refine .inr ⟨g, off, c, hv, hc, fun j hj => ?_⟩
    have h1 := hcell j hj
    have hg : g < w.heap.size := by
      rcases Nat.lt_or_ge g w.heap.size with hlt | hge
      · exact hlt
      · simp [World.cell?, Array.getElem?_eq_none hge] at h1
    exact (hb.cell (p := ⟨g, off + j, none⟩) hg).trans h1
theorem ReadI.cellAt {w : World} {A : Option Addr} {n c k : Nat} {l : List Int} (h : ReadI w (.slice A n c) l) (hk : k < l.length) :
    ∃ g off, A = some ⟨g, off, none⟩ ∧ ∀ i, i < l.length → w.cell? ⟨g, off + i, none⟩ = some (.int .i64 (l.getD i 0)) := by
  rcases h with ⟨h, rfl⟩ | ⟨g, off, c', hv, hc, hcell⟩
  · simp at hk
  · injection hv with h1 h2 h3
    refine ⟨g, off, h1, fun i hi => ?_⟩
    rw [hcell i hi, List.getD_eq_getElem?_getD, List.getElem?_eq_getElem hi]; rfl
theorem OwnI.nil (w : World) (base : Nat) : OwnI w base (.slice none 0 0) [] := World.ownsRow_nil _ _ _ _
theorem OwnI.read {w : World} {base : Nat} {v : Value} {l : List Int} (h : OwnI w base v l) : ReadI w v l := by
  have h' := h
  obtain ⟨h1, h2⟩ := h
  rcases h2 with ⟨rfl, h3⟩ | ⟨g, cap, cur, rfl, hg, hh, hc, hm, hs, ht⟩
  · exact .inl ⟨rfl, List.length_eq_zero_iff.1 h3⟩
  · refine .inr ⟨g, 0, cap, rfl, hc, fun j hj => ?_⟩
    have := World.ownsRow.cells h' (g := g) rfl j (.int .i64 l[j]) (by rw [List.getElem?_map, List.getElem?_eq_getElem hj]; rfl)
    rw [add0] at this
    rw [Nat.zero_add]
    exact this
theorem OwnI.kept {w w' : World} {base : Nat} {v : Value} {l : List Int} (h : OwnI w base v l) (hb : ∀ g, base ≤ g → g < w.heap.size → w'.heap[g]? = w.heap[g]?) : OwnI w' base v l := by
  obtain ⟨h1, h2⟩ := h
  refine ⟨h1, ?_⟩
  rcases h2 with h2 | ⟨g, cap, cur, hv, hg, hh, r⟩
  · exact .inl h2
  · exact .inr ⟨g, cap, cur, hv, hg, by rw [hb g hg (Array.getElem?_eq_some_iff.1 hh).1]; exact hh, r⟩
theorem OwnI.below {w w' : World} {base : Nat} {v : Value} {l : List Int} (h : OwnI w base v l) (hb : Below w.heap.size w w') : OwnI w' base v l :=
  h.kept fun g _ hg => hb.block g hg
theorem OwnI.mono {w : World} {base base' : Nat} {v : Value} {l : List Int} (h : OwnI w base v l) (hb : base' ≤ base) : OwnI w base' v l := by
  obtain ⟨h1, h2⟩ := h
  refine ⟨h1, ?_⟩
  rcases h2 with h2 | ⟨g, cap, cur, hv, hg, r⟩
  · exact .inl h2
  · exact .inr ⟨g, cap, cur, hv, Nat.le_trans hb hg, r⟩
theorem OwnI.len {w : World} {base : Nat} {v : Value} {l : List Int} (h : OwnI w base v l) : ∃ a c, v = .slice a l.length c := by
  obtain ⟨A, c, h, _⟩ := h.read.len
  exact ⟨A, c, h⟩
/-- 'out = append(out, n)'. -/
theorem wpList_append_int {ops : Array Oper} {rest : List Oper} {o : Oper} {a : Act} {Q : Exit → Act → World → Prop} (w : World) (base : Nat) (v : Value) (l : List Int) (n : Int)
    (hgd : o.guard = none) (s x : Operand) (ho : o.op = .call { callee := .builtin .append, args := #[s, x], argTypes := #[33, 33] })
    (hs : a.eval s = v) (hown : OwnI w base v l) (hx : a.eval x = .slice (some ⟨w.heap.size, 0, none⟩) 1 1) (hlen : l.length ≤ 1000000) (hbase : base ≤ w.heap.size)
    (h : ∀ v' w', OwnI w' base v' (l ++ [n]) → Below base w w' → wpList Try.prog ops Q rest (a.put o.dst v') w') : wpList Try.prog ops Q (o :: rest) a (w.alloc (.cells #[.int .i64 n] 3)) := by
  obtain ⟨i0, hi, hz0, hz1, hz2⟩ := info_parts info_int
  refine wpList_append_own _ hgd s x 33 ho base 3 i0 (.int .i64 0) 1 8 Try.underlying33 hi hz0 hz1 hz2 rfl (by decide) v l.length (l.map intV) hs (World.ownsRow.alloc hown _) ⟨w.heap.size, 0, none⟩ 1 1 [intV n] hx rfl
    ?_ ?_ (by unfold maxLen; omega) (by omega) (by simp; omega) fun v' w' h1 h2 _ => ?_
  · intro j u hj
    match j, hj with
    | 0, hj => simp at hj; subst hj; exact World.cell?_alloc_mark w #[intV n] 3 (0, 0) 0
  · intro u hu; simp at hu; subst hu; rfl
  · refine h v' w' ?_ ?_
    · unfold OwnI; simpa using h1
    · have hb1 : Below base w (w.alloc (.cells #[.int .i64 n] 3)) := (Below.refl _ _).alloc hbase _
      exact hb1.grown h2 (by simp; omega) (fun k hk => (World.ownsRow.lt hown k hk).1)
end Go.Proofs.Ytllgkmacjncelaa
