/-
  Slices of texts: what a value of type []string reads as in a world, and append of one to one that the call has made itself. Conditions: as each theorem states.
-/
import Derived.Test.YtmcjljjagfpkkaaBytes
set_option linter.all false
namespace Go.Proofs.Ytmcjljjagfpkkaa
open Go.RowKit

/-- The slice value v reads as the texts l. -/
def ReadT (w : World) (v : Value) (l : List ByteArray) : Prop :=
  (v = .slice none 0 0 ∧ l = []) ∨
  ∃ g off c, v = .slice (some ⟨g, off, none⟩) l.length c ∧ l.length ≤ c ∧ ∀ j (h : j < l.length), w.cell? ⟨g, off + j, none⟩ = some (.string l[j])

/-- And it is one of the call's own. -/
def OwnT (w : World) (base : Nat) (v : Value) (l : List ByteArray) : Prop := w.ownsRow base 9 1 v l.length (l.map Value.string)

theorem info_str : (Try.prog.info? 9).map (fun i => (i.zero, i.size, i.bytes)) = some (some (.string ByteArray.empty), 1, 16) := by kernel_rfl

theorem ReadT.len {w : World} {v : Value} {l : List ByteArray} (h : ReadT w v l) : ∃ a c, v = .slice a l.length c ∧ l.length ≤ c := by
  rcases h with ⟨rfl, rfl⟩ | ⟨g, off, c, rfl, hc, _⟩
  · exact ⟨none, 0, rfl, Nat.le_refl _⟩
  · exact ⟨_, c, rfl, hc⟩
theorem ReadT.below {w w' : World} {v : Value} {l : List ByteArray} (h : ReadT w v l) (hb : Below w.heap.size w w') : ReadT w' v l := by
  rcases h with h | ⟨g, off, c, hv, hc, hcell⟩
  · exact .inl h
  · refine .inr ⟨g, off, c, hv, hc, fun j hj => ?_⟩
    have h1 := hcell j hj
    have hg : g < w.heap.size := by
      rcases Nat.lt_or_ge g w.heap.size with hlt | hge
      · exact hlt
      · simp [World.cell?, Array.getElem?_eq_none hge] at h1
    exact (hb.cell (p := ⟨g, off + j, none⟩) hg).trans h1
theorem OwnT.nil (w : World) (base : Nat) : OwnT w base (.slice none 0 0) [] := World.ownsRow_nil _ _ _ _
theorem OwnT.read {w : World} {base : Nat} {v : Value} {l : List ByteArray} (h : OwnT w base v l) : ReadT w v l := by
  have h' := h
  obtain ⟨h1, h2⟩ := h
  rcases h2 with ⟨rfl, h3⟩ | ⟨g, cap, cur, rfl, hg, hh, hc, hm, hs, ht⟩
  · exact .inl ⟨rfl, List.length_eq_zero_iff.1 h3⟩
  · refine .inr ⟨g, 0, cap, rfl, hc, fun j hj => ?_⟩
    have := World.ownsRow.cells h' (g := g) rfl j (.string l[j]) (by rw [List.getElem?_map, List.getElem?_eq_getElem hj]; rfl)
    rw [add0] at this
    rw [Nat.zero_add]
    exact this
theorem OwnT.below {w w' : World} {base : Nat} {v : Value} {l : List ByteArray} (h : OwnT w base v l) (hb : Below w.heap.size w w') : OwnT w' base v l := by
  obtain ⟨h1, h2⟩ := h
  refine ⟨h1, ?_⟩
  rcases h2 with h2 | ⟨g, cap, cur, hv, hg, hh, r⟩
  · exact .inl h2
  · exact .inr ⟨g, cap, cur, hv, hg, by rw [hb.block g (Array.getElem?_eq_some_iff.1 hh).1]; exact hh, r⟩
theorem OwnT.mono {w : World} {base base' : Nat} {v : Value} {l : List ByteArray} (h : OwnT w base v l) (hb : base' ≤ base) : OwnT w base' v l := by
  obtain ⟨h1, h2⟩ := h
  refine ⟨h1, ?_⟩
  rcases h2 with h2 | ⟨g, cap, cur, hv, hg, r⟩
  · exact .inl h2
  · exact .inr ⟨g, cap, cur, hv, Nat.le_trans hb hg, r⟩

/-- The first n. -/
theorem ReadT.take {w : World} {g off n c : Nat} {l : List ByteArray} (h : ReadT w (.slice (some ⟨g, off, none⟩) l.length c) l) (hn : n ≤ l.length) : ReadT w (.slice (some ⟨g, off, none⟩) n c) (l.take n) := by
  rcases h with ⟨h, _⟩ | ⟨g', off', c', hv, hc, hcell⟩
  · cases h
  · injection hv with h1 h2 h3
    injection h1 with h1
    injection h1 with h4 h5 h6
    subst h4 h5 h3
    refine .inr ⟨g, off, c, by rw [List.length_take, Nat.min_eq_left hn], by rw [List.length_take]; omega, fun j hj => ?_⟩
    rw [List.length_take] at hj
    rw [hcell j (by omega)]
    simp

/-- 'out = append(out, xs...)', both of texts. -/
theorem run_append_texts {w : World} {base : Nat} {v x : Value} {l m : List ByteArray} (ty : TypeId) (hown : OwnT w base v l) (hx : ReadT w x m) (hlen : l.length + m.length ≤ 1000000) (hbase : base ≤ w.heap.size) :
    ∃ v' w', (Builtin.append_ #[39, 39] ty #[v, x]).run Try.prog w = .ok v' w' ∧ OwnT w' base v' (l ++ m) ∧ Below base w w' := by
  obtain ⟨i0, hi, hz0, hz1, hz2⟩ := info_parts info_str
  rcases hx with ⟨rfl, rfl⟩ | ⟨g, off, c, rfl, hc, hcell⟩
  · refine ⟨v, w, ?_, by simpa using hown, Below.refl _ _⟩
    exact run_append_owned_none (P := Try.prog) (w := w) base 39 ty 9 i0 1 Try.underlying39 hi v l.length (l.map Value.string) hown
  · obtain ⟨v', w', hr, h2, h3, _⟩ := run_append_own (P := Try.prog) w base 39 ty 9 i0 (.string ByteArray.empty) 1 16 Try.underlying39 hi hz0 hz1 hz2 rfl (by decide) v l.length (l.map Value.string) hown
      ⟨g, off, none⟩ m.length c (m.map Value.string) (by simp) (fun j u hu => by
        rw [List.getElem?_map] at hu
        by_cases hj : j < m.length
        · rw [List.getElem?_eq_getElem hj] at hu
          simp at hu
          subst hu
          rw [Addr.add_lit]
          exact hcell j hj
        · rw [List.getElem?_eq_none (by omega)] at hu
          simp at hu) (fun u hu => by
        rw [List.mem_map] at hu
        obtain ⟨s, _, rfl⟩ := hu
        rfl) (by unfold maxLen; omega) (by omega) hbase
    refine ⟨v', w', hr, ?_, (Below.refl _ _).grown h3 hbase fun k hk => (World.ownsRow.lt hown k hk).1⟩
    unfold OwnT
    simpa using h2

theorem wpList_append_texts {ops : Array Oper} {rest : List Oper} {o : Oper} {a : Act} {Q : Exit → Act → World → Prop} {w : World} {base : Nat} {v x : Value} {l m : List ByteArray} (hgd : o.guard = none) (s y : Operand)
    (ho : o.op = .call { callee := .builtin .append, args := #[s, y], argTypes := #[39, 39] }) (hs : a.eval s = v) (hown : OwnT w base v l) (hy : a.eval y = x) (hx : ReadT w x m)
    (hlen : l.length + m.length ≤ 1000000) (hbase : base ≤ w.heap.size)
    (h : ∀ v' w', OwnT w' base v' (l ++ m) → Below base w w' → wpList Try.prog ops Q rest (a.put o.dst v') w') : wpList Try.prog ops Q (o :: rest) a w := by
  refine wpList_plain hgd fun K hK => ?_
  obtain ⟨v', w', hr, h2, h3⟩ := run_append_texts o.type hown hx hlen hbase
  unfold Oper.wp execOp
  simp only [ho, resolve, invoke, builtin, Sem.run_bind, Sem.run_pure, Result.andThen_ok, List.map_toArray, List.map_cons, List.map_nil, hs, hy, hr]
  exact hK _ _ (h v' w' h2 h3)
end Go.Proofs.Ytmcjljjagfpkkaa
