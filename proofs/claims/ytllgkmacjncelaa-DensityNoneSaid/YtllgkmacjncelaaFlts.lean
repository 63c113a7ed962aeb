/-
  Slices of floats that the call has made itself, and append to them. Conditions: as each theorem states.
-/
import Derived.Test.YtllgkmacjncelaaFloatOps
set_option linter.all false
namespace Go.Proofs.Ytllgkmacjncelaa
open Go.RowKit
/-- And it is one of the call's own. -/
def OwnF (w : World) (base : Nat) (v : Value) (l : List Nat) : Prop := w.ownsRow base 30 1 v l.length (l.map (Value.float .f64))

theorem info_flt : (Try.prog.info? 30).map (fun i => (i.zero, i.size, i.bytes)) = some (some (.float .f64 0), 1, 8) := by kernel_rfl

theorem OwnF.nil (w : World) (base : Nat) : OwnF w base (.slice none 0 0) [] := World.ownsRow_nil _ _ _ _
theorem OwnF.read {w : World} {base : Nat} {v : Value} {l : List Nat} (h : OwnF w base v l) : ReadF w v l := by
  have h' := h
  obtain ⟨h1, h2⟩ := h
  rcases h2 with ⟨rfl, h3⟩ | ⟨g, cap, cur, rfl, hg, hh, hc, hm, hs, ht⟩
  · exact .inl ⟨rfl, List.length_eq_zero_iff.1 h3⟩
  · refine .inr ⟨g, 0, cap, rfl, hc, fun j hj => ?_⟩
    have := World.ownsRow.cells h' (g := g) rfl j (.float .f64 l[j]) (by rw [List.getElem?_map, List.getElem?_eq_getElem hj]; rfl)
    rw [add0] at this
    rw [Nat.zero_add]
    exact this
theorem OwnF.below {w w' : World} {base : Nat} {v : Value} {l : List Nat} (h : OwnF w base v l) (hb : Below w.heap.size w w') : OwnF w' base v l := by
  obtain ⟨h1, h2⟩ := h
  refine ⟨h1, ?_⟩
  rcases h2 with h2 | ⟨g, cap, cur, hv, hg, hh, r⟩
  · exact .inl h2
  · exact .inr ⟨g, cap, cur, hv, hg, by rw [hb.block g (Array.getElem?_eq_some_iff.1 hh).1]; exact hh, r⟩
theorem OwnF.mono {w : World} {base base' : Nat} {v : Value} {l : List Nat} (h : OwnF w base v l) (hb : base' ≤ base) : OwnF w base' v l := by
  obtain ⟨h1, h2⟩ := h
  refine ⟨h1, ?_⟩
  rcases h2 with h2 | ⟨g, cap, cur, hv, hg, r⟩
  · exact .inl h2
  · exact .inr ⟨g, cap, cur, hv, Nat.le_trans hb hg, r⟩

/-- The first n. -/
theorem ReadF.take {w : World} {g off n c : Nat} {l : List Nat} (h : ReadF w (.slice (some ⟨g, off, none⟩) l.length c) l) (hn : n ≤ l.length) : ReadF w (.slice (some ⟨g, off, none⟩) n c) (l.take n) := by
  rcases h with ⟨h, _⟩ | ⟨g', off', c', hv, hc, hcell⟩
  · cases h
  · injection hv with h1 h2 h3
    injection h1 with h1
    injection h1 with h4 h5 h6
    subst h4 h5 h3
    refine .inr ⟨g, off, c, by rw [List.length_take, Nat.min_eq_left hn], by rw [List.length_take]; omega, fun j hj => ?_⟩
    rw [List.length_take] at hj
    rw [hcell j (by omega)]
    simp

/-- 'out = append(out, xs...)', both of flts. -/
theorem run_append_flts {w : World} {base : Nat} {v x : Value} {l m : List Nat} (ty : TypeId) (hown : OwnF w base v l) (hx : ReadF w x m) (hlen : l.length + m.length ≤ 1000000) (hbase : base ≤ w.heap.size) :
    ∃ v' w', (Builtin.append_ #[29, 29] ty #[v, x]).run Try.prog w = .ok v' w' ∧ OwnF w' base v' (l ++ m) ∧ Below base w w' := by
  obtain ⟨i0, hi, hz0, hz1, hz2⟩ := info_parts info_flt
  rcases hx with ⟨rfl, rfl⟩ | ⟨g, off, c, rfl, hc, hcell⟩
  · refine ⟨v, w, ?_, by simpa using hown, Below.refl _ _⟩
    exact run_append_owned_none (P := Try.prog) (w := w) base 29 ty 30 i0 1 Try.underlying29 hi v l.length (l.map (Value.float .f64)) hown
  · obtain ⟨v', w', hr, h2, h3, _⟩ := run_append_own (P := Try.prog) w base 29 ty 30 i0 (.float .f64 0) 1 8 Try.underlying29 hi hz0 hz1 hz2 rfl (by decide) v l.length (l.map (Value.float .f64)) hown
      ⟨g, off, none⟩ m.length c (m.map (Value.float .f64)) (by simp) (fun j u hu => by
        rw [List.getElem?_map] at hu
        by_cases hj : j < m.length
        · rw [List.getElem?_eq_getElem hj] at hu
          simp at hu
          subst hu
          rw [Addr.add_lit]
          exact hcell j hj
        · rw [List.getElem?_eq_none (by omega)] at hu
          simp at hu) (fun u hu => by
        rw [List.mem_map] at hu
        obtain ⟨s, _, rfl⟩ := hu
        rfl) (by unfold maxLen; omega) (by omega) hbase
    refine ⟨v', w', hr, ?_, (Below.refl _ _).grown h3 hbase fun k hk => (World.ownsRow.lt hown k hk).1⟩
    unfold OwnF
    simpa using h2

theorem wpList_append_flts {ops : Array Oper} {rest : List Oper} {o : Oper} {a : Act} {Q : Exit → Act → World → Prop} {w : World} {base : Nat} {v x : Value} {l m : List Nat} (hgd : o.guard = none) (s y : Operand)
    (ho : o.op = .call { callee := .builtin .append, args := #[s, y], argTypes := #[29, 29] }) (hs : a.eval s = v) (hown : OwnF w base v l) (hy : a.eval y = x) (hx : ReadF w x m)
    (hlen : l.length + m.length ≤ 1000000) (hbase : base ≤ w.heap.size)
    (h : ∀ v' w', OwnF w' base v' (l ++ m) → Below base w w' → wpList Try.prog ops Q rest (a.put o.dst v') w') : wpList Try.prog ops Q (o :: rest) a w := by
  refine wpList_plain hgd fun K hK => ?_
  obtain ⟨v', w', hr, h2, h3⟩ := run_append_flts o.type hown hx hlen hbase
  unfold Oper.wp execOp
  simp only [ho, resolve, invoke, builtin, Sem.run_bind, Sem.run_pure, Result.andThen_ok, List.map_toArray, List.map_cons, List.map_nil, hs, hy, hr]
  exact hK _ _ (h v' w' h2 h3)
/-- What '[]float{}' makes. -/
theorem OwnF.empty (w : World) : OwnF (w.alloc (.cells #[] 30)) w.heap.size (.slice (some ⟨w.heap.size, 0, none⟩) 0 0) [] :=
  World.ownsRow_lit w #[] 0 (Nat.le_refl _) (Nat.zero_le _) (by simp)
theorem alloc_below (w : World) (o : Obj) : Below w.heap.size w (w.alloc o) := (Below.refl _ _).alloc (Nat.le_refl _) o
theorem ReadF.drop {w : World} {g off c : Nat} {l : List Nat} (h : ReadF w (.slice (some ⟨g, off, none⟩) l.length c) l) {n : Nat} (hn : n ≤ l.length) : ReadF w (.slice (some ⟨g, off + n, none⟩) (l.length - n) (c - n)) (l.drop n) := by
  rcases h with ⟨h, _⟩ | ⟨g', off', c', hv, hc, hcell⟩
  · cases h
  · injection hv with h1 h2 h3
    injection h1 with h1
    injection h1 with h4 h5 h6
    subst h4 h5 h3
    refine .inr ⟨g, off + n, c - n, by rw [List.length_drop], by rw [List.length_drop]; omega, fun j hj => ?_⟩
    rw [List.length_drop] at hj
    have := hcell (n + j) (by omega)
    rw [← Nat.add_assoc] at this
    rw [this]
    simp
end Go.Proofs.Ytllgkmacjncelaa
