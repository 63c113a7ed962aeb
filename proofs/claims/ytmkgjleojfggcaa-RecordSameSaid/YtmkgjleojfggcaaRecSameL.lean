/-
  Addresses that are the same, and copies of them with one field turned. Conditions: as each theorem states.
-/
import Derived.Test.YtmkgjleojfggcaaRecUrl
import Derived.Laws.BitsAllLaws
set_option linter.all false
namespace Go.Proofs.Ytmkgjleojfggcaa
open Go.RowKit
theorem Url.same_iff (u v : Url) : u.same v = true ↔ (u.scheme.toList = v.scheme.toList ∧ u.user.toList = v.user.toList ∧ u.pass.toList = v.pass.toList ∧ u.kind = v.kind ∧ u.name.toList = v.name.toList ∧ u.four = v.four ∧ u.x0 = v.x0 ∧ u.x1 = v.x1 ∧ u.x2 = v.x2 ∧ u.x3 = v.x3 ∧ u.x4 = v.x4 ∧ u.x5 = v.x5 ∧ u.x6 = v.x6 ∧ u.x7 = v.x7 ∧ u.hasPort = v.hasPort ∧ u.port = v.port ∧ u.opq = v.opq ∧ u.flat.toList = v.flat.toList ∧ u.path = v.path ∧ u.hasQuery = v.hasQuery ∧ u.query.toList = v.query.toList ∧ u.hasFrag = v.hasFrag ∧ u.frag.toList = v.frag.toList) := by
  simp only [Url.same, Bool.and_eq_true, beq_iff_eq, decide_eq_true_eq]
theorem Url.same_comm (u v : Url) : u.same v = v.same u := by
  rw [Bool.eq_iff_iff, Url.same_iff, Url.same_iff]
  constructor
  · rintro ⟨h0, h1, h2, h3, h4, h5, h6, h7, h8, h9, h10, h11, h12, h13, h14, h15, h16, h17, h18, h19, h20, h21, h22⟩
    exact ⟨h0.symm, h1.symm, h2.symm, h3.symm, h4.symm, h5.symm, h6.symm, h7.symm, h8.symm, h9.symm, h10.symm, h11.symm, h12.symm, h13.symm, h14.symm, h15.symm, h16.symm, h17.symm, h18.symm, h19.symm, h20.symm, h21.symm, h22.symm⟩
  · rintro ⟨h0, h1, h2, h3, h4, h5, h6, h7, h8, h9, h10, h11, h12, h13, h14, h15, h16, h17, h18, h19, h20, h21, h22⟩
    exact ⟨h0.symm, h1.symm, h2.symm, h3.symm, h4.symm, h5.symm, h6.symm, h7.symm, h8.symm, h9.symm, h10.symm, h11.symm, h12.symm, h13.symm, h14.symm, h15.symm, h16.symm, h17.symm, h18.symm, h19.symm, h20.symm, h21.symm, h22.symm⟩
theorem Url.same_trans {u v x : Url} (d1 : u.same v = true) (d2 : v.same x = true) : u.same x = true := by
  rw [Url.same_iff] at d1 d2 ⊢
  obtain ⟨h0, h1, h2, h3, h4, h5, h6, h7, h8, h9, h10, h11, h12, h13, h14, h15, h16, h17, h18, h19, h20, h21, h22⟩ := d1
  obtain ⟨k0, k1, k2, k3, k4, k5, k6, k7, k8, k9, k10, k11, k12, k13, k14, k15, k16, k17, k18, k19, k20, k21, k22⟩ := d2
  exact ⟨h0.trans k0, h1.trans k1, h2.trans k2, h3.trans k3, h4.trans k4, h5.trans k5, h6.trans k6, h7.trans k7, h8.trans k8, h9.trans k9, h10.trans k10, h11.trans k11, h12.trans k12, h13.trans k13, h14.trans k14, h15.trans k15, h16.trans k16, h17.trans k17, h18.trans k18, h19.trans k19, h20.trans k20, h21.trans k21, h22.trans k22⟩
theorem not_same {u v : Url} (h : ¬ u.same v = true) : u.same v = false := by simpa using h
def Url.withFrag (u : Url) (f : ByteArray) : Url := { u with frag := f }
def Url.withPath (u : Url) (pv : Value) (p : List ByteArray) : Url := { u with pathV := pv, path := p }
def Url.withQuery (u : Url) (b : Bool) : Url := { u with hasQuery := b }
def Url.withSix (u : Url) (n : Int) : Url := { u with x3 := n }
theorem same_frag (u : Url) : u.same (u.withFrag (u.frag ++ ⟨#[97]⟩)) = false := by
  refine not_same fun h => ?_
  have := ((Url.same_iff _ _).1 h).2.2.2.2.2.2.2.2.2.2.2.2.2.2.2.2.2.2.2.2.2.2
  simp only [Url.withFrag, ByteArray.toList_eq] at this
  have hl := congrArg List.length this
  simp at hl
theorem same_path (u : Url) (pv : Value) (s : ByteArray) : u.same (u.withPath pv (u.path ++ [s])) = false := by
  refine not_same fun h => ?_
  have := ((Url.same_iff _ _).1 h).2.2.2.2.2.2.2.2.2.2.2.2.2.2.2.2.2.2.1
  simp only [Url.withPath] at this
  have hl := congrArg List.length this
  simp at hl
theorem same_query (u : Url) : u.same (u.withQuery (!u.hasQuery)) = false := by
  refine not_same fun h => ?_
  have := ((Url.same_iff _ _).1 h).2.2.2.2.2.2.2.2.2.2.2.2.2.2.2.2.2.2.2.1
  simp only [Url.withQuery] at this
  cases hq : u.hasQuery <;> rw [hq] at this <;> cases this
theorem xor_one (n : Int) : bits .xor .u16 n 1 ≠ n := by
  intro h
  have hw : bits .xor .u16 n 1 = IntKind.u16.wrap ((BitVec.ofInt 16 n ^^^ BitVec.ofInt 16 1).toNat : Int) := rfl
  have h1 : (BitVec.ofInt 16 n ^^^ BitVec.ofInt 16 1).toNat < 2 ^ 16 := BitVec.isLt _
  rw [hw, IntKind.wrap_u16] at h
  have h2 : n = ((BitVec.ofInt 16 n ^^^ BitVec.ofInt 16 1).toNat : Int) := by omega
  have h3 : BitVec.ofInt 16 n = BitVec.ofInt 16 n ^^^ BitVec.ofInt 16 1 := by
    apply BitVec.eq_of_toNat_eq
    have : (BitVec.ofInt 16 n).toNat = (n % 65536).toNat := by simp [BitVec.toNat_ofInt]
    omega
  have h4 : BitVec.ofInt 16 1 = 0#16 := by
    have := congrArg (fun b => BitVec.ofInt 16 n ^^^ b) h3
    simp only [← BitVec.xor_assoc, BitVec.xor_self, BitVec.zero_xor] at this
    exact this.symm
  exact absurd h4 (by decide)
theorem same_six (u : Url) : u.same (u.withSix (bits .xor .u16 u.x3 1)) = false := by
  refine not_same fun h => ?_
  have := ((Url.same_iff _ _).1 h).2.2.2.2.2.2.2.2.2.1
  simp only [Url.withSix] at this
  exact xor_one u.x3 this.symm
theorem Url.cells_one {w : World} {u : Url} (h : ReadT w u.pathV u.path) : u.cells.all (·.oneCell') = true := by
  obtain ⟨A, c, hA, _⟩ := h.len
  simp [Url.cells, hA, Value.oneCell']
theorem frozen_row {w : World} {g j : Nat} {c : Array Value} {t : TypeId} (h : w.heap[g]? = some (.cells c t)) : w.frozen? ⟨g, j, none⟩ = false := by
  simp [World.frozen?, h]
theorem cell_url {w : World} {g : Nat} {u : Url} (h : w.heap[g]? = some (.cells u.cells 33)) (j : Nat) (v : Value) (hv : u.cells[j]? = some v) : w.cell? ⟨g, j, none⟩ = some v := by
  rw [cell_of_row _ _ j u.cells 33 (0, 0) h]; exact hv
/-- one cell of a block that lies behind is stored anew -/
theorem set_url {w0 w : World} {g j : Nat} {c : Array Value} {v : Value} (hX : Below w0.heap.size w0 w) (hg : w0.heap.size ≤ g) (hh : w.heap[g]? = some (.cells c 33)) :
    Below w0.heap.size w0 (w.setCell ⟨g, j, none⟩ v) ∧ (w.setCell ⟨g, j, none⟩ v).heap[g]? = some (.cells (c.setIfInBounds j v) 33) :=
  ⟨hX.setCell (p := ⟨g, j, none⟩) hg v, heap_setCell_same w g j c 33 v hh⟩
theorem OwnT.setOther {w : World} {base : Nat} {v : Value} {l : List ByteArray} (h : OwnT w base v l) {a : Addr} (ha : a.block < base) (u : Value) : OwnT (w.setCell a u) base v l := ownsRow_setCell_below h ha u
end Go.Proofs.Ytmkgjleojfggcaa
