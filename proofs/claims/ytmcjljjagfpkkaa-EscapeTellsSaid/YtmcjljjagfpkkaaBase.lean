/-
  Lemmas on bytes that lie in a block, on small letters and on what a call leaves as it was; no program stands in them but for names. Conditions: as each theorem states.
-/
import Derived.WalkKit
import Derived.WalkLawsBesides
import Derived.ShutString
import Derived.Laws.IdiomStrings
set_option linter.all false
namespace Go.Proofs.Ytmcjljjagfpkkaa
open Go.RowKit

/-- The bytes l lie in block b from its first cell on, and may be written. -/
def BytesAt (w : World) (b : Nat) (l : List UInt8) : Prop :=
  ∀ j (h : j < l.length), w.cell? ⟨b, j, none⟩ = some (.int .u8 (l[j].toNat : Int)) ∧ w.frozen? ⟨b, j, none⟩ = false

theorem BytesAt.drew {w : World} {b : Nat} {l : List UInt8} (h : BytesAt w b l) : BytesAt w.drew b l := h

theorem BytesAt.set {w : World} {b : Nat} {l : List UInt8} (h : BytesAt w b l) {k : Nat} (hk : k < l.length) (c : UInt8) :
    BytesAt (w.setCell ⟨b, k, none⟩ (.int .u8 (c.toNat : Int))) b (l.set k c) := by
  intro j hj
  simp only [List.length_set] at hj
  obtain ⟨h1, h2⟩ := h j hj
  refine ⟨?_, ?_⟩
  · by_cases e : j = k
    · subst e
      have hc := World.cell?_setCell_same w ⟨b, j, none⟩ (Value.int .u8 (c.toNat : Int)) h1
      simpa using hc
    · have hc := World.cell?_setCell_other w ⟨b, k, none⟩ ⟨b, j, none⟩ (Value.int .u8 (c.toNat : Int)) (by intro hh; injection hh with _ h2; omega)
      rw [hc, h1, List.getElem_set_ne (by omega)]
  · simpa using h2

theorem hid {p : Prop} (h : p) : Hid p := h

/-- A byte in small letters. -/
def lowB (c : UInt8) : UInt8 := if 65 ≤ c.toNat ∧ c.toNat ≤ 90 then c + 32 else c
def lowL (l : List UInt8) : List UInt8 := l.map lowB
/-- The first k bytes in small letters, the others as they are. -/
def lowPart (l : List UInt8) (k : Nat) : List UInt8 := (l.take k).map lowB ++ l.drop k

theorem lowPart_length (l : List UInt8) (k : Nat) : (lowPart l k).length = l.length := by
  simp [lowPart]; omega
theorem lowPart_zero (l : List UInt8) : lowPart l 0 = l := by simp [lowPart]
theorem lowPart_all (l : List UInt8) : lowPart l l.length = lowL l := by simp [lowPart, lowL]
theorem lowPart_get (l : List UInt8) (k : Nat) (h : k < l.length) : (lowPart l k)[k]'(by rw [lowPart_length]; exact h) = l[k] := by
  have hm : min k l.length = k := by omega
  simp [lowPart, List.getElem_append, hm]
theorem lowPart_succ (l : List UInt8) (k : Nat) (h : k < l.length) : lowPart l (k + 1) = (lowPart l k).set k (lowB l[k]) := by
  have hl : ((l.take k).map lowB).length = k := by simp; omega
  unfold lowPart
  rw [List.take_succ_eq_append_getElem h, List.drop_eq_getElem_cons h]
  rw [List.set_append_right _ _ (by omega), hl]
  simp only [List.map_append, List.map_cons, List.map_nil, Nat.sub_self, List.set_cons_zero, List.append_assoc, List.cons_append, List.nil_append]
theorem lowB_up {c : UInt8} (h : 65 ≤ c.toNat ∧ c.toNat ≤ 90) : ((lowB c).toNat : Int) = (c.toNat : Int) - 65 + 97 := by
  unfold lowB
  rw [if_pos h]
  simp [UInt8.toNat_add]
  omega
theorem lowB_not {c : UInt8} (h : ¬ (65 ≤ c.toNat ∧ c.toNat ≤ 90)) : lowB c = c := by
  unfold lowB
  rw [if_neg h]
theorem lowPart_not (l : List UInt8) (k : Nat) (h : k < l.length) (hn : ¬ (65 ≤ l[k].toNat ∧ l[k].toNat ≤ 90)) : lowPart l (k + 1) = lowPart l k := by
  rw [lowPart_succ l k h, lowB_not hn, ← lowPart_get l k h]
  exact List.set_getElem_self _

theorem bytesAt_made (s : ByteArray) (w : World) (c : Nat) (t : TypeId) : BytesAt (w.alloc (.cells (bytesRow s c) t ((bytesRow s c).size, (bytesRow s c).size + 1))).drew w.heap.size s.data.toList := by
  intro j hj
  have hj' : j < s.data.size := by simpa using hj
  have hlt : j < (bytesRow s c).size := by unfold bytesRow; simp only [Array.size_append, Array.size_map]; omega
  have h1 := World.cell?_alloc_mark w (bytesRow s c) t ((bytesRow s c).size, (bytesRow s c).size + 1) j
  rw [bytesRow_at s c j hj'] at h1
  have h2 := World.frozen?_alloc_mark w (bytesRow s c) t (bytesRow s c).size ((bytesRow s c).size + 1) j
  refine ⟨?_, ?_⟩
  · exact h1
  · have : decide ((bytesRow s c).size ≤ j) = false := by simp; omega
    rw [this] at h2
    exact h2

theorem add0 (b j : Nat) : (⟨b, 0, none⟩ : Addr).add j = ⟨b, j, none⟩ := by
  unfold Addr.add
  split
  · next h => rw [h]
  · simp

theorem Below.made (s : ByteArray) (w : World) (c : Nat) (t : TypeId) : Below w.heap.size w (w.alloc (.cells (bytesRow s c) t ((bytesRow s c).size, (bytesRow s c).size + 1))).drew :=
  ((Below.refl _ _).alloc (Nat.le_refl _) _).drew

end Go.Proofs.Ytmcjljjagfpkkaa
