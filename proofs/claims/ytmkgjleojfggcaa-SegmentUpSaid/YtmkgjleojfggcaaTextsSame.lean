/-
  The contracts of the document's Same and of slices.Equal, at slices of texts. Conditions: at most 100000 pieces.
-/
import Derived.Test.YtmkgjleojfggcaaTexts
import Derived.Test.YtmkgjleojfggcaaShelf
import Derived.Test.YtmkgjleojfggcaaDigit
set_option linter.all false
namespace Go.Proofs.Ytmkgjleojfggcaa
open Go.RowKit

theorem take_snoc {l m : List ByteArray} {k : Nat} (hl : k < l.length) (hm : k < m.length) (h : l.take k = m.take k) (he : l[k] = m[k]) : l.take (k + 1) = m.take (k + 1) := by
  rw [List.take_succ_eq_append_getElem hl, List.take_succ_eq_append_getElem hm, h, he]
theorem str_ne {x y : ByteArray} (h : x ≠ y) : (x.toList == y.toList) = false := by
  simp only [beq_eq_false_iff_ne, ne_eq]
  intro e
  rw [ByteArray.toList_eq, ByteArray.toList_eq] at e
  apply h
  apply ByteArray.ext
  exact Array.toList_inj.1 e

theorem ReadT.cellAt {w : World} {A : Option Addr} {n c k : Nat} {l : List ByteArray} (h : ReadT w (.slice A n c) l) (hk : k < l.length) :
    ∃ g off, A = some ⟨g, off, none⟩ ∧ w.cell? ⟨g, off + k, none⟩ = some (.string l[k]) := by
  rcases h with ⟨h, rfl⟩ | ⟨g, off, c', hv, hc, hcell⟩
  · simp at hk
  · injection hv with h1 h2 h3
    exact ⟨g, off, h1, hcell k hk⟩

set_option maxHeartbeats 2000000 in
theorem refSame_calls (v x : Value) (l m : List ByteArray) (w : World) (hv : ReadT w v l) (hx : ReadT w x m) (hl : l.length ≤ 100000) (hm : m.length ≤ 100000) :
    Calls Try.prog 37 #[v, x] w fun e w' => e = .returned (.bool (decide (l = m))) ∧ Below w.heap.size w w' := by
  obtain ⟨A, c, rfl, hc⟩ := hv.len
  obtain ⟨B, d, rfl, hd⟩ := hx.len
  by_cases hne : l.length = m.length
  · have hlm : Hid (l.length = m.length) := hid hne
    go_enter Try.func37, Try.ntmps37
    rw [← hne]
    rw [← hne] at hx hd hm
    clear hne
    go_wp2_with fail
    go_loopw [5] (fun i wr => ∃ k : Nat, k ≤ l.length ∧ i = .int .i64 k ∧ Hid (l.take k = m.take k) ∧ Below w.heap.size w wr) (fun i _ => l.length - (intOf i).toNat)
    case atStart => exact ⟨0, Nat.zero_le _, rfl, hid (by simp), Below.refl _ _⟩
    case round =>
      obtain ⟨k, hk, rfl, htk, hbw⟩ := hrel
      by_cases hlt : k < l.length
      · have hkm : k < m.length := by rw [← hlm.out]; exact hlt
        obtain ⟨g, off, rfl, c1⟩ := (hv.below hbw).cellAt hlt
        obtain ⟨g', off', rfl, c2⟩ := (hx.below hbw).cellAt hkm
        have hv1 := hid hv
        have hx1 := hid hx
        clear hv hx
        by_cases he : l[k] = m[k]
        · have hs : Hid (l.take (k + 1) = m.take (k + 1)) := hid (take_snoc hlt hkm htk.out he)
          generalize l[k] = y at *
          generalize m[k] = z at *
          subst he
          go_wp2_with fail
          go_region
          go_wp2_with fail
          go_roundw
          case rel => exact ⟨k + 1, by omega, by go_num, hs, hbw.drew⟩
          case measure => simp [intOf]; omega
        · have hs : Hid (l ≠ m) := hid (fun e => he (by subst e; rfl))
          have he2 := str_ne he
          generalize l[k] = y at *
          generalize m[k] = z at *
          go_wp2_with fail
          go_region
          go_wp2_with fail
          go_ret
          exact ⟨ret_bool (by simp [hs.out]), hbw.drew⟩
      · obtain rfl : k = l.length := by omega
        have hs : l = m := by
          have := htk.out
          rw [List.take_length, hlm.out, List.take_length] at this
          exact this
        have HS := hid hs
        clear hs
        go_wp2_with fail
        go_ret
        exact ⟨ret_bool (by simp [HS.out]), hbw⟩
  · have hs : Hid (l ≠ m) := hid (fun e => hne (by rw [e]))
    have hne2 : ((l.length : Int) == (m.length : Int)) = false := by simp; omega
    clear hne
    go_enter Try.func37, Try.ntmps37
    go_wp2_with fail
    go_ret
    exact ⟨ret_bool (by simp [hs.out]), Below.refl _ _⟩

theorem ReadT.cells {w : World} {A : Option Addr} {n c : Nat} {l : List ByteArray} (h : ReadT w (.slice A n c) l) (hk : 0 < l.length) :
    ∃ g off, A = some ⟨g, off, none⟩ ∧ ∀ j, j < l.length → w.cell? ⟨g, off + j, none⟩ = some (.string (l.getD j ByteArray.empty)) := by
  rcases h with ⟨h, rfl⟩ | ⟨g, off, c', hv, hc, hcell⟩
  · simp at hk
  · injection hv with h1 h2 h3
    refine ⟨g, off, h1, fun j hj => ?_⟩
    rw [hcell j hj]
    simp [List.getD, hj]

set_option maxHeartbeats 1000000 in
theorem equal_calls (v x : Value) (l m : List ByteArray) (w : World) (hv : ReadT w v l) (hx : ReadT w x m) (hl : l.length ≤ 100000) (hm : m.length ≤ 100000) :
    Calls Try.prog 60 #[v, x] w fun e w' => e = .returned (.bool (decide (l = m))) ∧ Below w.heap.size w w' := by
  obtain ⟨A, c, rfl, hc⟩ := hv.len
  obtain ⟨B, d, rfl, hd⟩ := hx.len
  by_cases hne : l.length = m.length
  · by_cases h0 : l.length = 0
    · have hl0 : l = [] := List.length_eq_zero_iff.1 h0
      have hm0 : m = [] := List.length_eq_zero_iff.1 (by omega)
      subst hl0 hm0
      refine (Try.slices_Equal_string_empty A B c 0 d w (by omega)).mono ?_
      rintro e w' ⟨rfl, rfl⟩
      exact ⟨by simp, Below.refl _ _⟩
    · obtain ⟨g, off, rfl, c1⟩ := hv.cells (by omega)
      obtain ⟨g', off', rfl, c2⟩ := hx.cells (by omega)
      refine (Try.slices_Equal_string g off l.length c g' off' m.length d l m w (Nat.le_refl _) (Nat.le_refl _) (by omega) (by omega) c1 c2).mono ?_
      rintro e w' ⟨rfl, q, rfl⟩
      exact ⟨by rw [List.take_length, List.take_length], ⟨rfl, rfl, rfl, Nat.le_refl _, fun _ _ => rfl⟩⟩
  · have hs : Hid (l ≠ m) := hid (fun e => hne (by rw [e]))
    have hne2 : ((l.length : Int) == (m.length : Int)) = false := by simp; omega
    clear hne
    go_enter Try.func60, Try.ntmps60
    go_wp2_with fail
    go_ret
    exact ⟨ret_bool (by simp [hs.out]), Below.refl _ _⟩
end Go.Proofs.Ytmkgjleojfggcaa
