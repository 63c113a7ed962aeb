/-
  The contract of the document's Ints. Conditions: at most 100000 numbers.
-/
import Derived.Test.YtllgkmacjncelaaInts
set_option linter.all false
namespace Go.Proofs.Ytllgkmacjncelaa
open Go.RowKit
theorem ret_boolI {a b : Bool} (h : a = b) : Ending.returned (Value.bool a) = Ending.returned (Value.bool b) := by rw [h]
theorem take_snocI {l m : List Int} {k : Nat} (hl : k < l.length) (hm : k < m.length) (h : l.take k = m.take k) (he : l[k] = m[k]) : l.take (k + 1) = m.take (k + 1) := by
  rw [List.take_succ_eq_append_getElem hl, List.take_succ_eq_append_getElem hm, h, he]
theorem int_ne {x y : Int} (h : x ≠ y) : (x == y) = false := by simpa using h
theorem ReadI.cellOne {w : World} {A : Option Addr} {n c k : Nat} {l : List Int} (h : ReadI w (.slice A n c) l) (hk : k < l.length) :
    ∃ g off, A = some ⟨g, off, none⟩ ∧ w.cell? ⟨g, off + k, none⟩ = some (.int .i64 l[k]) := by
  rcases h with ⟨h, rfl⟩ | ⟨g, off, c', hv, hc, hcell⟩
  · simp at hk
  · injection hv with h1 h2 h3
    exact ⟨g, off, h1, hcell k hk⟩

set_option maxHeartbeats 2000000 in
theorem refInts_calls (v x : Value) (l m : List Int) (w : World) (hv : ReadI w v l) (hx : ReadI w x m) (hl : l.length ≤ 100000) (hm : m.length ≤ 100000) :
    Calls Try.prog 21 #[v, x] w fun e w' => e = .returned (.bool (decide (l = m))) ∧ Below w.heap.size w w' := by
  obtain ⟨A, c, rfl, hc⟩ := hv.len
  obtain ⟨B, d, rfl, hd⟩ := hx.len
  by_cases hne : l.length = m.length
  · have hlm : Hid (l.length = m.length) := hid hne
    go_enter Try.func21, Try.ntmps21
    rw [← hne]
    rw [← hne] at hx hd hm
    clear hne
    go_wp2_with fail
    go_loopw [5] (fun i wr => ∃ k : Nat, k ≤ l.length ∧ i = .int .i64 k ∧ Hid (l.take k = m.take k) ∧ Below w.heap.size w wr) (fun i _ => l.length - (intOf i).toNat)
    case atStart => exact ⟨0, Nat.zero_le _, rfl, hid (by simp), Below.refl _ _⟩
    case round =>
      obtain ⟨k, hk, rfl, htk, hbw⟩ := hrel
      by_cases hlt : k < l.length
      · have hkm : k < m.length := by rw [← hlm.out]; exact hlt
        obtain ⟨g, off, rfl, c1⟩ := (hv.below hbw).cellOne hlt
        obtain ⟨g', off', rfl, c2⟩ := (hx.below hbw).cellOne hkm
        have hv1 := hid hv
        have hx1 := hid hx
        clear hv hx
        by_cases he : l[k] = m[k]
        · have hs : Hid (l.take (k + 1) = m.take (k + 1)) := hid (take_snocI hlt hkm htk.out he)
          generalize l[k] = y at *
          generalize m[k] = z at *
          subst he
          go_wp2_with fail
          go_region
          go_wp2_with fail
          go_roundw
          case rel => exact ⟨k + 1, by omega, by go_num, hs, hbw.drew⟩
          case measure => simp [intOf]; omega
        · have hs : Hid (l ≠ m) := hid (fun e => he (by subst e; rfl))
          have he2 := int_ne he
          generalize l[k] = y at *
          generalize m[k] = z at *
          go_wp2_with fail
          go_region
          go_wp2_with fail
          go_ret
          exact ⟨ret_boolI (by simp [hs.out]), hbw.drew⟩
      · obtain rfl : k = l.length := by omega
        have hs : l = m := by
          have := htk.out
          rw [List.take_length, hlm.out, List.take_length] at this
          exact this
        have HS := hid hs
        clear hs
        go_wp2_with fail
        go_ret
        exact ⟨ret_boolI (by simp [HS.out]), hbw⟩
  · have hs : Hid (l ≠ m) := hid (fun e => hne (by rw [e]))
    have hne2 : ((l.length : Int) == (m.length : Int)) = false := by simp; omega
    clear hne
    go_enter Try.func21, Try.ntmps21
    go_wp2_with fail
    go_ret
    exact ⟨ret_boolI (by simp [hs.out]), Below.refl _ _⟩

end Go.Proofs.Ytllgkmacjncelaa
