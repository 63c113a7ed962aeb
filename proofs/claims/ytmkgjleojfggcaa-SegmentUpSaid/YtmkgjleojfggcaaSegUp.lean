/-
  The contracts of segment's up, and of slices.Clone at slices of texts. Conditions: the path has at most 100000 pieces.
-/
import Derived.Test.YtmkgjleojfggcaaSegSplit
import Derived.Test.YtmkgjleojfggcaaTextsSame
import Derived.WalkSmall
set_option linter.all false
namespace Go.Proofs.Ytmkgjleojfggcaa
open Go.RowKit
theorem OwnT.pop {w : World} {base : Nat} {A : Option Addr} {c k : Nat} {l : List ByteArray} (h : OwnT w base (.slice A l.length c) l) (hk : l.length = k + 1) : OwnT w base (.slice A k c) (l.take k) := by
  unfold OwnT at h ⊢
  have h' := h
  rcases h.2 with ⟨_, h0⟩ | ⟨g, cap, cur, hv, _⟩
  · omega
  · injection hv with e1 e2 e3
    subst e1 e3
    have hlen : (l.take k).length = k := by simp; omega
    rw [hlen]
    rw [hk] at h'
    refine ownsRow_pop (last := (l.drop k).map Value.string) (by simp; omega) ?_
    rw [← List.map_append, List.take_append_drop]
    exact h'
theorem shortT_more {s : ByteArray} {l : List ByteArray} {k : Nat} (h : l.length = k + 1) (ha : aloneT s l = false) : shortT s l = l.take k := by
  unfold shortT
  rw [if_neg (by rw [ha]; decide), h]
  rfl
set_option maxHeartbeats 1000000 in
theorem up_calls (s : ByteArray) (v : Value) (l : List ByteArray) (base : Nat) (w : World) (hv : OwnT w base v l) (hl : l.length ≤ 100000) :
    Calls Try.prog 67 #[.string s, v] w fun e w' => ∃ v', e = .returned v' ∧ OwnT w' base v' (shortT s l) ∧ Below w.heap.size w w' := by
  obtain ⟨A, c, rfl, hc⟩ := hv.read.len
  have HO := hid hv
  by_cases h0 : l.length = 0
  · obtain rfl : l = [] := List.length_eq_zero_iff.1 h0
    clear h0 hv
    go_enter Try.func67, Try.ntmps67
    go_wp2_with fail
    go_ret
    exact ⟨_, rfl, HO.out, Below.refl _ _⟩
  · by_cases h1 : l.length = 1
    · obtain ⟨x, rfl⟩ := List.length_eq_one_iff.1 h1
      obtain ⟨g, off, rfl, hx⟩ := hv.read.cellAt (k := 0) (by simp)
      have hx : w.cell? ⟨g, off, none⟩ = some (.string x) := by simpa using hx
      have hp := hid (OwnT.pop (k := 0) hv (by simp))
      have hc1 : 1 ≤ c := by simpa using hc
      clear h0 h1 hc hl hv
      cases hf : (s.toList == [102, 105, 108, 101]) with
      | false =>
        have hsh : shortT s [x] = [] := by unfold shortT aloneT; rw [hf]; rfl
        rw [hsh]
        clear hsh
        go_enter Try.func67, Try.ntmps67
        go_wp2_with fail
        go_ret
        exact ⟨_, rfl, hp.out, Below.refl _ _⟩
      | true =>
        cases hn : normalL x.data.toList with
        | false =>
          have hsh : shortT s [x] = [] := by show (if (s.toList == [102, 105, 108, 101] && normalL x.data.toList) = true then [x] else [x].take 0) = []; rw [hf, hn]; rfl
          rw [hsh]
          have HN := hid hn
          clear hsh hn
          go_enter Try.func67, Try.ntmps67
          go_wp2_with fail
          refine (normal_calls _ _).mono ?_
          rintro e w2 ⟨rfl, rfl⟩
          rw [HN.out]
          go_wp2_with fail
          go_ret
          exact ⟨_, rfl, hp.out, Below.refl _ _⟩
        | true =>
          have hsh : shortT s [x] = [x] := by show (if (s.toList == [102, 105, 108, 101] && normalL x.data.toList) = true then [x] else [x].take 0) = [x]; rw [hf, hn]; rfl
          rw [hsh]
          have HN := hid hn
          clear hsh hn
          go_enter Try.func67, Try.ntmps67
          go_wp2_with fail
          refine (normal_calls _ _).mono ?_
          rintro e w2 ⟨rfl, rfl⟩
          rw [HN.out]
          go_wp2_with fail
          go_ret
          exact ⟨_, rfl, HO.out, Below.refl _ _⟩
    · have hm := shortT_many (s := s) (l := l) (by omega)
      rw [hm]
      have hn1 := len_ne h1
      have hn0 := len_ne h0
      have hp := hid (OwnT.pop (k := l.length - 1) hv (by omega))
      have e1 : IntKind.i64.wrap ((l.length : Int) - 1) = ((l.length - 1 : Nat) : Int) := by rw [IntWalk.i64_in _ (by omega)]; omega
      clear hm hv
      generalize hk : l.length - 1 = k at *
      have hkc : k ≤ c := by omega
      have hk0 : 0 < l.length := by omega
      go_enter Try.func67, Try.ntmps67
      go_wp2_with fail
      all_goals (go_ret; exact ⟨_, rfl, hp.out, Below.refl _ _⟩)
theorem clone_calls (v : Value) (l : List ByteArray) (w : World) (hv : ReadT w v l) (hl : l.length ≤ 100000) :
    Calls Try.prog 66 #[v] w fun e w' => ∃ v', e = .returned v' ∧ OwnT w' w.heap.size v' l ∧ Below w.heap.size w w' := by
  rcases hv with ⟨rfl, rfl⟩ | ⟨g, off, c, rfl, hc, hcell⟩
  · refine (Try.slices_Clone_string_nil _ _ w).mono ?_
    rintro e w' ⟨rfl, rfl⟩
    exact ⟨_, rfl, OwnT.nil _ _, Below.refl _ _⟩
  · refine (Try.slices_Clone_string g off l.length c l w (Nat.le_refl _) (by omega) (fun j hj => by rw [hcell j hj]; simp [List.getD, hj])).mono ?_
    rintro e w' ⟨v', rfl, ho, _, hb⟩
    refine ⟨v', rfl, ?_, hb⟩
    rw [List.take_length] at ho
    exact ho
end Go.Proofs.Ytmkgjleojfggcaa
