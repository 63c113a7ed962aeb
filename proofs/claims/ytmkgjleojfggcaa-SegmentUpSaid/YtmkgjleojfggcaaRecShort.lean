/-
  The contracts of Shorten, the program's and the document's. Conditions: the path has at most 100000 pieces.
-/
import Derived.Test.YtmkgjleojfggcaaTexts
import Derived.Test.YtmkgjleojfggcaaRecDrive
set_option linter.all false
namespace Go.Proofs.Ytmkgjleojfggcaa
open Go.RowKit

/-- Is a path a drive alone, of a scheme that is a file's? -/
def aloneT (s : ByteArray) : List ByteArray → Bool
  | [x] => s.toList == [102, 105, 108, 101] && normalL x.data.toList
  | _ => false
/-- What '[]string{}' makes. -/
theorem OwnT.empty (w : World) : OwnT (w.alloc (.cells #[] 9)) w.heap.size (.slice (some ⟨w.heap.size, 0, none⟩) 0 0) [] :=
  World.ownsRow_lit w #[] 0 (Nat.le_refl _) (Nat.zero_le _) (by simp)
theorem alloc_below (w : World) (o : Obj) : Below w.heap.size w (w.alloc o) := (Below.refl _ _).alloc (Nat.le_refl _) o
/-- P12.4. -/
def shortT (s : ByteArray) (l : List ByteArray) : List ByteArray := if aloneT s l = true then l else l.take (l.length - 1)

theorem shortT_nil (s : ByteArray) : shortT s [] = [] := rfl
theorem shortT_many {s : ByteArray} {l : List ByteArray} (h : 2 ≤ l.length) : shortT s l = l.take (l.length - 1) := by
  match l, h with
  | _ :: _ :: _, _ => rfl
theorem len_ne {n k : Nat} (h : n ≠ k) : ((n : Int) == (k : Int)) = false := by simp; omega

theorem take_short {s : ByteArray} {l : List ByteArray} : (shortT s l).length ≤ l.length := by
  unfold shortT
  split
  · exact Nat.le_refl _
  · simp

set_option maxHeartbeats 1000000 in
theorem shorten_calls (s : ByteArray) (v : Value) (l : List ByteArray) (w : World) (hv : ReadT w v l) (hl : l.length ≤ 100000) :
    Calls Try.prog 36 #[.string s, v] w fun e w' => ∃ v', e = .returned v' ∧ OwnT w' w.heap.size v' (shortT s l) ∧ Below w.heap.size w w' := by
  have hv0 := hv
  rcases hv with ⟨rfl, rfl⟩ | ⟨g, off, c, rfl, hc, hcell⟩
  · go_enter Try.func36, Try.ntmps36
    go_wp2_with (at_builtin; refine wpList_append_texts rfl _ _ rfl rfl (OwnT.nil _ w.heap.size) rfl hv0 (by simp) (Nat.le_refl _) ?_; intro v' w1 ho hb)
    go_ret
    exact ⟨_, rfl, ho, hb⟩
  · have HC := hid hcell
    clear hcell
    by_cases h0 : l.length = 0
    · obtain rfl : l = [] := List.length_eq_zero_iff.1 h0
      have hv1 : ReadT w (.slice (some ⟨g, off, none⟩) 0 c) [] := hv0
      clear h0
      go_enter Try.func36, Try.ntmps36
      go_wp2_with (at_builtin; refine wpList_append_texts rfl _ _ rfl rfl (OwnT.nil _ w.heap.size) rfl hv1 (by simp) (Nat.le_refl _) ?_; intro v' w1 ho hb)
      go_ret
      exact ⟨_, rfl, ho, hb⟩
    · by_cases h1 : l.length = 1
      · obtain ⟨x, rfl⟩ := List.length_eq_one_iff.1 h1
        have hx : w.cell? ⟨g, off, none⟩ = some (.string x) := HC.out 0 (by simp)
        have hc1 : 1 ≤ c := by simpa using hc
        have hv1 : ReadT w (.slice (some ⟨g, off, none⟩) 1 c) [x] := hv0
        have hv2 : ReadT w (.slice (some ⟨g, off, none⟩) 0 c) [] := by have := ReadT.take hv0 (n := 0) (by simp); simpa using this
        clear h0 h1 hc hl HC hv0
        cases hf : (s.toList == [102, 105, 108, 101]) with
        | false =>
          have hsh : shortT s [x] = [] := by unfold shortT aloneT; rw [hf]; rfl
          rw [hsh]
          clear hsh
          go_enter Try.func36, Try.ntmps36
          go_wp2_with (at_builtin; refine wpList_append_texts rfl _ _ rfl rfl (OwnT.nil _ w.heap.size) rfl hv2 (by simp) (Nat.le_refl _) ?_; intro v' w1 ho hb)
          go_ret
          exact ⟨_, rfl, ho, hb⟩
        | true =>
          cases hn : normalL x.data.toList with
          | false =>
            have hsh : shortT s [x] = [] := by show (if (s.toList == [102, 105, 108, 101] && normalL x.data.toList) = true then [x] else [x].take 0) = []; rw [hf, hn]; rfl
            rw [hsh]
            have HN := hid hn
            clear hsh hn
            go_enter Try.func36, Try.ntmps36
            go_wp2_with fail
            refine (normal_calls _ _).mono ?_
            rintro e w2 ⟨rfl, rfl⟩
            rw [HN.out]
            go_wp2_with (at_builtin; refine wpList_append_texts rfl _ _ rfl rfl (OwnT.nil _ w.heap.size) rfl hv2 (by simp) (Nat.le_refl _) ?_; intro v' w1 ho hb)
            go_ret
            exact ⟨_, rfl, ho, hb⟩
          | true =>
            have hsh : shortT s [x] = [x] := by show (if (s.toList == [102, 105, 108, 101] && normalL x.data.toList) = true then [x] else [x].take 0) = [x]; rw [hf, hn]; rfl
            rw [hsh]
            have HN := hid hn
            clear hsh hn
            go_enter Try.func36, Try.ntmps36
            go_wp2_with fail
            refine (normal_calls _ _).mono ?_
            rintro e w2 ⟨rfl, rfl⟩
            rw [HN.out]
            go_wp2_with (at_builtin; refine wpList_append_texts rfl _ _ rfl rfl (OwnT.nil _ w.heap.size) rfl hv1 (by simp) (Nat.le_refl _) ?_; intro v' w1 ho hb)
            go_ret
            exact ⟨_, rfl, ho, hb⟩
      · have hm := shortT_many (s := s) (l := l) (by omega)
        rw [hm]
        have hn1 := len_ne h1
        have hz := ReadT.take hv0 (n := l.length - 1) (by omega)
        have e1 : IntKind.i64.wrap ((l.length : Int) - 1) = ((l.length - 1 : Nat) : Int) := by rw [IntWalk.i64_in _ (by omega)]; omega
        have hlt : (l.take (l.length - 1)).length ≤ 100000 := by simp; omega
        clear hm HC hv0
        generalize hk : l.length - 1 = k at *
        have hkc : k ≤ c := by omega
        have hk0 : 0 < l.length := by omega
        go_enter Try.func36, Try.ntmps36
        go_wp2_with (at_builtin; refine wpList_append_texts rfl _ _ rfl rfl (OwnT.nil _ w.heap.size) rfl hz (by simpa using (by omega : (l.take k).length ≤ 1000000)) (Nat.le_refl _) ?_; intro v' w1 ho hb)
        all_goals (go_ret; exact ⟨_, rfl, ho, hb⟩)

set_option maxHeartbeats 1000000 in
theorem refShorten_calls (s : ByteArray) (v : Value) (l : List ByteArray) (w : World) (hv : ReadT w v l) (hl : l.length ≤ 100000) :
    Calls Try.prog 38 #[.string s, v] w fun e w' => ∃ v', e = .returned v' ∧ OwnT w' w.heap.size v' (shortT s l) ∧ Below w.heap.size w w' := by
  have hv0 := hv
  rcases hv with ⟨rfl, rfl⟩ | ⟨g, off, c, rfl, hc, hcell⟩
  · go_enter Try.func38, Try.ntmps38
    go_wp2_with (at_builtin; refine wpList_append_texts rfl _ _ rfl rfl (OwnT.empty w) rfl (ReadT.below hv0 (alloc_below w _)) (by simp) (by simp) ?_; intro v' w1 ho hb0; have hb := (alloc_below w (.cells #[] 9)).trans hb0)
    go_ret
    exact ⟨_, rfl, ho, hb⟩
  · have HC := hid hcell
    clear hcell
    by_cases h0 : l.length = 0
    · obtain rfl : l = [] := List.length_eq_zero_iff.1 h0
      have hv1 : ReadT w (.slice (some ⟨g, off, none⟩) 0 c) [] := hv0
      clear h0
      go_enter Try.func38, Try.ntmps38
      go_wp2_with (at_builtin; refine wpList_append_texts rfl _ _ rfl rfl (OwnT.empty w) rfl (ReadT.below hv1 (alloc_below w _)) (by simp) (by simp) ?_; intro v' w1 ho hb0; have hb := (alloc_below w (.cells #[] 9)).trans hb0)
      go_ret
      exact ⟨_, rfl, ho, hb⟩
    · by_cases h1 : l.length = 1
      · obtain ⟨x, rfl⟩ := List.length_eq_one_iff.1 h1
        have hx : w.cell? ⟨g, off, none⟩ = some (.string x) := HC.out 0 (by simp)
        have hc1 : 1 ≤ c := by simpa using hc
        have hv1 : ReadT w (.slice (some ⟨g, off, none⟩) 1 c) [x] := hv0
        have hv2 : ReadT w (.slice (some ⟨g, off, none⟩) 0 c) [] := by have := ReadT.take hv0 (n := 0) (by simp); simpa using this
        clear h0 h1 hc hl HC hv0
        cases hf : (s.toList == [102, 105, 108, 101]) with
        | false =>
          have hsh : shortT s [x] = [] := by unfold shortT aloneT; rw [hf]; rfl
          rw [hsh]
          clear hsh
          go_enter Try.func38, Try.ntmps38
          go_wp2_with (at_builtin; refine wpList_append_texts rfl _ _ rfl rfl (OwnT.empty w) rfl (ReadT.below hv2 (alloc_below w _)) (by simp) (by simp) ?_; intro v' w1 ho hb0; have hb := (alloc_below w (.cells #[] 9)).trans hb0)
          go_ret
          exact ⟨_, rfl, ho, hb⟩
        | true =>
          cases hn : normalL x.data.toList with
          | false =>
            have hsh : shortT s [x] = [] := by show (if (s.toList == [102, 105, 108, 101] && normalL x.data.toList) = true then [x] else [x].take 0) = []; rw [hf, hn]; rfl
            rw [hsh]
            have HN := hid hn
            clear hsh hn
            go_enter Try.func38, Try.ntmps38
            go_wp2_with fail
            refine (refNormal_calls _ _).mono ?_
            rintro e w2 ⟨rfl, rfl⟩
            rw [HN.out]
            go_wp2_with (at_builtin; refine wpList_append_texts rfl _ _ rfl rfl (OwnT.empty w) rfl (ReadT.below hv2 (alloc_below w _)) (by simp) (by simp) ?_; intro v' w1 ho hb0; have hb := (alloc_below w (.cells #[] 9)).trans hb0)
            go_ret
            exact ⟨_, rfl, ho, hb⟩
          | true =>
            have hsh : shortT s [x] = [x] := by show (if (s.toList == [102, 105, 108, 101] && normalL x.data.toList) = true then [x] else [x].take 0) = [x]; rw [hf, hn]; rfl
            rw [hsh]
            have HN := hid hn
            clear hsh hn
            go_enter Try.func38, Try.ntmps38
            go_wp2_with fail
            refine (refNormal_calls _ _).mono ?_
            rintro e w2 ⟨rfl, rfl⟩
            rw [HN.out]
            go_wp2_with (at_builtin; refine wpList_append_texts rfl _ _ rfl rfl (OwnT.empty w) rfl (ReadT.below hv1 (alloc_below w _)) (by simp) (by simp) ?_; intro v' w1 ho hb0; have hb := (alloc_below w (.cells #[] 9)).trans hb0)
            go_ret
            exact ⟨_, rfl, ho, hb⟩
      · have hm := shortT_many (s := s) (l := l) (by omega)
        rw [hm]
        have hn1 := len_ne h1
        have hz := ReadT.take hv0 (n := l.length - 1) (by omega)
        have e1 : IntKind.i64.wrap ((l.length : Int) - 1) = ((l.length - 1 : Nat) : Int) := by rw [IntWalk.i64_in _ (by omega)]; omega
        have hlt : (l.take (l.length - 1)).length ≤ 100000 := by simp; omega
        clear hm HC hv0
        generalize hk : l.length - 1 = k at *
        have hkc : k ≤ c := by omega
        have hk0 : 0 < l.length := by omega
        go_enter Try.func38, Try.ntmps38
        go_wp2_with (at_builtin; refine wpList_append_texts rfl _ _ rfl rfl (OwnT.empty w) rfl (ReadT.below hz (alloc_below w _)) (by simpa using (by omega : (l.take k).length ≤ 1000000)) (by simp) ?_; intro v' w1 ho hb0; have hb := (alloc_below w (.cells #[] 9)).trans hb0)
        all_goals (go_ret; exact ⟨_, rfl, ho, hb⟩)
end Go.Proofs.Ytmkgjleojfggcaa
