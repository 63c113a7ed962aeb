/-
  The contracts of the document's among and In (layer 3). Conditions: the text has at most 1000 bytes.
-/
import Derived.Test.YtmkgjleojfggcaaPctIn
set_option linter.all false
namespace Go.Proofs.Ytmkgjleojfggcaa
open Go.RowKit

theorem mem_of_get {l : List UInt8} {c : UInt8} {k : Nat} (h : k < l.length) (e : l[k] = c) : mem l c = true := by
  unfold mem
  rw [List.contains_iff_mem]
  rw [← e]
  exact List.getElem_mem h
theorem mem_none {l : List UInt8} {c : UInt8} (h : ∀ k (hk : k < l.length), l[k] ≠ c) : mem l c = false := by
  unfold mem
  cases hb : l.contains c with
  | false => rfl
  | true =>
    rw [List.contains_iff_mem, List.mem_iff_getElem] at hb
    obtain ⟨k, hk, e⟩ := hb
    exact absurd e (h k hk)

theorem refAmong_calls (s : ByteArray) (c : UInt8) (w : World) (hs : s.size ≤ 1000) :
    Calls Try.prog 62 #[.string s, .int .u8 (c.toNat : Int)] w fun e w' => e = .returned (.bool (mem s.data.toList c)) ∧ w = w' := by
  have hlt : c.toNat < 256 := c.toNat_lt
  go_enter Try.func62, Try.ntmps62
  go_wp2
  go_loop [5] (fun i => ∃ k : Nat, k ≤ s.size ∧ i = .int .i64 k ∧ ∀ j (hj : j < s.size), j < k → s[j] ≠ c) (fun i => s.size - (intOf i).toNat)
  case atStart => exact ⟨0, Nat.zero_le _, rfl, fun j _ h => absurd h (by omega)⟩
  case round =>
    obtain ⟨k, hk, rfl, hno⟩ := hrel
    have HNO := hid hno
    clear hno
    by_cases hk' : k < s.size
    · by_cases he : s[k] = c
      · have hm : Hid (mem s.data.toList c = true) := hid (mem_of_get (k := k) (by simpa using hk') he)
        have hb : ((s[k].toNat : Int) == (c.toNat : Int)) = true := by rw [he]; simp
        clear he
        go_wp2
        go_ret
        exact ⟨by rw [hm.out]; rfl, rfl⟩
      · have hne : Hid (s[k] ≠ c) := hid he
        have hb : ((s[k].toNat : Int) == (c.toNat : Int)) = false := by
          simp only [beq_eq_false_iff_ne, ne_eq]
          intro h
          exact he (UInt8.toNat_inj.1 (by omega))
        clear he
        go_wp2
        go_round
        case rel => exact ⟨k + 1, by omega, by go_num, fun j hj hjk => by
          by_cases e : j = k
          · subst e; exact hne.out
          · exact HNO.out j hj (by omega)⟩
        case measure => simp [intOf]; omega
    · have hm : Hid (mem s.data.toList c = false) := hid (mem_none fun j hj => by
        have hj' : j < s.size := by simpa using hj
        exact HNO.out j hj' (by omega))
      go_wp2
      go_ret
      exact ⟨by rw [hm.out]; rfl, rfl⟩

/-- The signs of a set that are no controls, as the document lists them. -/
def more (n : Nat) : List UInt8 :=
  match n with
  | 1 => [32, 34, 60, 62, 96]
  | 2 => [32, 34, 35, 60, 62]
  | 3 => [32, 34, 35, 60, 62, 39]
  | 4 => [32, 34, 35, 60, 62, 63, 94, 96, 123, 125]
  | 5 => [32, 34, 35, 60, 62, 63, 94, 96, 123, 125, 47, 58, 59, 61, 64, 91, 92, 93, 124]
  | 6 => [32, 34, 35, 60, 62, 63, 94, 96, 123, 125, 47, 58, 59, 61, 64, 91, 92, 93, 124, 36, 37, 38, 43, 44]
  | _ => []
theorem more_eq (n : Nat) (hn : n < 7) (c : UInt8) (hc : ctl c = false) : mem (more n) c = inSet n c := by
  have h : ∀ n : Fin 7, ∀ k : Fin 256, ctl (UInt8.ofNat k.val) = false → mem (more n.val) (UInt8.ofNat k.val) = inSet n.val (UInt8.ofNat k.val) := by decide +kernel
  have := h ⟨n, hn⟩ ⟨c.toNat, c.toNat_lt⟩
  simpa [hc] using this

theorem refIn_calls (set : Int) (c : UInt8) (w : World) :
    Calls Try.prog 44 #[.int .i64 set, .int .u8 (c.toNat : Int)] w fun e w' => e = .returned (.bool (inSet set c)) ∧ w = w' := by
  have hlt : c.toNat < 256 := c.toNat_lt
  by_cases ho : set < 0 ∨ 6 < set
  · have hf : Hid (inSet set c = false) := hid (by
      unfold inSet
      rw [if_neg (by omega), if_neg (by omega), if_neg (by omega), if_neg (by omega), if_neg (by omega), if_neg (by omega), if_neg (by omega)])
    rcases ho with ho | ho
    all_goals
      go_enter Try.func44, Try.ntmps44
      go_wp2
      all_goals go_ret
      all_goals exact ⟨by rw [hf.out]; rfl, rfl⟩
  · by_cases hc : ctl c = true
    · have hf : Hid (inSet set c = true) := hid (by
        unfold inSet
        rw [hc]
        by_cases h6 : set = 6
        · simp [h6]
        by_cases h5 : set = 5
        · simp [h5]
        by_cases h4 : set = 4
        · simp [h4]
        by_cases h2 : set = 2
        · simp [h2]
        by_cases h0 : set = 0
        · simp [h0]
        by_cases h3 : set = 3
        · simp [h3]
        by_cases h1 : set = 1
        · simp [h1]
        omega)
      have h0 : 0 ≤ set := by omega
      have h6 : set ≤ 6 := by omega
      have hcc : c.toNat < 32 ∨ 126 < c.toNat := by
        simp [ctl] at hc; omega
      clear hc ho
      rcases hcc with hcc | hcc
      all_goals
        go_enter Try.func44, Try.ntmps44
        go_wp2
        all_goals go_ret
        all_goals exact ⟨by rw [hf.out]; rfl, rfl⟩
    · have hcf : ctl c = false := by simpa using hc
      have hlo : 32 ≤ c.toNat := by simp [ctl] at hc; omega
      have hhi : c.toNat ≤ 126 := by simp [ctl] at hc; omega
      have key : set = 0 ∨ set = 1 ∨ set = 2 ∨ set = 3 ∨ set = 4 ∨ set = 5 ∨ set = 6 := by omega
      clear hc ho
      have HC := hid hcf
      clear hcf
      rcases key with rfl | rfl | rfl | rfl | rfl | rfl | rfl
      · go_enter Try.func44, Try.ntmps44
        go_wp2_with (go_at_call 62; refine (refAmong_calls _ c _ (by decide)).mono ?_; rintro e w' ⟨rfl, rfl⟩)
        go_ret
        exact ⟨ret_bool (more_eq 0 (by decide) c HC.out), rfl⟩
      · go_enter Try.func44, Try.ntmps44
        go_wp2_with (go_at_call 62; refine (refAmong_calls _ c _ (by decide)).mono ?_; rintro e w' ⟨rfl, rfl⟩)
        go_ret
        exact ⟨ret_bool (more_eq 1 (by decide) c HC.out), rfl⟩
      · go_enter Try.func44, Try.ntmps44
        go_wp2_with (go_at_call 62; refine (refAmong_calls _ c _ (by decide)).mono ?_; rintro e w' ⟨rfl, rfl⟩)
        go_ret
        exact ⟨ret_bool (more_eq 2 (by decide) c HC.out), rfl⟩
      · go_enter Try.func44, Try.ntmps44
        go_wp2_with (go_at_call 62; refine (refAmong_calls _ c _ (by decide)).mono ?_; rintro e w' ⟨rfl, rfl⟩)
        go_ret
        exact ⟨ret_bool (more_eq 3 (by decide) c HC.out), rfl⟩
      · go_enter Try.func44, Try.ntmps44
        go_wp2_with (go_at_call 62; refine (refAmong_calls _ c _ (by decide)).mono ?_; rintro e w' ⟨rfl, rfl⟩)
        go_ret
        exact ⟨ret_bool (more_eq 4 (by decide) c HC.out), rfl⟩
      · go_enter Try.func44, Try.ntmps44
        go_wp2_with (go_at_call 62; refine (refAmong_calls _ c _ (by decide)).mono ?_; rintro e w' ⟨rfl, rfl⟩)
        go_ret
        exact ⟨ret_bool (more_eq 5 (by decide) c HC.out), rfl⟩
      · go_enter Try.func44, Try.ntmps44
        go_wp2_with (go_at_call 62; refine (refAmong_calls _ c _ (by decide)).mono ?_; rintro e w' ⟨rfl, rfl⟩)
        go_ret
        exact ⟨ret_bool (more_eq 6 (by decide) c HC.out), rfl⟩
end Go.Proofs.Ytmkgjleojfggcaa
