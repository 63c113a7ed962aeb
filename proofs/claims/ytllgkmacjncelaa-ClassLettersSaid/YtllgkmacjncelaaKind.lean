/-
  The contract of class.Kind: it returns what the values of an attribute are. Conditions: both texts have at most 100000 bytes.
-/
import Derived.Test.YtllgkmacjncelaaLower
import Derived.Test.YtllgkmacjncelaaKinds
set_option linter.all false
namespace Go.Proofs.Ytllgkmacjncelaa
open Go.RowKit

/-- P22.1: what the values of an attribute are. -/
def kindOf (a b : List UInt8) : Int := (look a b kindTab).getD 0

theorem look_mem {a b : List UInt8} {v : Int} : ∀ {T : List (List UInt8 × List UInt8 × Int)}, look a b T = some v → (a, b, v) ∈ T
  | [], h => by simp [look] at h
  | t :: T, h => by
    rw [look] at h
    split at h
    · next hc =>
      simp only [Option.some.injEq] at h
      subst h
      rw [hc.1, hc.2]
      exact List.mem_cons_self ..
    · exact List.mem_cons_of_mem _ (look_mem h)
theorem look_isSome {a b : List UInt8} {v : Int} : ∀ {T : List (List UInt8 × List UInt8 × Int)}, (a, b, v) ∈ T → ∃ u, look a b T = some u
  | [], h => by simp at h
  | t :: T, h => by
    rw [look]
    split
    · exact ⟨_, rfl⟩
    · next hc =>
      rcases List.mem_cons.1 h with h | h
      · subst h; exact absurd ⟨rfl, rfl⟩ hc
      · exact look_isSome h
theorem kindTab_fun {a b : List UInt8} {u v : Int} (h1 : (a, b, u) ∈ kindTab) (h2 : (a, b, v) ∈ kindTab) : u = v := by
  obtain ⟨i, hi, e1⟩ := List.mem_iff_getElem.1 h1
  obtain ⟨j, hj, e2⟩ := List.mem_iff_getElem.1 h2
  have : i = j := kindTab_inj (by rw [kindTab_len] at hi; exact hi) (by rw [kindTab_len] at hj; exact hj) ((congrArg (fun x => x.1) e1).trans (congrArg (fun x => x.1) e2).symm) ((congrArg (fun x => x.2.1) e1).trans (congrArg (fun x => x.2.1) e2).symm)
  subst this
  have := e1.symm.trans e2
  injection this with _ h
  injection h
theorem look_same {T : List (List UInt8 × List UInt8 × Int)} (h : ∀ t, t ∈ T ↔ t ∈ kindTab) (a b : List UInt8) : look a b T = look a b kindTab := by
  cases h1 : look a b T with
  | none =>
    cases h2 : look a b kindTab with
    | none => rfl
    | some v =>
      obtain ⟨u, hu⟩ := look_isSome ((h _).2 (look_mem h2))
      rw [h1] at hu
      cases hu
  | some v =>
    obtain ⟨u, hu⟩ := look_isSome ((h _).1 (look_mem h1))
    rw [hu, kindTab_fun (look_mem hu) ((h _).1 (look_mem h1))]

theorem kind_calls (s t : ByteArray) (w : World) (hs : s.size ≤ 100000) (ht : t.size ≤ 100000) :
    Calls Try.prog 10 #[.string s, .string t] w fun e w' => e = .returned (.int .i64 (kindOf (lowL s.data.toList) (lowL t.data.toList))) ∧ Below w.heap.size w w' := by
  go_enter Try.func10, Try.ntmps10
  go_wp2_with fail
  refine (kinds_calls _).mono ?_
  rintro e w1 ⟨B, es, clock, T, rfl, hb, hT, hm, hB, hb1⟩
  go_wp2_with fail
  refine (lower_calls s w1 hs).mono ?_
  rintro e w2 ⟨rfl, hb2⟩
  go_wp2_with fail
  refine (lower_calls t w2 ht).mono ?_
  rintro e w3 ⟨rfl, hb3⟩
  have hlt : B < w1.heap.size := (Array.getElem?_eq_some_iff.1 hb).1
  have hb' : w3.heap[B]? = some (.map es clock) := by
    rw [hb3.block B (by have := hb2.size; omega), hb2.block B hlt]; exact hb
  have hl := run_lookup_kind w3 B es clock T hb' hT (lowL s.data.toList) (lowL t.data.toList)
  rw [look_same hm] at hl
  have hbel : Below w.heap.size w w3 := (hb1.trans (hb2.mono hb1.size)).trans (hb3.mono (Nat.le_trans hb1.size hb2.size))
  unfold kv str at hl
  clear hb hT hm hB hb' hlt hb1 hb2 hb3
  go_wp2
  go_ret
  exact ⟨rfl, hbel⟩
end Go.Proofs.Ytllgkmacjncelaa
