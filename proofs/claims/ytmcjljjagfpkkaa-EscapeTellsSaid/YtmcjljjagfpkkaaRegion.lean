/-
  A region whose order is drawn, by what holds in whatever order. Conditions: as the theorem states.
-/
import Derived.Test.YtmcjljjagfpkkaaBase
import Derived.RegionTactic
set_option linter.all false
namespace Go.Proofs.Ytmcjljjagfpkkaa
open Go.RowKit

/-- A region that draws its order, by what holds whatever has been done. -/
theorem wpAny_inv {P : Program} {md : Region.Mode} {ops : Array Oper} {Q : Exit → Act → World → Prop} (Inv : Array Bool → Act → World → Prop)
    (hstep : ∀ listed a w i, Inv listed a w → i ∈ Region.ready md ops listed → wpOp P ops Q i (fun a' w' => Inv (listed.setIfInBounds i true) a' w') a w)
    (hend : ∀ listed a w, Inv listed a w → Region.ready md ops listed = [] → Q .normal a w) :
    ∀ fuel listed a w, (List.range ops.size).countP (fun i => !listed.getD i true) ≤ fuel → Inv listed a w → wpAny P md ops Q fuel listed a w := by
  intro fuel
  induction fuel with
  | zero =>
    intro listed a w hc h
    have hr : Region.ready md ops listed = [] := by
      have h0 : (List.range ops.size).countP (fun i => !listed.getD i true) = 0 := by omega
      rw [List.countP_eq_zero] at h0
      unfold Region.ready
      rw [List.filter_eq_nil_iff]
      intro i hi hh
      have := h0 i hi
      simp only [Bool.and_eq_true] at hh
      exact this hh.1
    exact ⟨hr, hend _ _ _ h hr⟩
  | succ fuel ih =>
    intro listed a w hc h
    refine ⟨fun hr => hend _ _ _ h hr, fun i hi => wpOp_mono (fun a' w' h' => ih _ _ _ ?_ h') (hstep _ _ _ i h hi)⟩
    have hi' := hi
    unfold Region.ready at hi'
    rw [List.mem_filter] at hi'
    obtain ⟨hm, hp⟩ := hi'
    simp only [Bool.and_eq_true] at hp
    have hlt : i < ops.size := by simpa using hm
    have hli : (!listed.getD i true) = true := hp.1
    have hin : i < listed.size := by
      by_cases hs : i < listed.size
      · exact hs
      · simp [hs] at hli
    have key : ∀ l : List Nat, l.Nodup → i ∈ l → l.countP (fun k => !(listed.setIfInBounds i true).getD k true) + 1 = l.countP (fun k => !listed.getD k true) := by
      intro l
      induction l with
      | nil => intro _ h; simp at h
      | cons x l ih2 =>
        intro hn hx
        rw [List.nodup_cons] at hn
        by_cases hxi : x = i
        · subst hxi
          have hrest : l.countP (fun k => !(listed.setIfInBounds x true).getD k true) = l.countP (fun k => !listed.getD k true) := by
            apply List.countP_congr
            intro k hk
            have hne : x ≠ k := fun e => hn.1 (e ▸ hk)
            simp [hne]
          rw [List.countP_cons, List.countP_cons, hrest, hli]
          simp [hin]
        · have hmem : i ∈ l := by
            rcases List.mem_cons.1 hx with h | h
            · exact absurd h.symm hxi
            · exact h
          have := ih2 hn.2 hmem
          have hne : i ≠ x := fun e => hxi e.symm
          rw [List.countP_cons, List.countP_cons]
          have he : (listed.setIfInBounds i true).getD x true = listed.getD x true := by simp [hne]
          rw [he]
          omega
    have := key _ List.nodup_range (by simpa using hlt)
    omega
theorem ready_mem {ops : Array Oper} {listed : Array Bool} {i : Nat} (h : i ∈ Region.ready .any ops listed) {o : Oper} (ho : ops[i]? = some o) :
    listed.getD i true = false ∧ ∀ e ∈ o.after, Region.binds .any e = true → listed.getD e.on false = true := by
  unfold Region.ready at h
  rw [List.mem_filter] at h
  obtain ⟨_, hp⟩ := h
  simp only [Bool.and_eq_true, ho, Option.map_some, Option.getD_some, Array.all_eq_true_iff_forall_mem, Bool.or_eq_true, Bool.not_eq_true'] at hp
  refine ⟨by simpa using hp.1, fun e he hb => ?_⟩
  rcases hp.2 e he with h | h
  · rw [hb] at h; simp at h
  · exact h

end Go.Proofs.Ytmcjljjagfpkkaa
