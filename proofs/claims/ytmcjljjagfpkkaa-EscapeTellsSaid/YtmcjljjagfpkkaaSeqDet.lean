/-
  A region whose order is drawn, where each operation yields the same value in whatever world meets I: one walk in the order of the text serves. Conditions: as the theorem states.
-/
import Derived.Test.YtmcjljjagfpkkaaRegion
set_option linter.all false
namespace Go.Proofs.Ytmcjljjagfpkkaa
open Go.RowKit

/-- One operation: where it is wanted it yields v in every world that meets I, and leaves one that does. -/
def StepOK (P : Program) (ops : Array Oper) (I : World → Prop) (o : Oper) (a : Act) (v : Value) : Prop :=
  (Region.wanted o (yielded ops a.tmps) = false ∧ v = undef) ∨
  (Region.wanted o (yielded ops a.tmps) = true ∧ ∀ w, I w → o.wp P a w (fun a' w' => a' = a.put o.dst v ∧ I w') (fun _ _ _ => False))

/-- The operations in the order of the text. -/
def SeqDet (P : Program) (ops : Array Oper) (I : World → Prop) (Fin : Act → Prop) : List Oper → Act → Prop
  | [], a => Fin a
  | o :: r, a => ∃ v, StepOK P ops I o a v ∧ SeqDet P ops I Fin r (a.put o.dst v)

theorem SeqDet.step {P : Program} {ops : Array Oper} {I : World → Prop} {Fin : Act → Prop} {o : Oper} {r : List Oper} {a : Act} {v : Value} (hw : Region.wanted o (yielded ops a.tmps) = true)
    (h : ∀ w, I w → o.wp P a w (fun a' w' => a' = a.put o.dst v ∧ I w') (fun _ _ _ => False)) (hr : SeqDet P ops I Fin r (a.put o.dst v)) : SeqDet P ops I Fin (o :: r) a :=
  ⟨v, .inr ⟨hw, h⟩, hr⟩
theorem SeqDet.stepK {P : Program} {ops : Array Oper} {I : World → Prop} {Fin : Act → Prop} {o : Oper} {r : List Oper} {a : Act} {v : Value} (hw : Region.wanted o (yielded ops a.tmps) = true)
    (h : ∀ w, I w → ∀ K : Act → World → Prop, (∀ w', I w' → K (a.put o.dst v) w') → o.wp P a w K (fun _ _ _ => False)) (hr : SeqDet P ops I Fin r (a.put o.dst v)) : SeqDet P ops I Fin (o :: r) a :=
  .step hw (fun w hI => h w hI _ fun _ h' => ⟨rfl, h'⟩) hr
theorem SeqDet.skip {P : Program} {ops : Array Oper} {I : World → Prop} {Fin : Act → Prop} {o : Oper} {r : List Oper} {a : Act} (hw : Region.wanted o (yielded ops a.tmps) = false)
    (hr : SeqDet P ops I Fin r (a.put o.dst undef)) : SeqDet P ops I Fin (o :: r) a :=
  ⟨undef, .inl ⟨hw, rfl⟩, hr⟩
theorem SeqDet.nil {P : Program} {ops : Array Oper} {I : World → Prop} {Fin : Act → Prop} {a : Act} (h : Fin a) : SeqDet P ops I Fin [] a := h

/-- What is asked of the region's edges: they lead backward, each slot is written once, and what an operation looks at stands ahead of it. -/
def detOk (ops : Array Oper) : Bool :=
  (List.range ops.size).all fun i => match ops[i]? with
    | none => true
    | some o => (o.after.all fun e => decide (e.on < i)) && (match o.op with | .select .. => false | _ => true) &&
        ((o.looksAt ops).all fun t => (List.range ops.size).all fun j => match ops[j]? with
          | some p => if p.dst == some t then o.after.any (fun e => Region.binds .any e && e.on == j) else true
          | none => true) &&
        (List.range i).all fun j => match ops[j]? with
          | some p => p.dst.isNone || p.dst != o.dst
          | none => true

structure DetOk (ops : Array Oper) : Prop where
  back : ∀ (i : Nat) (o : Oper), ops[i]? = some o → ∀ e ∈ o.after, e.on < i
  plain : ∀ (i : Nat) (o : Oper), ops[i]? = some o → ∀ cs b, o.op ≠ .select cs b
  ahead : ∀ (i : Nat) (o : Oper), ops[i]? = some o → ∀ t ∈ o.looksAt ops, ∀ (j : Nat) (p : Oper), ops[j]? = some p → p.dst = some t → ∃ e ∈ o.after, Region.binds .any e = true ∧ e.on = j
  once : ∀ (i : Nat) (o : Oper) (j : Nat) (p : Oper), ops[i]? = some o → ops[j]? = some p → j < i → ∀ t, p.dst = some t → o.dst ≠ some t

theorem DetOk.of {ops : Array Oper} (h : detOk ops = true) : DetOk ops := by
  have key : ∀ (i : Nat) (o : Oper), ops[i]? = some o → (∀ e ∈ o.after, e.on < i) ∧ (∀ cs b, o.op ≠ .select cs b) ∧
      (∀ t ∈ o.looksAt ops, ∀ (j : Nat) (p : Oper), ops[j]? = some p → p.dst = some t → ∃ e ∈ o.after, Region.binds .any e = true ∧ e.on = j) ∧
      (∀ (j : Nat) (p : Oper), ops[j]? = some p → j < i → ∀ t, p.dst = some t → o.dst ≠ some t) := by
    intro i o ho
    have hi : i < ops.size := (Array.getElem?_eq_some_iff.1 ho).1
    unfold detOk at h
    rw [List.all_eq_true] at h
    have h1 := h i (by simpa using hi)
    simp only [ho, Bool.and_eq_true] at h1
    obtain ⟨⟨⟨h2, h3⟩, h4⟩, h5⟩ := h1
    refine ⟨fun e he => ?_, fun cs b hs => ?_, fun t ht j p hj hp => ?_, fun j p hj hlt t hp ho' => ?_⟩
    · rw [Array.all_eq_true_iff_forall_mem] at h2
      simpa using h2 e he
    · rw [hs] at h3; simp at h3
    · rw [List.all_eq_true] at h4
      have h6 := h4 t ht
      rw [List.all_eq_true] at h6
      have hjl : j < ops.size := (Array.getElem?_eq_some_iff.1 hj).1
      have h7 := h6 j (by simpa using hjl)
      simp only [hj, hp, beq_self_eq_true, if_true, Array.any_eq_true'] at h7
      obtain ⟨e, he, hb⟩ := h7
      simp only [Bool.and_eq_true, beq_iff_eq] at hb
      exact ⟨e, he, hb.1, hb.2⟩
    · rw [List.all_eq_true] at h5
      have h6 := h5 j (by simpa using hlt)
      simp [hj, hp, ho'] at h6
  exact ⟨fun i o ho => (key i o ho).1, fun i o ho => (key i o ho).2.1, fun i o ho => (key i o ho).2.2.1, fun i o j p ho hj hlt => (key i o ho).2.2.2 j p hj hlt⟩

theorem put_size (a : Act) (d : Option Tmp) (v : Value) : (a.put d v).tmps.size = a.tmps.size := by
  cases d <;> simp [Act.put]
theorem put_defs (a : Act) (d : Option Tmp) (v : Value) : (a.put d v).defers = a.defers := by
  cases d <;> simp [Act.put]
theorem put_other (a : Act) {d : Option Tmp} (v : Value) {t : Tmp} (h : d ≠ some t) : (a.put d v).tmps[t]? = a.tmps[t]? := by
  cases d with
  | none => rfl
  | some d =>
    have : d ≠ t := fun e => h (by rw [e])
    simp [Act.put, this]
theorem put_same {a b : Act} (d : Option Tmp) (v : Value) {t : Tmp} (h : d = some t) (hs : a.tmps.size = b.tmps.size) : (a.put d v).tmps[t]? = (b.put d v).tmps[t]? := by
  subst h
  simp [Act.put, Array.getElem?_setIfInBounds, hs]
theorem put_inj {a b : Act} {d : Option Tmp} {v u : Value} (h : a.put d v = a.put d u) (hs : b.tmps.size = a.tmps.size) : b.put d v = b.put d u := by
  cases d with
  | none => rfl
  | some d =>
    have h1 := congrArg (fun x : Act => x.tmps[d]?) h
    by_cases hd : d < a.tmps.size
    · simp [Act.put, hd] at h1
      rw [h1]
    · have hd' : b.tmps.size ≤ d := by rw [hs]; exact Nat.le_of_not_lt hd
      simp [Act.put, Array.setIfInBounds_eq_of_size_le hd']

/-- The states in the text's order. -/
theorem SeqDet.states {P : Program} {ops : Array Oper} {I : World → Prop} {Fin : Act → Prop} : ∀ (L : List Oper) (a : Act), SeqDet P ops I Fin L a →
    ∃ st : Nat → Act, st 0 = a ∧ Fin (st L.length) ∧ ∀ (i : Nat) (o : Oper), L[i]? = some o → ∃ v, StepOK P ops I o (st i) v ∧ st (i + 1) = (st i).put o.dst v
  | [], a, h => ⟨fun _ => a, rfl, h, fun i o h => by simp at h⟩
  | o :: L, a, ⟨v, hv, hr⟩ => by
    obtain ⟨st, h0, hF, hs⟩ := SeqDet.states L _ hr
    refine ⟨fun k => match k with | 0 => a | k + 1 => st k, rfl, hF, fun i p hp => ?_⟩
    cases i with
    | zero =>
      simp at hp
      subst hp
      exact ⟨v, hv, h0⟩
    | succ i => exact hs i p (by simpa using hp)

structure DInv (ops : Array Oper) (I : World → Prop) (a aF : Act) (listed : Array Bool) (b : Act) (w : World) : Prop where
  size : listed.size = ops.size
  defs : b.defers = a.defers
  tsize : b.tmps.size = a.tmps.size
  world : I w
  done : ∀ (t : Tmp) (i : Nat) (o : Oper), ops[i]? = some o → o.dst = some t → listed.getD i false = true → b.tmps[t]? = aF.tmps[t]?
  todo : ∀ t : Tmp, (∀ (i : Nat) (o : Oper), ops[i]? = some o → o.dst = some t → listed.getD i false = false) → b.tmps[t]? = a.tmps[t]?

theorem yielded_congr {ops : Array Oper} {x y : Array Value} {j : Nat} (h : ∀ t, ((ops[j]?).bind (·.dst)) = some t → x[t]? = y[t]?) : yielded ops x j = yielded ops y j := by
  unfold yielded
  cases hd : (ops[j]?).bind (·.dst) with
  | none => rfl
  | some t => simp only [Option.bind_some, h t hd]

set_option maxHeartbeats 800000 in
theorem region_seq {P : Program} {ops : Array Oper} {Q : Exit → Act → World → Prop} {id : Nat} {a : Act} {w : World} (I : World → Prop) (hm : P.follows .mixedOrders = true) (hok : detOk ops = true)
    (hI : I w.drew) (h : SeqDet P ops I (fun aF => ∀ w', I w' → Q .normal aF w') ops.toList a) : (Code.region id ops true).wp P Q a w := by
  have D := DetOk.of hok
  obtain ⟨st, h0, hF, hs⟩ := SeqDet.states _ _ h
  have hs' : ∀ (i : Nat) (o : Oper), ops[i]? = some o → ∃ v, StepOK P ops I o (st i) v ∧ st (i + 1) = (st i).put o.dst v := fun i o ho => hs i o (by simpa using ho)
  have hn : ops.toList.length = ops.size := by simp
  rw [hn] at hF
  have hsize : ∀ k, k ≤ ops.size → (st k).tmps.size = a.tmps.size ∧ (st k).defers = a.defers := by
    intro k
    induction k with
    | zero => intro _; rw [h0]; exact ⟨rfl, rfl⟩
    | succ k ih =>
      intro hk
      obtain ⟨v, _, e⟩ := hs' k ops[k] (Array.getElem?_eq_getElem (by omega))
      rw [e, put_size, put_defs]
      exact ih (by omega)
  have hun : ∀ k, k ≤ ops.size → ∀ t : Tmp, (∀ (j : Nat) (o : Oper), j < k → ops[j]? = some o → o.dst ≠ some t) → (st k).tmps[t]? = a.tmps[t]? := by
    intro k
    induction k with
    | zero => intro _ t _; rw [h0]
    | succ k ih =>
      intro hk t hno
      obtain ⟨v, _, e⟩ := hs' k ops[k] (Array.getElem?_eq_getElem (by omega))
      rw [e, put_other _ _ (hno k ops[k] (by omega) (Array.getElem?_eq_getElem (by omega)))]
      exact ih (by omega) t fun j o hj => hno j o (by omega)
  have hkeep : ∀ (i : Nat) (o : Oper) (t : Tmp), ops[i]? = some o → o.dst = some t → ∀ k, i + 1 ≤ k → k ≤ ops.size → (st k).tmps[t]? = (st (i + 1)).tmps[t]? := by
    intro i o t ho ht k
    induction k with
    | zero => intro h _; omega
    | succ k ih =>
      intro hk hks
      by_cases e : k = i
      · subst e; rfl
      · obtain ⟨v, _, e'⟩ := hs' k ops[k] (Array.getElem?_eq_getElem (by omega))
        rw [e', put_other _ _ (D.once k ops[k] i o (Array.getElem?_eq_getElem (by omega)) ho (by omega) t ht)]
        exact ih (by omega) (by omega)
  refine wp_region_any hm (wpAny_inv (DInv ops I a (st ops.size)) ?_ ?_ _ _ _ _ ?_ ?_)
  · intro listed b w i hinv hi
    have hlt : i < ops.size := by
      have := (List.mem_filter.1 hi).1
      simpa using this
    have ho : ops[i]? = some ops[i] := Array.getElem?_eq_getElem hlt
    generalize ops[i] = o at ho
    obtain ⟨r1, r2⟩ := ready_mem hi ho
    obtain ⟨v, hv, hst⟩ := hs' i o ho
    have hli : i < listed.size := by rw [hinv.size]; exact hlt
    have agree : ∀ t ∈ o.looksAt ops, b.tmps[t]? = (st i).tmps[t]? := by
      intro t ht
      by_cases hex : ∃ (j : Nat) (p : Oper), ops[j]? = some p ∧ p.dst = some t
      · obtain ⟨j, p, hj, hp⟩ := hex
        obtain ⟨e, he, hb, hon⟩ := D.ahead i o ho t ht j p hj hp
        have hlj : listed.getD j false = true := by rw [← hon]; exact r2 e he hb
        have hji : j < i := by rw [← hon]; exact D.back i o ho e he
        rw [hinv.done t j p hj hp hlj, hkeep j p t hj hp ops.size (by omega) (Nat.le_refl _), hkeep j p t hj hp i (by omega) (by omega)]
      · rw [hinv.todo t fun j p hj hp => absurd ⟨j, p, hj, hp⟩ hex, hun i (by omega) t fun j p _ hj hp => hex ⟨j, p, hj, hp⟩]
    have hbs : b.tmps.size = (st i).tmps.size := by rw [hinv.tsize, (hsize i (by omega)).1]
    have hnew : ∀ w', I w' → DInv ops I a (st ops.size) (listed.setIfInBounds i true) (b.put o.dst v) w' := by
      intro w' hw'
      refine ⟨by simpa using hinv.size, by rw [put_defs]; exact hinv.defs, by rw [put_size]; exact hinv.tsize, hw', fun t j p hj hp hl => ?_, fun t hno => ?_⟩
      · by_cases e : j = i
        · subst e
          rw [ho] at hj
          cases hj
          rw [hkeep j o t ho hp ops.size (by omega) (Nat.le_refl _), hst]
          exact put_same _ _ hp hbs
        · have hne : o.dst ≠ some t := by
            by_cases hji : j < i
            · exact D.once i o j p ho hj hji t hp
            · exact fun e' => D.once j p i o hj ho (by omega) t e' hp
          rw [put_other _ _ hne]
          refine hinv.done t j p hj hp ?_
          simpa [Ne.symm e] using hl
      · have hne : o.dst ≠ some t := fun e' => by
          have := hno i o ho e'
          simp [hli] at this
        rw [put_other _ _ hne]
        refine hinv.todo t fun j p hj hp => ?_
        have := hno j p hj hp
        by_cases e : j = i
        · subst e
          rw [ho] at hj
          cases hj
          exact absurd hp hne
        · simpa [Ne.symm e] using this
    have hwant : Region.wanted o (yielded ops b.tmps) = Region.wanted o (yielded ops (st i).tmps) := by
      unfold Region.wanted
      cases hg : o.guard with
      | none => rfl
      | some g =>
        obtain ⟨j, want⟩ := g
        simp only []
        rw [yielded_congr (x := b.tmps) (y := (st i).tmps) (j := j) fun t ht => agree t (by simp [Oper.looksAt, hg, ht])]
    unfold wpOp
    rw [ho]
    simp only []
    rcases hv with ⟨hw, hvu⟩ | ⟨hw, hrun⟩
    · rw [hwant, hw]
      subst hvu
      exact hnew _ hinv.world
    · rw [hwant, hw]
      simp only [if_true]
      left
      have hev : execOp b.eval o = execOp (st i).eval o := by
        refine execOp_congr o (D.plain i o ho) fun x hx => ?_
        cases x with
        | tmp t =>
          have := agree t (by
            unfold Oper.looksAt
            refine List.mem_append_left _ (List.mem_filterMap.2 ⟨.tmp t, by simpa using hx, rfl⟩))
          simp only [Act.eval, Array.getD_eq_getD_getElem?, this]
        | _ => rfl
      have hr := hrun w hinv.world
      unfold Oper.wp at hr ⊢
      rw [hev]
      generalize (execOp (st i).eval o).run P w = res at hr
      cases res with
      | ok nx w' =>
        cases nx with
        | value u =>
          simp only [Oper.upon] at hr ⊢
          rw [put_inj hr.1 hbs]
          exact hnew _ hr.2
        | skip =>
          simp only [Oper.upon] at hr ⊢
          rw [put_inj hr.1 hbs]
          exact hnew _ hr.2
        | enter f args =>
          simp only [Oper.upon] at hr ⊢
          refine Calls.mono hr fun e w'' he => ?_
          cases e with
          | returned u =>
            simp only [] at he ⊢
            rw [put_inj he.1 hbs]
            exact hnew _ he.2
          | panicked ch => exact absurd he (by simp)
          | outgrown =>
            simp only [] at he
            obtain ⟨_, _, hh⟩ := he
            exact absurd hh (by simp)
        | row rw' args =>
          simp only [Oper.upon] at hr ⊢
          refine Rows.mono hr fun u w'' he => ?_
          rw [put_inj he.1 hbs]
          exact hnew _ he.2
        | _ => first | (simp only [Oper.upon] at hr; done) | (simp only [Oper.upon] at hr; have := congrArg (fun x : Act => x.defers) hr.1; simp [put_defs] at this)
      | halt x w' => cases x <;> simp only [Oper.upon] at hr
  · intro listed b w hinv hr
    have hall : ∀ i : Nat, i < ops.size → listed.getD i false = true := by
      intro i
      induction i using Nat.strongRecOn with
      | _ i ih =>
        intro hlt
        cases hc : listed.getD i false with
        | true => rfl
        | false =>
          exfalso
          have ho : ops[i]? = some ops[i] := Array.getElem?_eq_getElem hlt
          have hx : i < listed.size := by rw [hinv.size]; exact hlt
          have hmem : i ∈ Region.ready .any ops listed := by
            unfold Region.ready
            rw [List.mem_filter]
            refine ⟨by simpa using hlt, ?_⟩
            simp only [Bool.and_eq_true, ho, Option.map_some, Option.getD_some, Array.all_eq_true_iff_forall_mem, Bool.or_eq_true]
            refine ⟨?_, fun e he => .inr (ih e.on (D.back i _ ho e he) (by have := D.back i _ ho e he; omega))⟩
            simp [hx] at hc ⊢
            exact hc
          rw [hr] at hmem
          simp at hmem
    have hb : b = st ops.size := by
      have ht : b.tmps = (st ops.size).tmps := by
        apply Array.ext_getElem?
        intro t
        by_cases hex : ∃ (j : Nat) (p : Oper), ops[j]? = some p ∧ p.dst = some t
        · obtain ⟨j, p, hj, hp⟩ := hex
          exact hinv.done t j p hj hp (hall j (Array.getElem?_eq_some_iff.1 hj).1)
        · rw [hinv.todo t fun j p hj hp => absurd ⟨j, p, hj, hp⟩ hex, hun ops.size (Nat.le_refl _) t fun j p _ hj hp => hex ⟨j, p, hj, hp⟩]
      have hd : b.defers = (st ops.size).defers := by rw [hinv.defs, (hsize _ (Nat.le_refl _)).2]
      cases b
      cases hst : st ops.size
      rw [hst] at ht hd
      simp only at ht hd
      rw [ht, hd]
    rw [hb]
    exact hF w hinv.world
  · have := List.countP_le_length (p := fun i => !(Array.replicate ops.size false).getD i true) (l := List.range ops.size)
    simpa using this
  · exact ⟨by simp, rfl, rfl, hI, fun t i o ho _ hl => by
      have hi : i < ops.size := (Array.getElem?_eq_some_iff.1 ho).1
      simp [hi] at hl, fun t _ => rfl⟩
end Go.Proofs.Ytmcjljjagfpkkaa
