/-
  A region whose order is drawn, where an operation may yield a value that its world decides: each such value is known by what holds of it from then on. One walk in the order of the text serves. Conditions: as the theorem states.
-/
import Derived.Test.YtmcjljjagfpkkaaSeqDet
set_option linter.all false
namespace Go.Proofs.Ytmcjljjagfpkkaa
open Go.RowKit

/-- What an operation yields: a value that is the same in every world, or any value of which V holds in the world that it leaves. -/
inductive Spec where
  | val (v : Value)
  | any (V : Value → World → Prop)

/-- What is known of the values that the operation looks at. -/
def Known (ops : Array Oper) (o : Oper) : List (Tmp × (World → Prop)) → World → Prop
  | [], _ => True
  | p :: r, w => ((o.looksAt ops).contains p.1 = true → p.2 w) ∧ Known ops o r w

def AllOf : List (Tmp × (World → Prop)) → World → Prop
  | [], _ => True
  | p :: r, w => p.2 w ∧ AllOf r w

structure Moves (S : World → World → Prop) : Prop where
  refl : ∀ w, S w w
  trans : ∀ {x y z}, S x y → S y z → S x z

def NdVal (P : Program) (ops : Array Oper) (S : World → World → Prop) (w0 : World) (facts : List (Tmp × (World → Prop))) (o : Oper) (a : Act) (v : Value) : Prop :=
  (Region.wanted o (yielded ops a.tmps) = false ∧ v = undef) ∨
  (Region.wanted o (yielded ops a.tmps) = true ∧ ∀ w, S w0 w → Known ops o facts w → ∀ K : Act → World → Prop, (∀ w', S w w' → K (a.put o.dst v) w') → o.wp P a w K (fun _ _ _ => False))
def NdAny (P : Program) (ops : Array Oper) (S : World → World → Prop) (w0 : World) (facts : List (Tmp × (World → Prop))) (o : Oper) (a : Act) (V : Value → World → Prop) : Prop :=
  Region.wanted o (yielded ops a.tmps) = true ∧ (∀ v w w', V v w → S w w' → V v w') ∧
  ∀ w, S w0 w → Known ops o facts w → ∀ K : Act → World → Prop, (∀ u w', S w w' → V u w' → K (a.put o.dst u) w') → o.wp P a w K (fun _ _ _ => False)

def SeqNd (P : Program) (ops : Array Oper) (S : World → World → Prop) (w0 : World) (Fin : List (Tmp × (World → Prop)) → Act → Prop) :
    List Oper → List Spec → List (Tmp × (World → Prop)) → Act → Prop
  | [], [], facts, a => Fin facts a
  | o :: r, .val v :: s, facts, a => NdVal P ops S w0 facts o a v ∧ SeqNd P ops S w0 Fin r s facts (a.put o.dst v)
  | o :: r, .any V :: s, facts, a => ∃ t, o.dst = some t ∧ NdAny P ops S w0 facts o a V ∧ ∀ u, SeqNd P ops S w0 Fin r s ((t, V u) :: facts) (a.put o.dst u)
  | _, _, _, _ => False

section
variable {P : Program} {ops : Array Oper} {S : World → World → Prop} {w0 : World} {Fin : List (Tmp × (World → Prop)) → Act → Prop} {o : Oper} {r : List Oper} {s : List Spec} {facts : List (Tmp × (World → Prop))} {a : Act}

theorem SeqNd.val {v : Value} (hw : Region.wanted o (yielded ops a.tmps) = true)
    (h : ∀ w, S w0 w → Known ops o facts w → ∀ K : Act → World → Prop, (∀ w', S w w' → K (a.put o.dst v) w') → o.wp P a w K (fun _ _ _ => False))
    (hr : SeqNd P ops S w0 Fin r s facts (a.put o.dst v)) : SeqNd P ops S w0 Fin (o :: r) (.val v :: s) facts a := ⟨.inr ⟨hw, h⟩, hr⟩
theorem SeqNd.skip (hw : Region.wanted o (yielded ops a.tmps) = false)
    (hr : SeqNd P ops S w0 Fin r s facts (a.put o.dst undef)) : SeqNd P ops S w0 Fin (o :: r) (.val undef :: s) facts a := ⟨.inl ⟨hw, rfl⟩, hr⟩
theorem SeqNd.any {V : Value → World → Prop} {t : Tmp} (ht : o.dst = some t) (hw : Region.wanted o (yielded ops a.tmps) = true) (hV : ∀ v w w', V v w → S w w' → V v w')
    (h : ∀ w, S w0 w → Known ops o facts w → ∀ K : Act → World → Prop, (∀ u w', S w w' → V u w' → K (a.put o.dst u) w') → o.wp P a w K (fun _ _ _ => False))
    (hr : ∀ u, SeqNd P ops S w0 Fin r s ((t, V u) :: facts) (a.put o.dst u)) : SeqNd P ops S w0 Fin (o :: r) (.any V :: s) facts a := ⟨t, ht, ⟨hw, hV, h⟩, hr⟩
theorem SeqNd.nil (h : Fin facts a) : SeqNd P ops S w0 Fin [] [] facts a := h
end

/-- The value of operation i, where vs tells the values of those that are free. -/
def pickV (specs : List Spec) (vs : Nat → Value) (i : Nat) : Value :=
  match specs[i]? with
  | some (.val v) => v
  | some (.any _) => vs i
  | none => undef

def stN (L : List Oper) (specs : List Spec) (vs : Nat → Value) (a : Act) : Nat → Act
  | 0 => a
  | k + 1 => match L[k]? with
    | some o => (stN L specs vs a k).put o.dst (pickV specs vs k)
    | none => stN L specs vs a k

theorem stN_shift (o : Oper) (L : List Oper) (p : Spec) (specs : List Spec) (vs : Nat → Value) (a : Act) (k : Nat) :
    stN (o :: L) (p :: specs) vs a (k + 1) = stN L specs (fun i => vs (i + 1)) (a.put o.dst (pickV (p :: specs) vs 0)) k := by
  induction k with
  | zero => simp [stN]
  | succ k ih =>
    rw [stN, ih]
    simp only [List.getElem?_cons_succ]
    rw [stN]
    cases L[k]? with
    | none => rfl
    | some q => simp only [pickV, List.getElem?_cons_succ]

theorem stN_congr (L : List Oper) (specs : List Spec) {vs us : Nat → Value} (a : Act) (k : Nat) (h : ∀ i, i < k → pickV specs vs i = pickV specs us i) : stN L specs vs a k = stN L specs us a k := by
  induction k with
  | zero => rfl
  | succ k ih =>
    simp only [stN]
    rw [ih fun i hi => h i (by omega), h k (by omega)]

/-- The facts come from free values of operations ahead. -/
def FromAhead (L : List Oper) (specs : List Spec) (vs : Nat → Value) (i : Nat) (base facts : List (Tmp × (World → Prop))) : Prop :=
  ∀ p ∈ facts, p ∈ base ∨ ∃ j o V, j < i ∧ L[j]? = some o ∧ specs[j]? = some (.any V) ∧ o.dst = some p.1 ∧ p.2 = V (vs j)

theorem SeqNd.states {P : Program} {ops : Array Oper} {S : World → World → Prop} {w0 : World} {Fin : List (Tmp × (World → Prop)) → Act → Prop} :
    ∀ (L : List Oper) (specs : List Spec) (base : List (Tmp × (World → Prop))) (a : Act), SeqNd P ops S w0 Fin L specs base a → ∀ vs : Nat → Value,
      (∃ facts, FromAhead L specs vs L.length base facts ∧ Fin facts (stN L specs vs a L.length)) ∧
      ∀ (i : Nat) (o : Oper), L[i]? = some o → ∃ facts, FromAhead L specs vs i base facts ∧
        ((∃ v, specs[i]? = some (.val v) ∧ NdVal P ops S w0 facts o (stN L specs vs a i) v) ∨
         (∃ V t, specs[i]? = some (.any V) ∧ o.dst = some t ∧ NdAny P ops S w0 facts o (stN L specs vs a i) V))
  | [], [], base, a, h, vs => ⟨⟨base, fun p hp => .inl hp, h⟩, fun i o ho => by simp at ho⟩
  | [], _ :: _, base, a, h, vs => by simp [SeqNd] at h
  | _ :: _, [], base, a, h, vs => by simp [SeqNd] at h
  | o :: L, .val v :: specs, base, a, h, vs => by
    obtain ⟨hv, hr⟩ := h
    obtain ⟨⟨facts, h1, h2⟩, h3⟩ := SeqNd.states L specs base _ hr (fun i => vs (i + 1))
    have lift : ∀ {i : Nat} {facts : List (Tmp × (World → Prop))}, FromAhead L specs (fun i => vs (i + 1)) i base facts → FromAhead (o :: L) (.val v :: specs) vs (i + 1) base facts := by
      intro i facts hf p hp
      rcases hf p hp with h | ⟨j, q, V, hj, e1, e2, e3, e4⟩
      · exact .inl h
      · exact .inr ⟨j + 1, q, V, by omega, by simpa using e1, by simpa using e2, e3, e4⟩
    refine ⟨⟨facts, lift h1, ?_⟩, fun i q hq => ?_⟩
    · rw [List.length_cons, stN_shift]
      exact h2
    · cases i with
      | zero =>
        simp at hq
        subst hq
        exact ⟨base, fun p hp => .inl hp, .inl ⟨v, rfl, hv⟩⟩
      | succ i =>
        obtain ⟨f, k1, k2⟩ := h3 i q (by simpa using hq)
        refine ⟨f, lift k1, ?_⟩
        rw [stN_shift]
        simpa [pickV] using k2
  | o :: L, .any V :: specs, base, a, h, vs => by
    obtain ⟨t, ht, hv, hr⟩ := h
    obtain ⟨⟨facts, h1, h2⟩, h3⟩ := SeqNd.states L specs _ _ (hr (vs 0)) (fun i => vs (i + 1))
    have lift : ∀ {i : Nat} {facts : List (Tmp × (World → Prop))}, FromAhead L specs (fun i => vs (i + 1)) i ((t, V (vs 0)) :: base) facts → FromAhead (o :: L) (.any V :: specs) vs (i + 1) base facts := by
      intro i facts hf p hp
      rcases hf p hp with h | ⟨j, q, V', hj, e1, e2, e3, e4⟩
      · rcases List.mem_cons.1 h with h | h
        · exact .inr ⟨0, o, V, by omega, rfl, rfl, by rw [h, ht], by rw [h]⟩
        · exact .inl h
      · exact .inr ⟨j + 1, q, V', by omega, by simpa using e1, by simpa using e2, e3, e4⟩
    refine ⟨⟨facts, lift h1, ?_⟩, fun i q hq => ?_⟩
    · rw [List.length_cons, stN_shift]
      exact h2
    · cases i with
      | zero =>
        simp at hq
        subst hq
        exact ⟨base, fun p hp => .inl hp, .inr ⟨V, t, rfl, ht, hv⟩⟩
      | succ i =>
        obtain ⟨f, k1, k2⟩ := h3 i q (by simpa using hq)
        refine ⟨f, lift k1, ?_⟩
        rw [stN_shift]
        simpa [pickV] using k2

theorem AllOf.of {facts : List (Tmp × (World → Prop))} {w : World} (h : ∀ p ∈ facts, p.2 w) : AllOf facts w := by
  induction facts with
  | nil => trivial
  | cons p r ih => exact ⟨h p (by simp), ih fun q hq => h q (by simp [hq])⟩
theorem Known.of {ops : Array Oper} {o : Oper} {facts : List (Tmp × (World → Prop))} {w : World} (h : ∀ p ∈ facts, p.1 ∈ o.looksAt ops → p.2 w) : Known ops o facts w := by
  induction facts with
  | nil => trivial
  | cons p r ih => exact ⟨fun hc => h p (by simp) (by simpa using hc), ih fun q hq => h q (by simp [hq])⟩

structure NInv (ops : Array Oper) (S : World → World → Prop) (w0 : World) (specs : List Spec) (a : Act) (vs : Nat → Value) (listed : Array Bool) (b : Act) (w : World) : Prop where
  size : listed.size = ops.size
  defs : b.defers = a.defers
  tsize : b.tmps.size = a.tmps.size
  world : S w0 w
  done : ∀ (t : Tmp) (i : Nat) (o : Oper), ops[i]? = some o → o.dst = some t → listed.getD i false = true → b.tmps[t]? = (a.put (some t) (pickV specs vs i)).tmps[t]?
  todo : ∀ t : Tmp, (∀ (i : Nat) (o : Oper), ops[i]? = some o → o.dst = some t → listed.getD i false = false) → b.tmps[t]? = a.tmps[t]?
  known : ∀ (i : Nat) (V : Value → World → Prop), specs[i]? = some (.any V) → listed.getD i false = true → V (vs i) w

theorem slot_put (a : Act) (t : Tmp) (v : Value) : (a.put (some t) v).tmps[t]? = if t < a.tmps.size then some v else none := by
  simp [Act.put, Array.getElem?_setIfInBounds]

set_option maxHeartbeats 1600000 in
theorem region_nd {P : Program} {ops : Array Oper} {Q : Exit → Act → World → Prop} {id : Nat} {a : Act} {w : World} (S : World → World → Prop) (specs : List Spec) (hm : P.follows .mixedOrders = true) (hok : detOk ops = true) (hS : Moves S)
    (h : SeqNd P ops S w.drew (fun facts aF => ∀ w', S w.drew w' → AllOf facts w' → Q .normal aF w') ops.toList specs [] a) : (Code.region id ops true).wp P Q a w := by
  have D := DetOk.of hok
  have hn : ops.toList.length = ops.size := by simp
  have hst := SeqNd.states _ _ _ _ h
  rw [hn] at hst
  have hget : ∀ i : Nat, ops.toList[i]? = ops[i]? := fun i => by simp
  have hsize : ∀ vs k, (stN ops.toList specs vs a k).tmps.size = a.tmps.size ∧ (stN ops.toList specs vs a k).defers = a.defers := by
    intro vs k
    induction k with
    | zero => exact ⟨rfl, rfl⟩
    | succ k ih =>
      rw [stN]
      cases ops.toList[k]? with
      | none => exact ih
      | some o => simp only [put_size, put_defs]; exact ih
  have hun : ∀ vs k, ∀ t : Tmp, (∀ (j : Nat) (o : Oper), j < k → ops[j]? = some o → o.dst ≠ some t) → (stN ops.toList specs vs a k).tmps[t]? = a.tmps[t]? := by
    intro vs k
    induction k with
    | zero => intro t _; rfl
    | succ k ih =>
      intro t hno
      rw [stN]
      cases ho : ops.toList[k]? with
      | none => exact ih t fun j o hj => hno j o (by omega)
      | some o =>
        simp only []
        rw [put_other _ _ (hno k o (by omega) (by rw [← hget]; exact ho))]
        exact ih t fun j o hj => hno j o (by omega)
  have hslot : ∀ vs k (i : Nat) (o : Oper) (t : Tmp), ops[i]? = some o → o.dst = some t → i < k → (stN ops.toList specs vs a k).tmps[t]? = (a.put (some t) (pickV specs vs i)).tmps[t]? := by
    intro vs k
    induction k with
    | zero => intro i o t _ _ hk; omega
    | succ k ih =>
      intro i o t ho ht hk
      rw [stN]
      by_cases e : k = i
      · subst e
        rw [hget, ho]
        simp only [ht]
        rw [slot_put, slot_put, (hsize vs k).1]
      · cases hq : ops.toList[k]? with
        | none => exact ih i o t ho ht (by omega)
        | some q =>
          simp only []
          rw [put_other _ _ (D.once k q i o (by rw [← hget]; exact hq) ho (by omega) t ht)]
          exact ih i o t ho ht (by omega)
  refine wp_region_any hm (wpAny_inv (fun listed b w' => ∃ vs, NInv ops S w.drew specs a vs listed b w') ?_ ?_ _ _ _ _ ?_ ?_)
  · rintro listed b w1 i ⟨vs, hinv⟩ hi
    have hlt : i < ops.size := by
      have := (List.mem_filter.1 hi).1
      simpa using this
    have ho : ops[i]? = some ops[i] := Array.getElem?_eq_getElem hlt
    generalize ops[i] = o at ho
    obtain ⟨r1, r2⟩ := ready_mem hi ho
    obtain ⟨facts, hfrom, hv⟩ := (hst vs).2 i o (by rw [hget]; exact ho)
    have hli : i < listed.size := by rw [hinv.size]; exact hlt
    have hlf : listed.getD i false = false := by
      simp [hli] at r1 ⊢
      exact r1
    have agree : ∀ t ∈ o.looksAt ops, b.tmps[t]? = (stN ops.toList specs vs a i).tmps[t]? := by
      intro t ht
      by_cases hex : ∃ (j : Nat) (p : Oper), ops[j]? = some p ∧ p.dst = some t
      · obtain ⟨j, p, hj, hp⟩ := hex
        obtain ⟨e, he, hb, hon⟩ := D.ahead i o ho t ht j p hj hp
        have hlj : listed.getD j false = true := by rw [← hon]; exact r2 e he hb
        have hji : j < i := by rw [← hon]; exact D.back i o ho e he
        rw [hinv.done t j p hj hp hlj, hslot vs i j p t hj hp hji]
      · rw [hinv.todo t fun j p hj hp => absurd ⟨j, p, hj, hp⟩ hex, hun vs i t fun j p _ hj hp => hex ⟨j, p, hj, hp⟩]
    have hknown : Known ops o facts w1 := Known.of fun p hp hl => by
      rcases hfrom p hp with h | ⟨j, q, V, hj, e1, e2, e3, e4⟩
      · simp at h
      · rw [e4]
        obtain ⟨e, he, hb, hon⟩ := D.ahead i o ho p.1 hl j q (by rw [← hget]; exact e1) e3
        exact hinv.known j V e2 (by rw [← hon]; exact r2 e he hb)
    have hbs : b.tmps.size = (stN ops.toList specs vs a i).tmps.size := by rw [hinv.tsize, (hsize vs i).1]
    have hnew : ∀ (us : Nat → Value) w', (∀ j, j ≠ i → us j = vs j) → S w1 w' → (∀ j V, specs[j]? = some (.any V) → listed.getD j false = true → V (us j) w') →
        (∀ V, specs[i]? = some (.any V) → V (us i) w') → NInv ops S w.drew specs a us (listed.setIfInBounds i true) (b.put o.dst (pickV specs us i)) w' := by
      intro us w' hus hw' hk1 hk2
      have hpick : ∀ j, j ≠ i → pickV specs us j = pickV specs vs j := fun j hj => by unfold pickV; rw [hus j hj]
      refine ⟨by simpa using hinv.size, by rw [put_defs]; exact hinv.defs, by rw [put_size]; exact hinv.tsize, hS.trans hinv.world hw', fun t j p hj hp hl => ?_, fun t hno => ?_, fun j V hj hl => ?_⟩
      · by_cases e : j = i
        · subst e
          rw [ho] at hj
          cases hj
          rw [hp, slot_put, slot_put, hinv.tsize]
        · have hne : o.dst ≠ some t := by
            by_cases hji : j < i
            · exact D.once i o j p ho hj hji t hp
            · exact fun e' => D.once j p i o hj ho (by omega) t e' hp
          rw [put_other _ _ hne, hpick j e]
          refine hinv.done t j p hj hp ?_
          simpa [Ne.symm e] using hl
      · have hne : o.dst ≠ some t := fun e' => by
          have := hno i o ho e'
          simp [hli] at this
        rw [put_other _ _ hne]
        refine hinv.todo t fun j p hj hp => ?_
        have := hno j p hj hp
        by_cases e : j = i
        · subst e
          rw [ho] at hj
          cases hj
          exact absurd hp hne
        · simpa [Ne.symm e] using this
      · by_cases e : j = i
        · subst e
          exact hk2 V hj
        · exact hk1 j V hj (by simpa [Ne.symm e] using hl)
    have hwant : Region.wanted o (yielded ops b.tmps) = Region.wanted o (yielded ops (stN ops.toList specs vs a i).tmps) := by
      unfold Region.wanted
      cases hg : o.guard with
      | none => rfl
      | some g =>
        obtain ⟨j, want⟩ := g
        simp only []
        rw [yielded_congr (x := b.tmps) (y := (stN ops.toList specs vs a i).tmps) (j := j) fun t ht => agree t (by simp [Oper.looksAt, hg, ht])]
    have hev : execOp b.eval o = execOp (stN ops.toList specs vs a i).eval o := by
      refine execOp_congr o (D.plain i o ho) fun x hx => ?_
      cases x with
      | tmp t =>
        have := agree t (by
          unfold Oper.looksAt
          refine List.mem_append_left _ (List.mem_filterMap.2 ⟨.tmp t, by simpa using hx, rfl⟩))
        simp only [Act.eval, Array.getD_eq_getD_getElem?, this]
      | _ => rfl
    have known' : ∀ {w'}, S w1 w' → ∀ j V, specs[j]? = some (.any V) → (∀ v w w', V v w → S w w' → V v w') → listed.getD j false = true → V (vs j) w' :=
      fun hw' j V hj hst hl => hst _ _ _ (hinv.known j V hj hl) hw'
    have stab : ∀ j V, specs[j]? = some (.any V) → listed.getD j false = true → ∀ v w w', V v w → S w w' → V v w' := by
      intro j V hj hl
      have hjs : j < ops.size := by
        by_cases hjs : j < ops.size
        · exact hjs
        · rw [Array.getD_eq_getD_getElem?, Array.getElem?_eq_none (by rw [hinv.size]; omega)] at hl
          simp at hl
      obtain ⟨f, _, hv'⟩ := (hst vs).2 j ops[j] (by rw [hget]; exact Array.getElem?_eq_getElem hjs)
      rcases hv' with ⟨v, e, _⟩ | ⟨V', t, e, _, hN⟩
      · rw [hj] at e; cases e
      · rw [hj] at e; cases e
        exact hN.2.1
    -- the run of the operation, whatever its reward
    have run : ∀ (Vw : Value → World → Prop), (∀ K : Act → World → Prop, (∀ u w', S w1 w' → Vw u w' → K ((stN ops.toList specs vs a i).put o.dst u) w') → o.wp P (stN ops.toList specs vs a i) w1 K (fun _ _ _ => False)) →
        (∀ u w', S w1 w' → Vw u w' → ∃ us, NInv ops S w.drew specs a us (listed.setIfInBounds i true) (b.put o.dst u) w') →
        o.wp P b w1 (fun a' w' => ∃ us, NInv ops S w.drew specs a us (listed.setIfInBounds i true) a' w') (fun e a' w' => Q e a' w') := by
      intro Vw hrun hgo
      have hr := hrun (fun a' w' => ∃ u, a' = (stN ops.toList specs vs a i).put o.dst u ∧ S w1 w' ∧ Vw u w') fun u w' h1 h2 => ⟨u, rfl, h1, h2⟩
      have fin : ∀ x w', (∃ u, (stN ops.toList specs vs a i).put o.dst x = (stN ops.toList specs vs a i).put o.dst u ∧ S w1 w' ∧ Vw u w') → ∃ us, NInv ops S w.drew specs a us (listed.setIfInBounds i true) (b.put o.dst x) w' := by
        rintro x w' ⟨u, e, h1, h2⟩
        rw [put_inj e hbs]
        exact hgo u w' h1 h2
      unfold Oper.wp at hr ⊢
      rw [hev]
      generalize (execOp (stN ops.toList specs vs a i).eval o).run P w1 = res at hr
      cases res with
      | ok nx w' =>
        cases nx with
        | value u =>
          simp only [Oper.upon] at hr ⊢
          exact fin _ _ hr
        | skip =>
          simp only [Oper.upon] at hr ⊢
          exact fin _ _ hr
        | enter f args =>
          simp only [Oper.upon] at hr ⊢
          refine Calls.mono hr fun e w'' he => ?_
          cases e with
          | returned u =>
            simp only [] at he ⊢
            exact fin _ _ he
          | panicked ch => exact absurd he (by simp)
          | outgrown =>
            simp only [] at he
            obtain ⟨_, _, hh⟩ := he
            exact absurd hh (by simp)
        | row rw' args =>
          simp only [Oper.upon] at hr ⊢
          refine Rows.mono hr fun u w'' he => ?_
          exact fin _ _ he
        | _ => first | (simp only [Oper.upon] at hr; done) | (simp only [Oper.upon] at hr; obtain ⟨u, hr, _⟩ := hr; have := congrArg (fun x : Act => x.defers) hr; simp [put_defs] at this)
      | halt x w' => cases x <;> simp only [Oper.upon] at hr
    unfold wpOp
    rw [ho]
    simp only []
    rcases hv with ⟨v, hsp, hN⟩ | ⟨V, t, hsp, ht, hw, hstab, hrun⟩
    · have hpv : ∀ us, pickV specs us i = v := fun us => by unfold pickV; rw [hsp]
      rcases hN with ⟨hw, hvu⟩ | ⟨hw, hrun⟩
      · rw [hwant, hw]
        subst hvu
        refine ⟨vs, ?_⟩
        have := hnew vs w1 (fun _ _ => rfl) (hS.refl _) (fun j V hj hl => hinv.known j V hj hl) (fun V hV => by rw [hsp] at hV; cases hV)
        rw [hpv] at this
        exact this
      · rw [hwant, hw]
        simp only [if_true]
        left
        refine run (fun u _ => u = v) (fun K hK => hrun w1 hinv.world hknown K fun w' hw' => hK v w' hw' rfl) ?_
        rintro u w' hw' rfl
        refine ⟨vs, ?_⟩
        have := hnew vs w' (fun _ _ => rfl) hw' (fun j V hj hl => stab j V hj hl _ _ _ (hinv.known j V hj hl) hw') (fun V hV => by rw [hsp] at hV; cases hV)
        rw [hpv] at this
        exact this
    · rw [hwant, hw]
      simp only [if_true]
      left
      refine run V (fun K hK => hrun w1 hinv.world hknown K fun u w' hw' hV => hK u w' hw' hV) ?_
      intro u w' hw' hVu
      refine ⟨fun j => if j = i then u else vs j, ?_⟩
      have hpv : pickV specs (fun j => if j = i then u else vs j) i = u := by unfold pickV; rw [hsp]; simp
      have := hnew (fun j => if j = i then u else vs j) w' (fun j hj => by simp [hj]) hw'
        (fun j V' hj hl => by
          have hji : j ≠ i := fun e => by rw [e, hlf] at hl; cases hl
          simp only [hji, if_false]
          exact stab j V' hj hl _ _ _ (hinv.known j V' hj hl) hw')
        (fun V' hV' => by rw [hsp] at hV'; cases hV'; simpa using hVu)
      rw [hpv] at this
      exact this
  · rintro listed b w1 ⟨vs, hinv⟩ hr
    have hall : ∀ i : Nat, i < ops.size → listed.getD i false = true := by
      intro i
      induction i using Nat.strongRecOn with
      | _ i ih =>
        intro hlt
        cases hc : listed.getD i false with
        | true => rfl
        | false =>
          exfalso
          have ho : ops[i]? = some ops[i] := Array.getElem?_eq_getElem hlt
          have hx : i < listed.size := by rw [hinv.size]; exact hlt
          have hmem : i ∈ Region.ready .any ops listed := by
            unfold Region.ready
            rw [List.mem_filter]
            refine ⟨by simpa using hlt, ?_⟩
            simp only [Bool.and_eq_true, ho, Option.map_some, Option.getD_some, Array.all_eq_true_iff_forall_mem, Bool.or_eq_true]
            refine ⟨?_, fun e he => .inr (ih e.on (D.back i _ ho e he) (by have := D.back i _ ho e he; omega))⟩
            simp [hx] at hc ⊢
            exact hc
          rw [hr] at hmem
          simp at hmem
    have hb : b = stN ops.toList specs vs a ops.size := by
      have ht : b.tmps = (stN ops.toList specs vs a ops.size).tmps := by
        apply Array.ext_getElem?
        intro t
        by_cases hex : ∃ (j : Nat) (p : Oper), ops[j]? = some p ∧ p.dst = some t
        · obtain ⟨j, p, hj, hp⟩ := hex
          have hjs := (Array.getElem?_eq_some_iff.1 hj).1
          rw [hinv.done t j p hj hp (hall j hjs), hslot vs ops.size j p t hj hp hjs]
        · rw [hinv.todo t fun j p hj hp => absurd ⟨j, p, hj, hp⟩ hex, hun vs ops.size t fun j p _ hj hp => hex ⟨j, p, hj, hp⟩]
      have hd : b.defers = (stN ops.toList specs vs a ops.size).defers := by rw [hinv.defs, (hsize vs _).2]
      cases b
      cases hst : stN ops.toList specs vs a ops.size
      rw [hst] at ht hd
      simp only at ht hd
      rw [ht, hd]
    obtain ⟨facts, hfrom, hF⟩ := (hst vs).1
    rw [hb]
    refine hF w1 hinv.world (AllOf.of fun p hp => ?_)
    rcases hfrom p hp with h | ⟨j, q, V, hj, e1, e2, e3, e4⟩
    · simp at h
    · rw [e4]
      exact hinv.known j V e2 (hall j hj)
  · have := List.countP_le_length (p := fun i => !(Array.replicate ops.size false).getD i true) (l := List.range ops.size)
    simpa using this
  · refine ⟨fun _ => undef, by simp, rfl, rfl, hS.refl _, fun t i o ho _ hl => ?_, fun t _ => rfl, fun i V _ hl => ?_⟩
    · have hi : i < ops.size := (Array.getElem?_eq_some_iff.1 ho).1
      simp [hi] at hl
    · by_cases hi : i < ops.size
      · simp [hi] at hl
      · simp [hi] at hl

/-- What stood there stays, and what comes to be lies behind it: the steps of a region. -/
def Grow (w w' : World) : Prop := Below w.heap.size w w'
theorem grow_moves : Moves Grow := ⟨fun w => Below.refl _ w, fun h k => h.trans (k.mono h.size)⟩
end Go.Proofs.Ytmcjljjagfpkkaa
