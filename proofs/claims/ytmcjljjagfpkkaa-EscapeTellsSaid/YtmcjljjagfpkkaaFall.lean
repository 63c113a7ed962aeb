/-
  The rest of a statement whose outcome is known once one Bool in it is: what is passed over, moved and picked, told by slots. Conditions: as the theorem states.
-/
import Derived.WalkKit
set_option linter.all false
namespace Go.Proofs.Ytmcjljjagfpkkaa
open Go.RowKit
/-- what is known of the slots -/
abbrev Known1 := List (Tmp × Value)
def getK (F : Known1) (t : Tmp) : Option Value := (F.find? fun p => p.1 == t).map (·.2)
def putK (F : Known1) (t : Tmp) (v : Value) : Known1 := (t, v) :: F.filter fun p => p.1 != t
def operK (F : Known1) : Operand → Option Value
  | .tmp t => getK F t
  | .const v => some v
  | _ => none
def valK (F : Known1) (o : Oper) : Option Value :=
  match o.op with
  | .move x => operK F x
  | .assign x => operK F x
  | .pick c x y => match operK F c with
    | some (.bool true) => operK F x
    | some (.bool false) => operK F y
    | _ => none
  | _ => none
def boolOf : Value → Option Bool
  | .bool b => some b
  | _ => none
def fallK (ops : Array Oper) (n : Nat) : List Oper → Known1 → Option Known1
  | [], F => some F
  | o :: r, F =>
    match o.dst with
    | none => none
    | some d =>
      if d < n then
        match o.guard with
        | none => match valK F o with
          | some v => fallK ops n r (putK F d v)
          | none => none
        | some (j, want) => match ((ops[j]?).bind (·.dst)).bind (getK F) with
          | none => none
          | some v => match boolOf v with
            | some b => if b = want then (match valK F o with
                | some u => fallK ops n r (putK F d u)
                | none => none) else fallK ops n r (putK F d undef)
            | none => fallK ops n r (putK F d undef)
      else none
def AgreeK (a : Act) (F : Known1) : Prop := ∀ t v, getK F t = some v → a.tmps[t]? = some v
theorem getK_put (F : Known1) (t s : Tmp) (v : Value) : getK (putK F t v) s = if s = t then some v else getK F s := by
  unfold getK putK
  by_cases h : s = t
  · subst h; simp
  · rw [if_neg h, List.find?_cons]
    have : (t == s) = false := by simpa using fun e => h e.symm
    simp only [this]
    congr 1
    induction F with
    | nil => rfl
    | cons p r ih =>
      by_cases hp : p.1 = t
      · have h1 : (p.1 != t) = false := by simp [hp]
        have h2 : (p.1 == s) = false := by rw [hp]; exact this
        rw [List.filter_cons, h1, List.find?_cons, h2]
        exact ih
      · have h1 : (p.1 != t) = true := by simp [hp]
        rw [List.filter_cons, h1]
        simp only [if_true, List.find?_cons]
        split
        · rfl
        · exact ih
theorem AgreeK.put {a : Act} {F : Known1} (h : AgreeK a F) {d : Tmp} (hd : d < a.tmps.size) (v : Value) : AgreeK (a.put (some d) v) (putK F d v) := by
  intro t u ht
  rw [getK_put] at ht
  by_cases e : t = d
  · rw [if_pos e] at ht
    cases ht
    subst e
    simp [Act.put, hd]
  · rw [if_neg e] at ht
    have := h t u ht
    simp [Act.put, Array.getElem?_setIfInBounds, Ne.symm e, this]
theorem AgreeK.eval {a : Act} {F : Known1} (h : AgreeK a F) {x : Operand} {v : Value} (hx : operK F x = some v) : a.eval x = v := by
  cases x with
  | tmp t =>
    have := h t v hx
    simp [Act.eval, Array.getD_eq_getD_getElem?, this]
  | const u => simp only [operK, Option.some.injEq] at hx; exact hx
  | _ => simp [operK] at hx
theorem AgreeK.step {P : Program} {a : Act} {F : Known1} (h : AgreeK a F) {o : Oper} {v : Value} (hv : valK F o = some v) (w : World) (K : Act → World → Prop) (Q : Exit → Act → World → Prop)
    (hK : K (a.put o.dst v) w) : o.wp P a w K Q := by
  unfold valK at hv
  unfold Oper.wp
  split at hv
  · next x hop => simp [execOp, hop, h.eval hv]; exact hK
  · next x hop => simp [execOp, hop, h.eval hv]; exact hK
  · next c x y hop =>
    split at hv
    · next hc => simp [execOp, hop, h.eval hc, h.eval hv]; exact hK
    · next hc => simp [execOp, hop, h.eval hc, h.eval hv]; exact hK
    · cases hv
  · cases hv
theorem wpList_fall {P : Program} {ops : Array Oper} {Q : Exit → Act → World → Prop} {w : World} (rest : List Oper) (F G : Known1) (a : Act) (n : Nat) (hn : a.tmps.size = n) (hf : fallK ops n rest F = some G) (hF : AgreeK a F)
    (hK : ∀ a' : Act, a'.defers = a.defers → AgreeK a' G → Q .normal a' w) : wpList P ops Q rest a w := by
  induction rest generalizing F a with
  | nil =>
    simp only [fallK, Option.some.injEq] at hf
    subst hf
    exact hK a rfl hF
  | cons o r ih =>
    unfold fallK at hf
    have hd : ∃ d, o.dst = some d ∧ d < n := by
      split at hf
      · cases hf
      · next d hd =>
        by_cases hl : d < n
        · exact ⟨d, hd, hl⟩
        · rw [if_neg hl] at hf; cases hf
    obtain ⟨d, hd, hl⟩ := hd
    simp only [hd, if_pos hl] at hf
    have go : ∀ v, fallK ops n r (putK F d v) = some G → wpList P ops Q r (a.put o.dst v) w := by
      intro v h
      refine ih (putK F d v) (a.put o.dst v) (by simp [Act.put, hd, hn]) h ?_ ?_
      · rw [hd]; exact hF.put (by rw [hn]; exact hl) v
      · intro a' h1 h2
        exact hK a' (by rw [h1, hd]; rfl) h2
    have yes : ∀ v, valK F o = some v → fallK ops n r (putK F d v) = some G → o.wp P a w (wpList P ops Q r) Q := fun v h1 h2 => hF.step h1 w _ _ (go v h2)
    unfold wpList
    cases hg : o.guard with
    | none =>
      simp only [hg] at hf
      rw [if_pos (by simp [Region.wanted, hg])]
      split at hf
      · next v hv => exact .inl (yes v hv hf)
      · cases hf
    | some g =>
      obtain ⟨j, want⟩ := g
      simp only [hg] at hf
      split at hf
      · cases hf
      · next v hv =>
        have hy : yielded ops a.tmps j = boolOf v := by
          cases hdj : (ops[j]?).bind (·.dst) with
          | none => rw [hdj] at hv; cases hv
          | some t =>
            rw [hdj] at hv
            have := hF t v hv
            unfold yielded boolOf
            rw [hdj]
            simp only [Option.bind_some, this]
            cases v <;> rfl
        have hw : Region.wanted o (yielded ops a.tmps) = (boolOf v == some want) := by
          unfold Region.wanted
          rw [hg]
          simp only [hy]
        rw [hw]
        split at hf
        · next b hb =>
          rw [hb]
          by_cases e : b = want
          · rw [if_pos e] at hf
            subst e
            rw [if_pos (by simp)]
            split at hf
            · next u hu => exact .inl (yes u hu hf)
            · cases hf
          · rw [if_neg e] at hf
            rw [if_neg (by simpa using e)]
            exact go _ hf
        · next hb =>
          rw [hb]
          rw [if_neg (by simp)]
          exact go _ hf
theorem wpList_yes {P : Program} {ops : Array Oper} {Q : Exit → Act → World → Prop} {a : Act} {w : World} {rest : List Oper} {o : Oper} (hw : Region.wanted o (yielded ops a.tmps) = true)
    (h : ∀ K : Act → World → Prop, (∀ a w, wpList P ops Q rest a w → K a w) → o.wp P a w K Q) : wpList P ops Q (o :: rest) a w :=
  wpList_step fun K hK => by rw [if_pos hw]; exact h K hK
def fallOk (ops : Array Oper) (n : Nat) (rest : List Oper) (F : Known1) (r : Tmp) (b : Bool) : Bool :=
  match fallK ops n rest F with
  | some G => match getK G r with
    | some (.bool c) => c == b
    | _ => false
  | none => false
theorem wpList_fall1 {P : Program} {ops : Array Oper} {Q : Exit → Act → World → Prop} {w : World} {o : Oper} {rest : List Oper} {a : Act} (n : Nat) (t : Tmp) (c : Bool) (r : Tmp) (b : Bool) (hn : a.tmps.size = n) (ht : a.tmps[t]? = some (.bool c))
    (hf : fallOk ops n (o :: rest) [(t, .bool c)] r b = true)
    (hK : ∀ a' : Act, a'.defers = a.defers → a'.tmps[r]? = some (.bool b) → Q .normal a' w) : wpList P ops Q (o :: rest) a w := by
  unfold fallOk at hf
  split at hf
  · next G hG =>
    refine wpList_fall (o :: rest) _ G a n hn hG ?_ fun a' h1 h2 => ?_
    · intro s v hs
      unfold getK at hs
      rw [List.find?_cons] at hs
      by_cases e : t = s
      · subst e; simp at hs; rw [ht, hs]
      · have : (t == s) = false := by simpa using e
        rw [this] at hs
        cases hs
    · split at hf
      · next c hc =>
        have : c = b := by simpa using hf
        subst this
        exact hK a' h1 (h2 _ _ hc)
      · cases hf
  · cases hf
theorem bodyPost_fall {P : Program} {fn : Func} {R : Ending → World → Prop} {a : Act} {w : World} {r : Tmp} {b : Bool} (h : fn.results = #[.tmp r]) (ha : a.tmps[r]? = some (.bool b)) (hd : a.defers = []) (hR : R (.returned (.bool b)) w) :
    bodyPost P fn R .ret a w := by
  refine bodyPost_ret (results_tmp h a.tmps P w) hd ?_
  rw [Array.getD_eq_getD_getElem?, ha]
  exact hR
theorem cell2a (w : World) (c : Array Value) (t : TypeId) (o : Obj) (j : Nat) (v : Value) (h : c[j]? = some v) : ((w.alloc (.cells c t)).alloc o).cell? ⟨w.heap.size, j, none⟩ = some v := by
  have h0 := World.cell?_alloc_mark w c t (0, 0) j
  have hb : Below (w.alloc (.cells c t)).heap.size (w.alloc (.cells c t)) ((w.alloc (.cells c t)).alloc o) := (Below.refl _ _).alloc (Nat.le_refl _) o
  exact (hb.cell (p := ⟨w.heap.size, j, none⟩) (by simp)).trans (h0.trans h)
theorem cell2b (w : World) (c : Array Value) (t : TypeId) (o : Obj) (j : Nat) (v : Value) (h : c[j]? = some v) : ((w.alloc o).alloc (.cells c t)).cell? ⟨w.heap.size + 1, j, none⟩ = some v := by
  have h0 := World.cell?_alloc_mark (w.alloc o) c t (0, 0) j
  rw [World.size_alloc] at h0
  exact h0.trans h
end Go.Proofs.Ytmcjljjagfpkkaa
