/-
  The contract of class.kinds: it returns a new map with the rows of the table. Conditions: none.
-/
import Derived.Test.YtllgkmacjncelaaChecked
import Derived.Test.YtllgkmacjncelaaBase
import Derived.Test.YtllgkmacjncelaaRegion
import Derived.MapKept
import Derived.ChangeMaps5
set_option linter.all false
namespace Go.Proofs.Ytllgkmacjncelaa
open Go.RowKit

def str (l : List UInt8) : Value := .string ⟨l.toArray⟩
def kv (a b : List UInt8) : Value := .agg #[str a, str b]

def kindTab : List (List UInt8 × List UInt8 × Int) :=
  [([97], [104, 114, 101, 102], 1),
   ([97, 114, 101, 97], [104, 114, 101, 102], 1),
   ([108, 105, 110, 107], [104, 114, 101, 102], 1),
   ([105, 109, 103], [115, 114, 99], 1),
   ([105, 109, 103], [108, 111, 110, 103, 100, 101, 115, 99], 1),
   ([115, 99, 114, 105, 112, 116], [115, 114, 99], 1),
   ([105, 102, 114, 97, 109, 101], [115, 114, 99], 1),
   ([101, 109, 98, 101, 100], [115, 114, 99], 1),
   ([111, 98, 106, 101, 99, 116], [100, 97, 116, 97], 1),
   ([118, 105, 100, 101, 111], [115, 114, 99], 1),
   ([118, 105, 100, 101, 111], [112, 111, 115, 116, 101, 114], 1),
   ([97, 117, 100, 105, 111], [115, 114, 99], 1),
   ([115, 111, 117, 114, 99, 101], [115, 114, 99], 1),
   ([116, 114, 97, 99, 107], [115, 114, 99], 1),
   ([105, 110, 112, 117, 116], [115, 114, 99], 1),
   ([105, 110, 112, 117, 116], [102, 111, 114, 109, 97, 99, 116, 105, 111, 110], 1),
   ([98, 117, 116, 116, 111, 110], [102, 111, 114, 109, 97, 99, 116, 105, 111, 110], 1),
   ([102, 111, 114, 109], [97, 99, 116, 105, 111, 110], 1),
   ([98, 108, 111, 99, 107, 113, 117, 111, 116, 101], [99, 105, 116, 101], 1),
   ([113], [99, 105, 116, 101], 1),
   ([105, 110, 115], [99, 105, 116, 101], 1),
   ([100, 101, 108], [99, 105, 116, 101], 1),
   ([98, 111, 100, 121], [98, 97, 99, 107, 103, 114, 111, 117, 110, 100], 1),
   ([105, 109, 103], [115, 114, 99, 115, 101, 116], 2),
   ([115, 111, 117, 114, 99, 101], [115, 114, 99, 115, 101, 116], 2),
   ([108, 105, 110, 107], [105, 109, 97, 103, 101, 115, 114, 99, 115, 101, 116], 2),
   ([109, 101, 116, 97], [99, 111, 110, 116, 101, 110, 116], 3)]

theorem run_equal_key (w : World) (a b c d : List UInt8) :
    (Op.equal 44 (kv a b) (kv c d)).run Try.prog w = .ok (decide (a = c) && decide (b = d)) w := by
  have h1 : Try.prog.underlying 44 = some (.struct (Try.prog.fieldsOf 44)) := by kernel_rfl
  have h2 : Try.prog.stoodInHeld 44 = false := by kernel_rfl
  unfold Op.equal Op.maxDepth kv str
  rw [run_equalIn_struct w 9999 44 _ _ h1 h2]
  simp only [go_sem, Try.underlying44, Try.underlying9]
  by_cases hac : a = c <;> by_cases hbd : b = d <;> simp [hac, hbd, go_sem, Try.underlying9]

/-- The entries of a map hold the rows of T, in their order. -/
def Holds (es : List MapEntry) (T : List (List UInt8 × List UInt8 × Int)) : Prop :=
  es.map (fun e => (e.key, e.val)) = T.map (fun t => (kv t.1 t.2.1, Value.int .i64 t.2.2))

/-- What stands for a key in rows: the first. -/
def look (a b : List UInt8) : List (List UInt8 × List UInt8 × Int) → Option Int
  | [] => none
  | t :: r => if a = t.1 ∧ b = t.2.1 then some t.2.2 else look a b r

theorem run_findAsking (w : World) (a b : List UInt8) : ∀ (T : List (List UInt8 × List UInt8 × Int)) (es : List MapEntry) (i : Nat), Holds es T →
    ∃ j, (Instr.findAsking 44 (kv a b) es i).run Try.prog w = .ok ((look a b T).map fun v => (j, Value.int .i64 v)) w
  | [], es, i, h => by
    have : es = [] := by simpa [Holds] using h
    subst this
    exact ⟨0, by simp [Instr.findAsking, look]⟩
  | t :: T, es, i, h => by
    cases es with
    | nil => simp [Holds] at h
    | cons e es =>
      have h' : (e.key = kv t.1 t.2.1 ∧ e.val = Value.int .i64 t.2.2) ∧ Holds es T := by simpa [Holds] using h
      obtain ⟨⟨hk, hv⟩, hT⟩ := h'
      obtain ⟨j, hj⟩ := run_findAsking w a b T es (i + 1) hT
      by_cases hab : a = t.1 ∧ b = t.2.1
      · refine ⟨i, ?_⟩
        simp [Instr.findAsking, hk, run_equal_key, hab, look, hv]
      · refine ⟨j, ?_⟩
        have hf : (decide (a = t.1) && decide (b = t.2.1)) = false := by simpa using hab
        simp [Instr.findAsking, hk, run_equal_key, hf, look, hab, hj]

theorem run_findKey (w : World) (a b : List UInt8) (T : List (List UInt8 × List UInt8 × Int)) (es : List MapEntry) (h : Holds es T) :
    ∃ j, (Instr.findKey 44 (kv a b) es).run Try.prog w = .ok ((look a b T).map fun v => (j, Value.int .i64 v)) w := by
  obtain ⟨j, hj⟩ := run_findAsking w a b T es 0 h
  cases es with
  | nil =>
    have : T = [] := by simpa [Holds] using h
    subst this
    exact ⟨0, by simp [Instr.findKey, Instr.findNow, look, run_underlying Try.underlying44]⟩
  | cons e es => exact ⟨j, by simp [Instr.findKey, Instr.findNow, run_underlying Try.underlying44, Instr.sameNow, hj]⟩

theorem run_checkKey_n (w : World) (e : Bool) (a b : List UInt8) (n : Nat) : (Instr.checkKey e (n + 2) 44 (kv a b)).run Try.prog w = .ok () w := by
  simp [Instr.checkKey, run_underlying Try.underlying44, run_underlying Try.underlying9, kv, str, go_sem]
theorem run_checkKey (w : World) (e : Bool) (a b : List UInt8) : (Instr.checkKey e 10000 44 (kv a b)).run Try.prog w = .ok () w := run_checkKey_n w e a b 9998

theorem run_lookup_kind (w : World) (B : Nat) (es : Array MapEntry) (clock : Nat) (T : List (List UInt8 × List UInt8 × Int)) (hb : w.heap[B]? = some (.map es clock)) (h : Holds es.toList T) (a b : List UInt8) :
    (Instr.lookup 41 (.map (some B)) (kv a b) false).run Try.prog w = .ok (.int .i64 ((look a b T).getD 0)) w := by
  obtain ⟨j, hj⟩ := run_findKey w a b T es.toList h
  have hz : (zeroValue 3).run Try.prog w = .ok (.int .i64 0) w := by kernel_rfl
  simp only [Instr.lookup, Sem.run_bind, run_underlying Try.underlying41, Result.andThen_ok]
  cases hl : look a b T <;> rw [hl] at hj <;> simp [MapKept.run_getObj_map hb, run_checkKey, hj, hz]

/-- Behind an insert of a key that is not there. -/
theorem run_insert_kind (w : World) (B : Nat) (es : Array MapEntry) (clock : Nat) (T : List (List UInt8 × List UInt8 × Int)) (hb : w.heap[B]? = some (.map es clock)) (h : Holds es.toList T) (a b : List UInt8) (hn : look a b T = Option.none) (v : Int) :
    ∃ w', (Instr.mapUpdate 41 (.map (some B)) (kv a b) (.int .i64 v)).run Try.prog w = .ok () w' ∧ (∃ e, w'.heap[B]? = some (.map (es.push e) (clock + 1)) ∧ e.key = kv a b ∧ e.val = .int .i64 v) ∧ (∀ B0, B0 ≤ B → Below B0 w w') := by
  obtain ⟨j, hj⟩ := run_findKey w a b T es.toList h
  rw [hn] at hj
  refine ⟨ChangeMaps.setBlock w B (.map (es.push { key := kv a b, val := .int .i64 v, born := clock }) (clock + 1)), ?_, ⟨_, ChangeMaps.heap_setBlock_same hb _, rfl, rfl⟩, fun B0 hB => ⟨rfl, rfl, rfl, by simp [ChangeMaps.setBlock], fun k hk => ChangeMaps.heap_setBlock_other hb _ (by omega)⟩⟩
  simp only [Instr.mapUpdate, Sem.run_bind, run_underlying Try.underlying41, Result.andThen_ok]
  simp [MapKept.run_getObj_map hb, run_checkKey, hj, MapKept.run_setObj_map _ hb, ChangeMaps.setBlock]

/-- The operations that fill the table. -/
def bOp (p : String) (j : Nat) (a b : List UInt8) : Oper := { dst := some (j + 2), op := .build 44 #[(0, .const (str a)), (1, .const (str b))], type := 44, pos := p, after := #[], guard := .none }
def iOp (p : String) (j : Nat) (v : Int) : Oper := { dst := .none, op := .insert 41 (.tmp 1) (.tmp (j + 2)) (.const (.int .i64 v)), type := 0, pos := p, after := #[{ on := 0, ground := .data }, { on := 2 * j + 1, ground := .data }], guard := .none }
def opsOf (p : String) : Nat → List (List UInt8 × List UInt8 × Int) → List Oper
  | _, [] => []
  | j, t :: r => bOp p j t.1 t.2.1 :: iOp p j t.2.2 :: opsOf p (j + 1) r
def kindOps (p : String) : List Oper :=
  { dst := some 1, op := .makeMap 41 .none, type := 41, pos := p, after := #[], guard := .none } :: (opsOf p 0 kindTab ++
    [{ dst := some 29, op := .move (.tmp 1), type := 41, pos := p, after := ((List.range 55).map fun i => { on := i, ground := .data }).toArray, guard := .none },
     { dst := some 0, op := .assign (.tmp 29), type := 41, pos := p, after := ({ on := 55, ground := .data } :: (List.range 56).map fun i => { on := i, ground := .phase }).toArray, guard := .none }])

theorem opsOf_len (p : String) : ∀ (T : List (List UInt8 × List UInt8 × Int)) (n : Nat), (opsOf p n T).length = 2 * T.length
  | [], _ => rfl
  | t :: T, n => by simp [opsOf, opsOf_len p T]; omega
theorem opsOf_even (p : String) : ∀ (T : List (List UInt8 × List UInt8 × Int)) (n j : Nat), (opsOf p n T)[2 * j]? = T[j]?.map fun t => bOp p (n + j) t.1 t.2.1
  | [], n, j => by simp [opsOf]
  | t :: T, n, 0 => by simp [opsOf]
  | t :: T, n, j + 1 => by
    have := opsOf_even p T (n + 1) j
    rw [show 2 * (j + 1) = 2 * j + 1 + 1 from by omega]
    simp only [opsOf, List.getElem?_cons_succ, this]
    rw [show n + 1 + j = n + (j + 1) from by omega]
theorem opsOf_odd (p : String) : ∀ (T : List (List UInt8 × List UInt8 × Int)) (n j : Nat), (opsOf p n T)[2 * j + 1]? = T[j]?.map fun t => iOp p (n + j) t.2.2
  | [], n, j => by simp [opsOf]
  | t :: T, n, 0 => by simp [opsOf]
  | t :: T, n, j + 1 => by
    have := opsOf_odd p T (n + 1) j
    rw [show 2 * (j + 1) + 1 = (2 * j + 1) + 1 + 1 from by omega]
    simp only [opsOf, List.getElem?_cons_succ, this]
    rw [show n + 1 + j = n + (j + 1) from by omega]

theorem kindTab_len : kindTab.length = 27 := rfl
theorem kindOps_size (p : String) : (kindOps p).toArray.size = 57 := rfl
theorem kindOps_b (p : String) {j : Nat} (h : j < 27) : (kindOps p).toArray[2 * j + 1]? = some (bOp p j (kindTab[j]'h).1 (kindTab[j]'h).2.1) := by
  have := opsOf_even p kindTab 0 j
  simp only [kindOps, List.getElem?_toArray, List.getElem?_cons_succ]
  rw [List.getElem?_append_left (by rw [opsOf_len, kindTab_len]; omega), this, List.getElem?_eq_getElem (by rw [kindTab_len]; exact h)]
  simp only [Option.map_some, Nat.zero_add]
  rfl
theorem kindOps_i (p : String) {j : Nat} (h : j < 27) : (kindOps p).toArray[2 * j + 2]? = some (iOp p j (kindTab[j]'h).2.2) := by
  have := opsOf_odd p kindTab 0 j
  simp only [kindOps, List.getElem?_toArray, List.getElem?_cons_succ]
  rw [List.getElem?_append_left (by rw [opsOf_len, kindTab_len]; omega), this, List.getElem?_eq_getElem (by rw [kindTab_len]; exact h)]
  simp only [Option.map_some, Nat.zero_add]
  rfl
theorem kindTab_keys : (kindTab.map fun t => (t.1, t.2.1)).Nodup := by decide +kernel
theorem kindTab_inj {i j : Nat} (hi : i < 27) (hj : j < 27) (h1 : (kindTab[i]'hi).1 = (kindTab[j]'hj).1) (h2 : (kindTab[i]'hi).2.1 = (kindTab[j]'hj).2.1) : i = j := by
  refine (List.getElem_inj (h₀ := by simp [kindTab_len]; exact hi) (h₁ := by simp [kindTab_len]; exact hj) kindTab_keys).1 ?_
  simp only [List.getElem_map]
  exact Prod.ext h1 h2
theorem look_none {a b : List UInt8} : ∀ {T : List (List UInt8 × List UInt8 × Int)}, (∀ t ∈ T, ¬ (a = t.1 ∧ b = t.2.1)) → look a b T = Option.none
  | [], _ => rfl
  | t :: T, h => by
    rw [look, if_neg (h t (by simp))]
    exact look_none fun t ht => h t (by simp [ht])

/-- What holds of the table while it is filled, in whatever order. N: its block. -/
structure KInv (W : World) (listed : Array Bool) (a : Act) (w : World) : Prop where
  size : listed.size = 57
  defers : a.defers = []
  frame : a.tmps.size = 30
  below : Below W.heap.size W w
  unmade : listed.getD 0 false = false → w.heap.size = W.heap.size ∧ ∀ j, j < 27 → listed.getD (2 * j + 2) false = false
  made : listed.getD 0 false = true → a.tmps.getD 1 undef = .map (some W.heap.size) ∧ ∃ es clock T, w.heap[W.heap.size]? = some (.map es clock) ∧ Holds es.toList T ∧ ∀ t, t ∈ T ↔ ∃ j, kindTab[j]? = some t ∧ listed.getD (2 * j + 2) false = true
  built : ∀ j (h : j < 27), listed.getD (2 * j + 1) false = true → a.tmps.getD (j + 2) undef = kv (kindTab[j]'h).1 (kindTab[j]'h).2.1
  moved : listed.getD 55 false = true → a.tmps.getD 29 undef = .map (some W.heap.size)
  done : listed.getD 56 false = true → a.tmps.getD 0 undef = .map (some W.heap.size)

theorem getD_set {listed : Array Bool} {i k : Nat} (hi : i < listed.size) : (listed.setIfInBounds i true).getD k false = if i = k then true else listed.getD k false := by
  by_cases h : i = k
  · subst h; simp [hi]
  · simp [h]
theorem tmps_set {a : Act} {d k : Nat} {v : Value} (hd : d < a.tmps.size) : (a.put (some d) v).tmps.getD k undef = if d = k then v else a.tmps.getD k undef := by
  unfold Act.put
  by_cases h : d = k
  · subst h; simp [hd]
  · simp [h]

theorem kinv_made {W : World} {listed : Array Bool} {a : Act} {w : World} (h : KInv W listed a w) (hl : listed.getD 0 false = false) (dead : ∀ j, j < 27 → listed.getD (2 * j + 2) false = false) :
    KInv W (listed.setIfInBounds 0 true) (a.put (some 1) (.map (some w.heap.size))) (w.alloc (.map #[] 0)) := by
  obtain ⟨h1, h2, h3, h4, h5, h6, h7, h8, h9⟩ := h
  obtain ⟨hs, _⟩ := h5 hl
  refine ⟨by simpa using h1, by simpa [Act.put] using h2, by simpa [Act.put] using h3, h4.alloc (by omega) _, ?_, ?_, ?_, ?_, ?_⟩
  · intro hh; rw [getD_set (by omega)] at hh; simp at hh
  · intro _
    refine ⟨by rw [tmps_set (by omega)]; simp [hs], #[], 0, [], ?_, rfl, fun t => ?_⟩
    · show (w.heap.push _)[W.heap.size]? = _
      rw [← hs]; simp
    · simp only [List.not_mem_nil, false_iff, not_exists, not_and]
      intro j e1
      have hlt : j < 27 := by
        have := (List.getElem?_eq_some_iff.1 e1).1
        rw [kindTab_len] at this
        exact this
      rw [getD_set (by omega), if_neg (by omega), dead j hlt]; simp
  · intro j hj hh
    rw [getD_set (by omega), if_neg (by omega)] at hh
    rw [tmps_set (by omega), if_neg (by omega)]
    exact h7 j hj hh
  · intro hh
    rw [getD_set (by omega), if_neg (by omega)] at hh
    rw [tmps_set (by omega), if_neg (by omega)]
    exact h8 hh
  · intro hh
    rw [getD_set (by omega), if_neg (by omega)] at hh
    rw [tmps_set (by omega), if_neg (by omega)]
    exact h9 hh

theorem kinv_built {W : World} {listed : Array Bool} {a : Act} {w : World} (h : KInv W listed a w) {j : Nat} (hj : j < 27) :
    KInv W (listed.setIfInBounds (2 * j + 1) true) (a.put (some (j + 2)) (kv (kindTab[j]'hj).1 (kindTab[j]'hj).2.1)) w := by
  obtain ⟨h1, h2, h3, h4, h5, h6, h7, h8, h9⟩ := h
  refine ⟨by simpa using h1, by simpa [Act.put] using h2, by simpa [Act.put] using h3, h4, ?_, ?_, ?_, ?_, ?_⟩
  · intro hh; rw [getD_set (by omega), if_neg (by omega)] at hh
    refine ⟨(h5 hh).1, fun k hk => ?_⟩
    rw [getD_set (by omega), if_neg (by omega)]; exact (h5 hh).2 k hk
  · intro hh; rw [getD_set (by omega), if_neg (by omega)] at hh
    obtain ⟨q1, es, clock, T, q2, q3, q4⟩ := h6 hh
    refine ⟨by rw [tmps_set (by omega), if_neg (by omega)]; exact q1, es, clock, T, q2, q3, fun t => ?_⟩
    rw [q4 t]
    constructor
    · rintro ⟨k, e1, e2⟩; exact ⟨k, e1, by rw [getD_set (by omega), if_neg (by omega)]; exact e2⟩
    · rintro ⟨k, e1, e2⟩; rw [getD_set (by omega), if_neg (by omega)] at e2; exact ⟨k, e1, e2⟩
  · intro k hk hh
    rw [tmps_set (by omega)]
    by_cases e : j = k
    · subst e; simp
    · rw [if_neg (by omega)]
      rw [getD_set (by omega), if_neg (by omega)] at hh
      exact h7 k hk hh
  · intro hh
    rw [getD_set (by omega), if_neg (by omega)] at hh
    rw [tmps_set (by omega), if_neg (by omega)]
    exact h8 hh
  · intro hh
    rw [getD_set (by omega), if_neg (by omega)] at hh
    rw [tmps_set (by omega), if_neg (by omega)]
    exact h9 hh

theorem kinv_put {W : World} {listed : Array Bool} {a : Act} {w w' : World} (h : KInv W listed a w) {j : Nat} (hj : j < 27) (h0 : listed.getD 0 false = true)
    {es : Array MapEntry} {clock : Nat} {T : List (List UInt8 × List UInt8 × Int)} (_hb : w.heap[W.heap.size]? = some (.map es clock)) (hT : Holds es.toList T) (hin : ∀ t, t ∈ T ↔ ∃ j, kindTab[j]? = some t ∧ listed.getD (2 * j + 2) false = true)
    (hw : ∃ e, w'.heap[W.heap.size]? = some (.map (es.push e) (clock + 1)) ∧ e.key = kv (kindTab[j]'hj).1 (kindTab[j]'hj).2.1 ∧ e.val = .int .i64 (kindTab[j]'hj).2.2) (hbel : Below W.heap.size w w') :
    KInv W (listed.setIfInBounds (2 * j + 2) true) (a.put .none undef) w' := by
  obtain ⟨h1, h2, h3, h4, h5, h6, h7, h8, h9⟩ := h
  obtain ⟨e, he1, he2, he3⟩ := hw
  refine ⟨by simpa using h1, h2, h3, h4.trans hbel, ?_, ?_, ?_, ?_, ?_⟩
  · intro hh; rw [getD_set (by omega), if_neg (by omega), h0] at hh; simp at hh
  · intro _
    refine ⟨(h6 h0).1, _, _, T ++ [kindTab[j]'hj], he1, ?_, fun t => ?_⟩
    · unfold Holds at hT ⊢
      simp [hT, he2, he3]
    · rw [List.mem_append, hin t]
      constructor
      · rintro (⟨k, e1, e2⟩ | hm)
        · refine ⟨k, e1, ?_⟩
          rw [getD_set (by omega)]; split
          · rfl
          · exact e2
        · simp only [List.mem_singleton] at hm
          refine ⟨j, by rw [hm]; exact List.getElem?_eq_getElem (by rw [kindTab_len]; exact hj), ?_⟩
          rw [getD_set (by omega), if_pos rfl]
      · rintro ⟨k, e1, e2⟩
        by_cases hk : k = j
        · subst hk
          right
          rw [List.getElem?_eq_getElem (by rw [kindTab_len]; exact hj)] at e1
          simp only [Option.some.injEq] at e1
          rw [← e1]; exact List.mem_singleton.2 rfl
        · left
          rw [getD_set (by omega), if_neg (by omega)] at e2
          exact ⟨k, e1, e2⟩
  · intro k hk hh
    rw [getD_set (by omega), if_neg (by omega)] at hh
    exact h7 k hk hh
  · intro hh
    rw [getD_set (by omega), if_neg (by omega)] at hh
    exact h8 hh
  · intro hh
    rw [getD_set (by omega), if_neg (by omega)] at hh
    exact h9 hh

theorem kinv_moved {W : World} {listed : Array Bool} {a : Act} {w : World} (h : KInv W listed a w) :
    KInv W (listed.setIfInBounds 55 true) (a.put (some 29) (.map (some W.heap.size))) w := by
  obtain ⟨h1, h2, h3, h4, h5, h6, h7, h8, h9⟩ := h
  refine ⟨by simpa using h1, by simpa [Act.put] using h2, by simpa [Act.put] using h3, h4, ?_, ?_, ?_, ?_, ?_⟩
  · intro hh; rw [getD_set (by omega), if_neg (by omega)] at hh
    refine ⟨(h5 hh).1, fun k hk => ?_⟩
    rw [getD_set (by omega), if_neg (by omega)]; exact (h5 hh).2 k hk
  · intro hh; rw [getD_set (by omega), if_neg (by omega)] at hh
    obtain ⟨q1, es, clock, T, q2, q3, q4⟩ := h6 hh
    refine ⟨by rw [tmps_set (by omega), if_neg (by omega)]; exact q1, es, clock, T, q2, q3, fun t => ?_⟩
    rw [q4 t]
    constructor
    · rintro ⟨k, e1, e2⟩; exact ⟨k, e1, by rw [getD_set (by omega), if_neg (by omega)]; exact e2⟩
    · rintro ⟨k, e1, e2⟩; rw [getD_set (by omega), if_neg (by omega)] at e2; exact ⟨k, e1, e2⟩
  · intro k hk hh
    rw [getD_set (by omega), if_neg (by omega)] at hh
    rw [tmps_set (by omega), if_neg (by omega)]
    exact h7 k hk hh
  · intro _; rw [tmps_set (by omega), if_pos rfl]
  · intro hh
    rw [getD_set (by omega), if_neg (by omega)] at hh
    rw [tmps_set (by omega), if_neg (by omega)]
    exact h9 hh

theorem kinv_done {W : World} {listed : Array Bool} {a : Act} {w : World} (h : KInv W listed a w) :
    KInv W (listed.setIfInBounds 56 true) (a.put (some 0) (.map (some W.heap.size))) w := by
  obtain ⟨h1, h2, h3, h4, h5, h6, h7, h8, h9⟩ := h
  refine ⟨by simpa using h1, by simpa [Act.put] using h2, by simpa [Act.put] using h3, h4, ?_, ?_, ?_, ?_, ?_⟩
  · intro hh; rw [getD_set (by omega), if_neg (by omega)] at hh
    refine ⟨(h5 hh).1, fun k hk => ?_⟩
    rw [getD_set (by omega), if_neg (by omega)]; exact (h5 hh).2 k hk
  · intro hh; rw [getD_set (by omega), if_neg (by omega)] at hh
    obtain ⟨q1, es, clock, T, q2, q3, q4⟩ := h6 hh
    refine ⟨by rw [tmps_set (by omega), if_neg (by omega)]; exact q1, es, clock, T, q2, q3, fun t => ?_⟩
    rw [q4 t]
    have hlt : ∀ k, kindTab[k]? = some t → k < 27 := fun k e1 => by
      have := (List.getElem?_eq_some_iff.1 e1).1
      rw [kindTab_len] at this
      exact this
    constructor
    · rintro ⟨k, e1, e2⟩; have := hlt k e1; exact ⟨k, e1, by rw [getD_set (by omega), if_neg (by omega)]; exact e2⟩
    · rintro ⟨k, e1, e2⟩; have := hlt k e1; rw [getD_set (by omega), if_neg (by omega)] at e2; exact ⟨k, e1, e2⟩
  · intro k hk hh
    rw [getD_set (by omega), if_neg (by omega)] at hh
    rw [tmps_set (by omega), if_neg (by omega)]
    exact h7 k hk hh
  · intro hh
    rw [getD_set (by omega), if_neg (by omega)] at hh
    rw [tmps_set (by omega), if_neg (by omega)]
    exact h8 hh
  · intro _; rw [tmps_set (by omega), if_pos rfl]

theorem kindOps_0 (p : String) : (kindOps p).toArray[0]? = some { dst := some 1, op := .makeMap 41 .none, type := 41, pos := p, after := #[], guard := .none } := rfl
theorem kindOps_55 (p : String) : (kindOps p).toArray[55]? = some { dst := some 29, op := .move (.tmp 1), type := 41, pos := p, after := ((List.range 55).map fun i => { on := i, ground := .data }).toArray, guard := .none } := rfl
theorem kindOps_56 (p : String) : (kindOps p).toArray[56]? = some { dst := some 0, op := .assign (.tmp 29), type := 41, pos := p, after := ({ on := 55, ground := .data } :: (List.range 56).map fun i => { on := i, ground := .phase }).toArray, guard := .none } := rfl

theorem run_build_key (w : World) (a b : List UInt8) : (Instr.build 44 #[(0, str a), (1, str b)]).run Try.prog w = .ok (kv a b) w := by
  kernel_rfl
theorem kinv_step (p : String) {Q : Exit → Act → World → Prop} {W : World} {listed : Array Bool} {a : Act} {w : World} {i : Nat} (h : KInv W listed a w) (hi : i ∈ Region.ready .any (kindOps p).toArray listed) :
    wpOp Try.prog (kindOps p).toArray Q i (fun a' w' => KInv W (listed.setIfInBounds i true) a' w') a w := by
  have hlt : i < 57 := by
    have := (List.mem_filter.1 hi).1
    rw [kindOps_size p] at this; simpa using this
  have hcase : i = 0 ∨ (∃ j, j < 27 ∧ i = 2 * j + 1) ∨ (∃ j, j < 27 ∧ i = 2 * j + 2) ∨ i = 55 ∨ i = 56 := by
    by_cases h0 : i = 0
    · exact .inl h0
    · by_cases h1 : i = 55
      · exact .inr (.inr (.inr (.inl h1)))
      · by_cases h2 : i = 56
        · exact .inr (.inr (.inr (.inr h2)))
        · by_cases h3 : i % 2 = 1
          · exact .inr (.inl ⟨i / 2, by omega, by omega⟩)
          · exact .inr (.inr (.inl ⟨i / 2 - 1, by omega, by omega⟩))
  rcases hcase with rfl | ⟨j, hj, rfl⟩ | ⟨j, hj, rfl⟩ | rfl | rfl
  · obtain ⟨r1, r2⟩ := ready_mem hi (kindOps_0 p)
    have hl : listed.getD 0 false = false := by
      have := h.size
      simp [this] at r1 ⊢
      exact r1
    have hd := (h.unmade hl).2
    have := kinv_made h hl hd
    unfold wpOp
    rw [(kindOps_0 p)]
    have hm := @run_makeMap Try.prog
    simp [Region.wanted, Oper.wp, execOp, hm]
    exact .inl this
  · obtain ⟨r1, r2⟩ := ready_mem hi (kindOps_b p hj)
    have := kinv_built h hj
    unfold wpOp
    rw [kindOps_b p hj]
    have hb := run_build_key w (kindTab[j]'hj).1 (kindTab[j]'hj).2.1
    simp only [Region.wanted, bOp, if_true, Oper.wp, execOp, List.map_toArray, List.map_cons, List.map_nil, Act.eval, Sem.run_bind, hb, Result.andThen_ok, Sem.run_pure, Oper.upon]
    exact .inl this
  · obtain ⟨r1, r2⟩ := ready_mem hi (kindOps_i p hj)
    have e0 := r2 { on := 0, ground := .data } (by simp [iOp]) rfl
    have e1 := r2 { on := 2 * j + 1, ground := .data } (by simp [iOp]) rfl
    have hl : listed.getD (2 * j + 2) false = false := by
      have := h.size
      have hx : 2 * j + 2 < listed.size := by omega
      simp [hx] at r1 ⊢
      exact r1
    obtain ⟨m1, es, clock, T, m2, m3, m4⟩ := h.made e0
    have hb := h.built j hj e1
    have hn : look (kindTab[j]'hj).1 (kindTab[j]'hj).2.1 T = Option.none := look_none fun t ht hh => by
      obtain ⟨k, k1, k2⟩ := (m4 t).1 ht
      have hk : k < 27 := by
        have := (List.getElem?_eq_some_iff.1 k1).1
        rw [kindTab_len] at this
        exact this
      have hk1 : kindTab[k]'hk = t := by
        rw [List.getElem?_eq_getElem (by rw [kindTab_len]; exact hk)] at k1
        exact Option.some.inj k1
      have : j = k := kindTab_inj hj hk (by rw [hk1]; exact hh.1) (by rw [hk1]; exact hh.2)
      subst this
      rw [hl] at k2
      simp at k2
    obtain ⟨w', hr, hw, hbel⟩ := run_insert_kind w _ es clock T m2 m3 _ _ hn (kindTab[j]'hj).2.2
    have := kinv_put h hj e0 m2 m3 m4 hw (hbel _ (Nat.le_refl _))
    unfold wpOp
    rw [kindOps_i p hj]
    simp only [Region.wanted, iOp, if_true, Oper.wp, execOp, Act.eval, Sem.run_bind, m1, hb, hr, Result.andThen_ok, Sem.run_pure, Oper.upon]
    exact .inl this
  · obtain ⟨r1, r2⟩ := ready_mem hi (kindOps_55 p)
    have e0 := r2 { on := 0, ground := .data } (by simp) rfl
    obtain ⟨m1, _⟩ := h.made e0
    have := kinv_moved h
    unfold wpOp
    rw [(kindOps_55 p)]
    simp only [Region.wanted, if_true, Oper.wp, execOp, Act.eval, m1, Sem.run_pure, Oper.upon]
    exact .inl this
  · obtain ⟨r1, r2⟩ := ready_mem hi (kindOps_56 p)
    have e0 := r2 { on := 55, ground := .data } (by simp) rfl
    have m1 := h.moved e0
    have := kinv_done h
    unfold wpOp
    rw [(kindOps_56 p)]
    simp only [Region.wanted, if_true, Oper.wp, execOp, Act.eval, m1, Sem.run_pure, Oper.upon]
    exact .inl this

/-- Where nothing is ready, all is done. -/
theorem all_listed (p : String) {listed : Array Bool} (hs : listed.size = 57) (hr : Region.ready .any (kindOps p).toArray listed = []) : ∀ i, i < 57 → listed.getD i false = true := by
  intro i
  induction i using Nat.strongRecOn with
  | _ i ih =>
    intro hlt
    cases hc : listed.getD i false with
    | true => rfl
    | false =>
      exfalso
      have hcase : i = 0 ∨ (∃ j, j < 27 ∧ i = 2 * j + 1) ∨ (∃ j, j < 27 ∧ i = 2 * j + 2) ∨ i = 55 ∨ i = 56 := by
        by_cases h0 : i = 0
        · exact .inl h0
        · by_cases h1 : i = 55
          · exact .inr (.inr (.inr (.inl h1)))
          · by_cases h2 : i = 56
            · exact .inr (.inr (.inr (.inr h2)))
            · by_cases h3 : i % 2 = 1
              · exact .inr (.inl ⟨i / 2, by omega, by omega⟩)
              · exact .inr (.inr (.inl ⟨i / 2 - 1, by omega, by omega⟩))
      have hex : ∃ o, (kindOps p).toArray[i]? = some o ∧ ∀ e ∈ o.after, e.on < i := by
        rcases hcase with rfl | ⟨j, hj, rfl⟩ | ⟨j, hj, rfl⟩ | rfl | rfl
        · exact ⟨_, (kindOps_0 p), by simp⟩
        · exact ⟨_, kindOps_b p hj, by simp [bOp]⟩
        · exact ⟨_, kindOps_i p hj, by simp [iOp]⟩
        · exact ⟨_, (kindOps_55 p), by simp⟩
        · exact ⟨_, (kindOps_56 p), by simp⟩
      obtain ⟨o, ho, hafter⟩ := hex
      have hx : i < listed.size := by omega
      have hm : i ∈ Region.ready .any (kindOps p).toArray listed := by
        unfold Region.ready
        rw [List.mem_filter]
        refine ⟨by rw [kindOps_size p]; simpa using hlt, ?_⟩
        simp only [Bool.and_eq_true, ho, Option.map_some, Option.getD_some, Array.all_eq_true_iff_forall_mem, Bool.or_eq_true]
        refine ⟨?_, fun e he => .inr (ih e.on (hafter e he) (by have := hafter e he; omega))⟩
        simp [hx] at hc ⊢
        exact hc
      rw [hr] at hm
      simp at hm

theorem rep_false (n i : Nat) : (Array.replicate n false).getD i false = false := by
  by_cases h : i < n <;> simp [h]

set_option maxRecDepth 10000 in
theorem kinds_calls (w : World) :
    Calls Try.prog 18 #[] w fun e w' => ∃ B es clock T, e = .returned (.map (some B)) ∧ w'.heap[B]? = some (.map es clock) ∧ Holds es.toList T ∧ (∀ t, t ∈ T ↔ t ∈ kindTab) ∧ w.heap.size ≤ B ∧ Below w.heap.size w w' := by
  go_enter Try.func18, Try.ntmps18
  go_wp2
  change Code.wp Try.prog (Code.region 1 (kindOps _).toArray true) _ _ _
  refine wp_region_any (by kernel_rfl) ?_
  refine wpAny_inv (KInv w) (fun listed a w' i h hi => kinv_step _ h hi) ?_ _ _ _ _ (by decide +kernel) ?_
  · intro listed a w' h hr
    have hall := all_listed _ h.size hr
    have h56 := h.done (hall 56 (by omega))
    obtain ⟨_, es, clock, T, m2, m3, m4⟩ := h.made (hall 0 (by omega))
    have hT : ∀ t, t ∈ T ↔ t ∈ kindTab := fun t => by
      rw [m4 t, List.mem_iff_getElem?]
      constructor
      · rintro ⟨j, e1, _⟩; exact ⟨j, e1⟩
      · rintro ⟨j, e1⟩
        have hk : j < 27 := by
          have := (List.getElem?_eq_some_iff.1 e1).1
          rw [kindTab_len] at this
          exact this
        exact ⟨j, e1, hall _ (by omega)⟩
    have hdef := h.defers
    have hbel := h.below
    simp only [Exit.then]
    have hK : ∀ (a : Act) (w : World), Code.wp Try.prog Code.ret _ a w → _ := ‹_›
    refine hK _ _ (wp_ret ?_)
    refine bodyPost_ret (results_tmp rfl _ _ _) hdef ?_
    exact ⟨w.heap.size, es, clock, T, by rw [h56], m2, m3, hT, Nat.le_refl _, hbel⟩
  · refine ⟨by rw [kindOps_size]; simp, rfl, rfl, ⟨rfl, rfl, rfl, Nat.le_refl _, fun _ _ => rfl⟩, fun _ => ⟨rfl, fun j hj => ?_⟩, fun hh => ?_, fun j hj hh => ?_, fun hh => ?_, fun hh => ?_⟩
    · exact rep_false _ _
    · rw [rep_false] at hh; cases hh
    · rw [rep_false] at hh; cases hh
    · rw [rep_false] at hh; cases hh
    · rw [rep_false] at hh; cases hh
end Go.Proofs.Ytllgkmacjncelaa
