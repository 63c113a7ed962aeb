/-
  The contracts of the document's pairs and Kind. Conditions: both texts have at most 100000 bytes.
-/
import Derived.Test.YtllgkmacjncelaaKind
import Derived.Test.YtllgkmacjncelaaRefLower
set_option linter.all false
namespace Go.Proofs.Ytllgkmacjncelaa
open Go.RowKit

/-- The texts L lie in block b from its first cell on. -/
def StrsAt (w : World) (b : Nat) (L : List (List UInt8)) : Prop := ∀ j (h : j < L.length), w.cell? ⟨b, j, none⟩ = some (str L[j])

theorem StrsAt.made (w : World) (L : List (List UInt8)) (t : TypeId) : StrsAt (w.alloc (.cells (L.map str).toArray t)) w.heap.size L := by
  intro j h
  rw [World.cell?_alloc_mark w (L.map str).toArray t (0, 0) j]
  simp [List.getElem?_eq_getElem h]
theorem StrsAt.below {w w' : World} {b B : Nat} {L : List (List UInt8)} (h : StrsAt w b L) (hb : Below B w w') (hB : b < B) : StrsAt w' b L :=
  fun j hj => by rw [hb.cell (p := ⟨b, j, none⟩) hB]; exact h j hj

def colA (k : Int) : List (List UInt8) := (kindTab.filter fun t => t.2.2 == k).map (·.1)
def colB (k : Int) : List (List UInt8) := (kindTab.filter fun t => t.2.2 == k).map (·.2.1)

theorem pairs_calls (k : Int) (hk : k = 1 ∨ k = 2 ∨ k = 3) (w : World) :
    Calls Try.prog 20 #[.int .i64 k] w fun e w' => ∃ b c, e = .returned (.tuple #[.slice (some ⟨b, 0, none⟩) (colA k).length (colA k).length, .slice (some ⟨c, 0, none⟩) (colA k).length (colA k).length]) ∧
      StrsAt w' b (colA k) ∧ StrsAt w' c (colB k) ∧ w.heap.size ≤ b ∧ b < w'.heap.size ∧ w.heap.size ≤ c ∧ c < w'.heap.size ∧ Below w.heap.size w w' := by
  have hgen : ∀ k : Int, StrsAt ((w.alloc (.cells ((colA k).map str).toArray 9)).alloc (.cells ((colB k).map str).toArray 9)) w.heap.size (colA k) ∧ StrsAt ((w.alloc (.cells ((colA k).map str).toArray 9)).alloc (.cells ((colB k).map str).toArray 9)) (w.heap.size + 1) (colB k) := fun k => by
    refine ⟨(StrsAt.made w (colA k) 9).below ((Below.refl (w.heap.size + 1) _).alloc (by simp) _) (by omega), ?_⟩
    have := StrsAt.made (w.alloc (.cells ((colA k).map str).toArray 9)) (colB k) 9
    simpa using this
  have hbel : ∀ C D, Below w.heap.size w ((w.alloc (.cells C 9)).alloc (.cells D 9)) := fun C D => ((Below.refl _ _).alloc (Nat.le_refl _) _).alloc (by simp) _
  rcases hk with rfl | rfl | rfl
  · have h := hgen 1
    go_enter Try.func20, Try.ntmps20
    go_wp2
    go_ret2
    exact ⟨w.heap.size, w.heap.size + 1, rfl, h.1, h.2, Nat.le_refl _, by simp; omega, by omega, by simp, hbel _ _⟩
  · have h := hgen 2
    go_enter Try.func20, Try.ntmps20
    go_wp2
    go_ret2
    exact ⟨w.heap.size, w.heap.size + 1, rfl, h.1, h.2, Nat.le_refl _, by simp; omega, by omega, by simp, hbel _ _⟩
  · have h := hgen 3
    go_enter Try.func20, Try.ntmps20
    go_wp2
    go_ret2
    exact ⟨w.heap.size, w.heap.size + 1, rfl, h.1, h.2, Nat.le_refl _, by simp; omega, by omega, by simp, hbel _ _⟩

theorem colB_len (k : Int) : (colB k).length = (colA k).length := by simp [colA, colB]
theorem col_mem {k : Int} {a b : List UInt8} {j : Nat} (hj : j < (colA k).length) (h1 : (colA k)[j] = a) (h2 : (colB k)[j]'(by rw [colB_len]; exact hj) = b) : (a, b, k) ∈ kindTab := by
  have hj' : j < (kindTab.filter fun t => t.2.2 == k).length := by simpa [colA] using hj
  have hm := List.getElem_mem hj'
  rw [List.mem_filter] at hm
  obtain ⟨m1, m2⟩ := hm
  have e1 : ((kindTab.filter fun t => t.2.2 == k)[j]'hj').1 = a := by simpa [colA] using h1
  have e2 : ((kindTab.filter fun t => t.2.2 == k)[j]'hj').2.1 = b := by simpa [colB] using h2
  have e3 : ((kindTab.filter fun t => t.2.2 == k)[j]'hj').2.2 = k := by simpa using m2
  have : (kindTab.filter fun t => t.2.2 == k)[j]'hj' = (a, b, k) := Prod.ext e1 (Prod.ext e2 e3)
  rw [← this]; exact m1
theorem col_of {k : Int} {a b : List UInt8} (h : (a, b, k) ∈ kindTab) : ∃ j, ∃ hj : j < (colA k).length, (colA k)[j] = a ∧ (colB k)[j]'(by rw [colB_len]; exact hj) = b := by
  have hm : (a, b, k) ∈ kindTab.filter fun t => t.2.2 == k := List.mem_filter.2 ⟨h, by simp⟩
  obtain ⟨j, hj, e⟩ := List.mem_iff_getElem.1 hm
  refine ⟨j, by simpa [colA] using hj, ?_, ?_⟩
  · simp [colA, e]
  · simp [colB, e]
theorem kindTab_vals : ∀ t ∈ kindTab, t.2.2 = 1 ∨ t.2.2 = 2 ∨ t.2.2 = 3 := by decide +kernel
theorem kindOf_of_mem {a b : List UInt8} {k : Int} (h : (a, b, k) ∈ kindTab) : kindOf a b = k := by
  obtain ⟨u, hu⟩ := look_isSome h
  unfold kindOf
  rw [hu]
  exact kindTab_fun (look_mem hu) h
theorem kindOf_none {a b : List UInt8} (h : ∀ k, (a, b, k) ∉ kindTab) : kindOf a b = 0 := by
  unfold kindOf
  cases hl : look a b kindTab with
  | none => rfl
  | some v => exact absurd (look_mem hl) (h v)
theorem colA_len_le (k : Int) : (colA k).length ≤ 27 := by
  have := List.length_filter_le (fun t : List UInt8 × List UInt8 × Int => t.2.2 == k) kindTab
  rw [kindTab_len] at this
  simpa [colA] using this

set_option maxHeartbeats 1000000 in
theorem refKind_calls (s t : ByteArray) (w : World) (hs : s.size ≤ 100000) (ht : t.size ≤ 100000) :
    Calls Try.prog 11 #[.string s, .string t] w fun e w' => e = .returned (.int .i64 (kindOf (lowL s.data.toList) (lowL t.data.toList))) ∧ Below w.heap.size w w' := by
  go_enter Try.func11, Try.ntmps11
  go_wp2_with fail
  refine (refLower_calls s w hs).mono ?_
  rintro e w1 ⟨rfl, hb1⟩
  go_wp2_with fail
  refine (refLower_calls t w1 ht).mono ?_
  rintro e w2 ⟨rfl, hb2⟩
  have hb := hb1.trans (hb2.mono hb1.size)
  clear hb1 hb2
  generalize ha : lowL s.data.toList = a
  generalize hbb : lowL t.data.toList = b
  have Ha := hid ha
  have Hb := hid hbb
  clear ha hbb
  go_wp2_with fail
  go_loopw [7] (fun i wr => ∃ k : Int, 1 ≤ k ∧ k ≤ 4 ∧ i = .int .i64 k ∧ (∀ v, v < k → (a, b, v) ∉ kindTab) ∧ Below w.heap.size w wr) (fun i _ => (4 - intOf i).toNat)
  case atStart =>
    refine ⟨1, by omega, by omega, rfl, fun v hv hm => ?_, hb⟩
    have := kindTab_vals _ hm
    simp at this
    omega
  case round =>
    obtain ⟨k, hk1, hk4, rfl, hno, hbw⟩ := hrel
    have HNO := hid hno
    clear hno hb
    by_cases hk : k ≤ 3
    · go_wp2_with fail
      refine (pairs_calls k (by omega) wr).mono ?_
      rintro e w3 ⟨b1, b2, rfl, hA, hB, hb1, hb1', hb2, hb2', hbel⟩
      have HA := hid hA
      have HB := hid hB
      clear hA hB
      have hAL := colA_len_le k
      have hbw3 := hbw.trans (hbel.mono hbw.size)
      clear hbw hbel
      go_wp2_with fail
      go_loop [10] (fun i => ∃ j : Nat, j ≤ (colA k).length ∧ i = .int .i64 j ∧ ∀ m (hm : m < (colA k).length), m < j → ¬ ((colA k)[m] = a ∧ (colB k)[m]'(by rw [colB_len]; exact hm) = b)) (fun i => (colA k).length - (intOf i).toNat)
      case atStart => exact ⟨0, Nat.zero_le _, rfl, fun m _ h => absurd h (by omega)⟩
      case round =>
        obtain ⟨j, hj, rfl, hmiss⟩ := hrel
        have HM := hid hmiss
        clear hmiss
        by_cases hlt : j < (colA k).length
        · have hjB : j < (colB k).length := by rw [colB_len]; exact hlt
          have c1 := HA.out j hlt
          have c2 := HB.out j hjB
          generalize hx : (colA k)[j] = x at c1
          generalize hy : (colB k)[j] = y at c2
          have HX := hid hx
          have HY := hid hy
          clear hx hy
          unfold str at c1 c2
          go_wp2
          · go_ret
            have e1 : x = a := by assumption
            have e2 : (y == b) = true := by assumption
            refine ⟨?_, hbw3⟩
            rw [Ha.out, Hb.out, kindOf_of_mem (col_mem hlt (by rw [HX.out, e1]) (by rw [HY.out]; simpa using e2))]
            rfl
          · have e2 : (y == b) = false := by assumption
            go_round
            case rel =>
              refine ⟨j + 1, by omega, by go_num, fun m hm hmj h => ?_⟩
              by_cases e : m = j
              · subst e
                rw [HY.out] at h
                simp [h.2] at e2
              · exact HM.out m hm (by omega) h
            case measure => simp [intOf]; omega
          · have e2 : ¬ x = a := by assumption
            go_round
            case rel =>
              refine ⟨j + 1, by omega, by go_num, fun m hm hmj h => ?_⟩
              by_cases e : m = j
              · subst e
                rw [HX.out] at h
                exact e2 h.1
              · exact HM.out m hm (by omega) h
            case measure => simp [intOf]; omega
        · have hnext : Hid (∀ v, v < k + 1 → (a, b, v) ∉ kindTab) := hid fun v hv hm => by
            by_cases e : v = k
            · subst e
              obtain ⟨m, hm, e1, e2⟩ := col_of hm
              exact HM.out m hm (by omega) ⟨e1, e2⟩
            · exact HNO.out v (by omega) hm
          go_wp2
          go_roundw
          case rel => exact ⟨k + 1, by omega, by omega, rfl, hnext.out, hbw3⟩
          case measure => simp [intOf]; omega
    · obtain rfl : k = 4 := by omega
      have hz : Hid (kindOf a b = 0) := hid (kindOf_none fun v hm => by
        have h4 := kindTab_vals _ hm
        simp only at h4
        exact HNO.out v (by omega) hm)
      go_wp2
      go_ret
      exact ⟨by rw [Ha.out, Hb.out, hz.out]; rfl, hbw⟩
end Go.Proofs.Ytllgkmacjncelaa
