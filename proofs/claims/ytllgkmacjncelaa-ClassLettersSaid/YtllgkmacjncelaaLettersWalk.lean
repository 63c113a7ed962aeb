/-
  Contracts and lemmas of this seat (XLettersWalk). Conditions: as each theorem states.
-/
import Derived.Test.YtllgkmacjncelaaClassLettersPlain
import Derived.Test.YtllgkmacjncelaaClassWalk
import Derived.Test.YtllgkmacjncelaaSeqDet
set_option linter.all false
namespace Go.Proofs.Ytllgkmacjncelaa
open Go.RowKit

theorem kind_sign (u v : ByteArray) (c : UInt8) (hc : isLetter c = false) (h : c ∈ u.data.toList ∨ c ∈ v.data.toList) (hu : u.size ≤ 100000) (hv : v.size ≤ 100000) (w : World) :
    Calls Try.prog 10 #[.string u, .string v] w fun e w' => e = .returned (.int .i64 0) ∧ Below w.heap.size w w' := by
  refine (kind_calls u v w hu hv).mono ?_
  rintro e w' ⟨rfl, hb⟩
  refine ⟨?_, hb⟩
  rw [kindOf_sign hc]
  rcases h with h | h
  · exact .inl (List.mem_map_of_mem h)
  · exact .inr (List.mem_map_of_mem h)

set_option maxHeartbeats 1000000 in
theorem classLetters_core (s t : ByteArray) (c : UInt8) (w : World) (hs : s.size ≤ 50) (ht : t.size ≤ 50) :
    Calls Try.prog 4 #[.string s, .string t, .int .u8 (c.toNat : Int)] w fun e w' => e = .returned (.bool true) ∧ Below w.heap.size w w' := by
  have hlen : Hid (s.data.toList.length = s.size) := hid (by simp)
  go_enter Try.func4, Try.ntmps4
  go_wp2_with fail
  refine (small_calls _).mono ?_
  rintro e w1 ⟨rfl, hb1⟩
  go_wp2_with fail
  refine (kind_calls s t _ (by omega) (by omega)).mono ?_
  rintro e w2 ⟨rfl, hb2⟩
  have hb2 := hb1.trans (hb2.mono hb1.size)
  clear hb1
  have hcv := run_bytes_of_string (P := Try.prog) w2 9 25 5 s Try.underlying9 Try.underlying25 Try.underlying5
  have hy0 := bytesAt_made s w2 (grownCap w2 s.size 0 5) 5
  have hbel := hb2.trans ((Below.made s w2 (grownCap w2 s.size 0 5) 5).mono hb2.size)
  have hsz := hb2.size
  generalize hcap : grownCap w2 s.size 0 5 = cap at *
  clear hcap
  generalize hkk : kindOf (lowL s.data.toList) (lowL t.data.toList) = kk
  have HK := hid hkk
  clear hkk
  go_wp2_with fail
  clear hcv
  go_loopw [10] (fun i wr => ∃ k : Nat, k ≤ s.size ∧ i = .int .i64 k ∧ BytesAt wr w2.heap.size (upPart s.data.toList k) ∧ Below w.heap.size w wr) (fun i _ => s.size - (intOf i).toNat)
  case atStart => exact ⟨0, Nat.zero_le _, rfl, by rw [upPart_zero]; exact hy0, hbel⟩
  case round =>
    obtain ⟨k, hk, rfl, hby, hbw⟩ := hrel
    clear hy0 hbel
    by_cases hlt : k < s.size
    · have hkl : k < s.data.toList.length := by rw [hlen.out]; exact hlt
      have hkp : k < (upPart s.data.toList k).length := by rw [upPart_length]; exact hkl
      obtain ⟨hc, hf⟩ := hby k hkp
      rw [upPart_get _ _ hkl] at hc
      obtain ⟨x, hx⟩ : ∃ x, x = s.data.toList[k] := ⟨_, rfl⟩
      rw [← hx] at hc
      have Hx := hid hx
      clear hx
      have hx1 : x.toNat < 256 := x.toNat_lt
      by_cases hup : 97 ≤ x.toNat ∧ x.toNat ≤ 122
      · have hn := upPart_succ s.data.toList k hkl
        rw [← Hx.out] at hn
        have hst := hby.set hkp (upB x)
        rw [← hn, upB_low hup] at hst
        have HN := hid hst
        clear hn hst
        obtain ⟨h65, h90⟩ := hup
        go_wp2
        go_roundw
        case rel => exact ⟨k + 1, by omega, by go_num, HN.out, hbw.setCell (by exact hsz) _⟩
        case measure => simp [intOf]; omega
      · have hn := upPart_not s.data.toList k hkl (by rw [← Hx.out]; exact hup)
        rw [← hn] at hby
        clear hn
        by_cases h65 : 97 ≤ x.toNat
        · have h90 : 122 < x.toNat := by omega
          go_wp2
          go_roundw
          case rel => exact ⟨k + 1, by omega, by go_num, hby, hbw⟩
          case measure => simp [intOf]; omega
        · go_wp2
          go_roundw
          case rel => exact ⟨k + 1, by omega, by go_num, hby, hbw⟩
          case measure => simp [intOf]; omega
    · obtain rfl : k = s.size := by omega
      rw [← hlen.out, upPart_all] at hby
      have hll : (upL s.data.toList).length = s.size := by rw [← hlen.out, upL_length]
      have hstr : ∀ W : World, Below wr.heap.size wr W → (convert 25 9 (.slice (some ⟨w2.heap.size, 0, none⟩) s.size cap)).run Try.prog W = .ok (.string ⟨(upL s.data.toList).toArray⟩) W := fun W hW => by
        have := run_convert_bytes_back (P := Try.prog) W 25 9 5 ⟨w2.heap.size, 0, none⟩ cap (upL s.data.toList) Try.underlying25 Try.underlying5 Try.underlying9 (fun j hj => by
          rw [add0, hW.cell (by have := (hby j hj).1; exact World.block_lt_of_cell? _ _ this)]; exact (hby j hj).1)
        rw [hll] at this
        exact this
      have hone : (convert 25 9 (.slice (some ⟨wr.heap.size, 0, none⟩) 1 1)).run Try.prog (wr.alloc (.cells #[.int .u8 (c.toNat : Int)] 5)) = .ok (.string ⟨#[c]⟩) (wr.alloc (.cells #[.int .u8 (c.toNat : Int)] 5)) :=
        run_convert_bytes_back (P := Try.prog) (wr.alloc (.cells #[.int .u8 (c.toNat : Int)] 5)) 25 9 5 ⟨wr.heap.size, 0, none⟩ 1 [c] Try.underlying25 Try.underlying5 Try.underlying9 (fun j hj => by
          have : j = 0 := by simpa using hj
          subst this
          rw [add0]
          exact World.cell?_alloc_mark wr #[.int .u8 (c.toNat : Int)] 5 (0, 0) 0)
      have hbw' : Below wr.heap.size wr (wr.alloc (.cells #[.int .u8 (c.toNat : Int)] 5)) := (Below.refl _ _).alloc (Nat.le_refl _) _
      generalize hWW : wr.alloc (.cells #[.int .u8 (c.toNat : Int)] 5) = W0 at *
      have HW := hid hWW
      have hul : (upL s.data.toList).length ≤ 50 := by omega
      have hlow : lowL (upL s.data.toList) = lowL s.data.toList := lowL_upL _
      generalize upL s.data.toList = ul at *
      have HLow := hid hlow
      clear hlow
      have htl : Hid ((lowL t.data.toList).length ≤ 50) := hid (by rw [lowL_length]; simp; omega)
      have hlow2 : lowL (lowL t.data.toList) = lowL t.data.toList := lowL_lowL _
      have kcall : Hid (∀ W, Calls Try.prog 10 #[.string ⟨ul.toArray⟩, .string ⟨(lowL t.data.toList).toArray⟩] W fun e w' => e = .returned (.int .i64 kk) ∧ Below W.heap.size W w') := hid fun W => by
        refine (kind_calls ⟨ul.toArray⟩ ⟨(lowL t.data.toList).toArray⟩ W (by show ul.toArray.size ≤ _; simp; omega) (by have := htl.out; show (lowL t.data.toList).toArray.size ≤ _; simp; omega)).mono ?_
        rintro e w' ⟨rfl, hb⟩
        refine ⟨?_, hb⟩
        rw [← HK.out]
        simp [HLow.out, hlow2]
      clear hlow2
      have hkr : 0 ≤ kk ∧ kk ≤ 3 := by
        rw [← HK.out]
        rcases kindOf_range (lowL s.data.toList) (lowL t.data.toList) with h | h | h | h <;> rw [h] <;> omega
      obtain ⟨hk0, hk3⟩ := hkr
      have hd0 : decide (kk < 0) = false := by simp; omega
      have hd3 : decide (3 < kk) = false := by simp; omega
      go_wp2_with fail
      clear hone hby hlen
      have hc1 := hstr W0.drew hbw'.drew
      have hmono := hbw'.size
      have HS := hid hstr
      clear hstr
      have hbW : Below w.heap.size w W0.drew := (hbw.trans (hbw'.mono (Below.size hbw))).drew
      have HBW := hid hbW
      clear hbW hbw hb2 HW HLow hul htl hll hWW hs hlt hk hsz hc1 hmono
      have htsz : t.size ≤ 100000 := by omega
      refine region_seq (fun W => Below wr.heap.size wr W ∧ Below w.heap.size w W) (by kernel_rfl) (by kernel_rfl) ⟨hbw'.drew, HBW.out⟩ ?_
      simp only []
      repeat (first
        | (apply SeqDet.stepK; · rfl
           · intro W hW K hK; have hc := HS.out W hW.1; go_simp; exact hK _ hW
           simp only [Act.put, List.setIfInBounds_toArray, List.set_cons_zero, List.set_cons_succ])
        | (apply SeqDet.stepK; · rfl
           · intro W hW K hK; go_simp; go_at_call 12; refine (lower_calls t _ htsz).mono ?_; rintro e w4 ⟨rfl, hbL⟩; exact hK _ ⟨hW.1.trans (hbL.mono hW.1.size), hW.2.trans (hbL.mono hW.2.size)⟩
           simp only [Act.put, List.setIfInBounds_toArray, List.set_cons_zero, List.set_cons_succ])
        | (apply SeqDet.stepK; · rfl
           · intro W hW K hK; go_simp; go_at_call 10; refine (kcall.out _).mono ?_; rintro e w4 ⟨rfl, hbL⟩; exact hK _ ⟨hW.1.trans (hbL.mono hW.1.size), hW.2.trans (hbL.mono hW.2.size)⟩
           simp only [Act.put, List.setIfInBounds_toArray, List.set_cons_zero, List.set_cons_succ]))
      refine SeqDet.nil ?_
      intro w6 hw6
      obtain ⟨_, hb6⟩ := hw6
      clear HS HBW hbw'
      by_cases hz : kk = 0
      · subst hz
        go_wp2_with fail
        go_ret
        exact ⟨rfl, hb6⟩
      · have hzz : (kk == 0) = false := by simpa using hz
        have hnz : Hid (kk ≠ 0) := hid hz
        clear hz
        cases hL : isLetter c with
        | true =>
          go_wp2_with fail
          refine (letter_calls c _).mono ?_
          rintro e w7 ⟨rfl, rfl⟩
          rw [hL]
          clear hL
          go_wp2_with fail
          go_ret
          exact ⟨rfl, hb6⟩
        | false =>
          have HL := hid hL
          go_wp2_with fail
          refine (letter_calls c _).mono ?_
          rintro e w7 ⟨rfl, rfl⟩
          rw [hL]
          clear hL
          go_wp2_with fail
          have h1c : ({ data := #[c] } : ByteArray).size = 1 := rfl
          have H1 := hid h1c
          clear h1c
          refine (kind_sign _ _ c HL.out (.inl (by simp)) (by have := H1.out; simp; omega) (by omega) _).mono ?_
          rintro e w7 ⟨rfl, hb7⟩
          have hb7 := hb6.trans (hb7.mono hb6.size)
          go_wp2_with fail
          refine (kind_sign _ _ c HL.out (.inr (by simp)) (by omega) (by have := H1.out; simp; omega) _).mono ?_
          rintro e w8 ⟨rfl, hb8⟩
          have hb8 := hb7.trans (hb8.mono hb7.size)
          go_wp2_with fail
          refine (kind_sign _ _ c HL.out (.inl (by simp)) (by have := H1.out; simp; omega) (by omega) _).mono ?_
          rintro e w9 ⟨rfl, hb9⟩
          have hb9 := hb8.trans (hb9.mono hb8.size)
          go_wp2_with fail
          go_ret
          exact ⟨rfl, hb9⟩

theorem classLetters_walk (s t : ByteArray) (n : Int) (w : World) (hs : s.size ≤ maxLen) (ht : t.size ≤ maxLen) (hn : (Lit.int .u8 n).wf = true) :
    Calls Try.prog 4 #[.string s, .string t, .int .u8 n] w fun e w' => e = .returned (.bool true) ∧ Below w.heap.size w w' := by
  obtain ⟨c, rfl⟩ := u8_of hn
  unfold maxLen at hs ht
  by_cases h1 : 50 < s.size
  · go_enter Try.func4, Try.ntmps4
    go_wp2_with fail
    refine (small_calls _).mono ?_
    rintro e w1 ⟨rfl, hb1⟩
    go_wp2_with fail
    go_ret
    exact ⟨rfl, hb1⟩
  · by_cases h2 : 50 < t.size
    · go_enter Try.func4, Try.ntmps4
      go_wp2_with fail
      refine (small_calls _).mono ?_
      rintro e w1 ⟨rfl, hb1⟩
      go_wp2_with fail
      go_ret
      exact ⟨rfl, hb1⟩
    · exact classLetters_core s t c w (by omega) (by omega)
end Go.Proofs.Ytllgkmacjncelaa
