/-
  The contract of ascii.Lower: it returns the text in small letters. Conditions: the text has at most 100000 bytes.
-/
import Derived.Test.YtllgkmacjncelaaChecked
import Derived.Test.YtllgkmacjncelaaBase
set_option linter.all false
namespace Go.Proofs.Ytllgkmacjncelaa
open Go.RowKit

set_option maxHeartbeats 400000 in
theorem lower_calls (s : ByteArray) (w : World) (hs : s.size ≤ 100000) :
    Calls Try.prog 12 #[.string s] w fun e w' => e = .returned (.string ⟨(lowL s.data.toList).toArray⟩) ∧ Below w.heap.size w w' := by
  have hcv := run_bytes_of_string (P := Try.prog) w 9 25 5 s Try.underlying9 Try.underlying25 Try.underlying5
  have hb0 := bytesAt_made s w (grownCap w s.size 0 5) 5
  have hbel := Below.made s w (grownCap w s.size 0 5) 5
  have hlen : Hid (s.data.toList.length = s.size) := hid (by simp)
  generalize hcap : grownCap w s.size 0 5 = cap at *
  clear hcap
  go_enter Try.func12, Try.ntmps12
  go_wp2
  clear hcv
  go_loopw [10] (fun i wr => ∃ k : Nat, k ≤ s.size ∧ i = .int .i64 k ∧ BytesAt wr w.heap.size (lowPart s.data.toList k) ∧ Below w.heap.size w wr) (fun i _ => s.size - (intOf i).toNat)
  case atStart => exact ⟨0, Nat.zero_le _, rfl, by rw [lowPart_zero]; exact hb0, hbel⟩
  case round =>
    obtain ⟨k, hk, rfl, hby, hbw⟩ := hrel
    clear hb0 hbel
    by_cases hlt : k < s.size
    · have hkl : k < s.data.toList.length := by rw [hlen.out]; exact hlt
      have hkp : k < (lowPart s.data.toList k).length := by rw [lowPart_length]; exact hkl
      obtain ⟨hc, hf⟩ := hby k hkp
      rw [lowPart_get _ _ hkl] at hc
      obtain ⟨x, hx⟩ : ∃ x, x = s.data.toList[k] := ⟨_, rfl⟩
      rw [← hx] at hc
      have Hx := hid hx
      clear hx
      have hx1 : x.toNat < 256 := x.toNat_lt
      by_cases hup : 65 ≤ x.toNat ∧ x.toNat ≤ 90
      · have hn := lowPart_succ s.data.toList k hkl
        rw [← Hx.out] at hn
        have hst := hby.set hkp (lowB x)
        rw [← hn, lowB_up hup] at hst
        have HN := hid hst
        clear hn hst
        obtain ⟨h65, h90⟩ := hup
        go_wp2
        go_roundw
        case rel => exact ⟨k + 1, by omega, by go_num, HN.out, hbw.setCell (Nat.le_refl _) _⟩
        case measure => simp [intOf]; omega
      · have hn := lowPart_not s.data.toList k hkl (by rw [← Hx.out]; exact hup)
        rw [← hn] at hby
        clear hn
        by_cases h65 : 65 ≤ x.toNat
        · have h90 : 90 < x.toNat := by omega
          go_wp2
          go_roundw
          case rel => exact ⟨k + 1, by omega, by go_num, hby, hbw⟩
          case measure => simp [intOf]; omega
        · go_wp2
          go_roundw
          case rel => exact ⟨k + 1, by omega, by go_num, hby, hbw⟩
          case measure => simp [intOf]; omega
    · obtain rfl : k = s.size := by omega
      rw [← hlen.out, lowPart_all] at hby
      have hcb := run_convert_bytes_back (P := Try.prog) wr 25 9 5 ⟨w.heap.size, 0, none⟩ cap (lowL s.data.toList) Try.underlying25 Try.underlying5 Try.underlying9 (fun j hj => by
        rw [add0]; exact (hby j hj).1)
      have hll : (lowL s.data.toList).length = s.size := by rw [← hlen.out]; simp [lowL]
      rw [hll] at hcb
      clear hll
      go_wp2
      go_ret
      exact ⟨rfl, hbw⟩
end Go.Proofs.Ytllgkmacjncelaa
