/-
  The contract of free. Conditions: none.
-/
import Derived.Test.YtmcjljjagfpkkaaEntNums
set_option linter.all false
namespace Go.Proofs.Ytmcjljjagfpkkaa
open Go.RowKit
def strB (l : List UInt8) : ByteArray := ⟨l.toArray⟩
theorem strB_list (l : List UInt8) : (strB l).data.toList = l := by simp [strB]
theorem strB_of (s : ByteArray) : strB s.data.toList = s := by
  obtain ⟨a⟩ := s
  simp [strB]
theorem strB_size (p : List UInt8) : (strB p).size = p.length := by simp [strB, ByteArray.size]
/-- what is told of a name: the text, and whether there is one -/
def tellV (o : Option (List UInt8)) : Value := .tuple #[.string (strB (o.getD [])), .bool o.isSome]
theorem tell_some {o : Option (List UInt8)} {t : List UInt8} (h : o = some t) : Ending.returned (.tuple #[.string ⟨t.toArray⟩, .bool true]) = .returned (tellV o) := by subst h; rfl
theorem tell_none {o : Option (List UInt8)} (h : o = none) : Ending.returned (.tuple #[.string ⟨#[]⟩, .bool false]) = .returned (tellV o) := by subst h; rfl
theorem keyB {s : ByteArray} {l : List UInt8} (h : s.data.toList = l) (n : List UInt8) : (s.toList == n) = (l == n) := by rw [ByteArray.toList_eq, h]
theorem keyN {s : ByteArray} {l : List UInt8} (h : ¬ s.data.toList = l) : (s.toList == l) = false := by rw [ByteArray.toList_eq, beq_eq_false_iff_ne]; exact h
set_option maxHeartbeats 8000000 in
set_option maxRecDepth 100000 in
theorem free_calls (s : ByteArray) (w : World) :
    Calls Try.prog 33 #[.string s] w fun e w' => e = .returned (tellV (lookT freeT s.data.toList)) ∧ w = w' := by
  by_cases h0 : s.data.toList = [97, 109, 112]
  · have k0 : (s.toList == [97, 109, 112]) = true := (keyB h0 _).trans (by decide)
    have k1 : (s.toList == [65, 77, 80]) = false := (keyB h0 _).trans (by decide)
    have k2 : (s.toList == [108, 116]) = false := (keyB h0 _).trans (by decide)
    have k3 : (s.toList == [76, 84]) = false := (keyB h0 _).trans (by decide)
    have k4 : (s.toList == [103, 116]) = false := (keyB h0 _).trans (by decide)
    have k5 : (s.toList == [71, 84]) = false := (keyB h0 _).trans (by decide)
    have k6 : (s.toList == [113, 117, 111, 116]) = false := (keyB h0 _).trans (by decide)
    have k7 : (s.toList == [81, 85, 79, 84]) = false := (keyB h0 _).trans (by decide)
    have k8 : (s.toList == [110, 98, 115, 112]) = false := (keyB h0 _).trans (by decide)
    have k9 : (s.toList == [115, 104, 121]) = false := (keyB h0 _).trans (by decide)
    have k10 : (s.toList == [110, 111, 116]) = false := (keyB h0 _).trans (by decide)
    have k11 : (s.toList == [114, 101, 103]) = false := (keyB h0 _).trans (by decide)
    have k12 : (s.toList == [99, 111, 112, 121]) = false := (keyB h0 _).trans (by decide)
    have k13 : (s.toList == [112, 97, 114, 97]) = false := (keyB h0 _).trans (by decide)
    have k14 : (s.toList == [115, 101, 99, 116]) = false := (keyB h0 _).trans (by decide)
    have k15 : (s.toList == [121, 101, 110]) = false := (keyB h0 _).trans (by decide)
    have k16 : (s.toList == [100, 101, 103]) = false := (keyB h0 _).trans (by decide)
    have k17 : (s.toList == [116, 105, 109, 101, 115]) = false := (keyB h0 _).trans (by decide)
    have k18 : (s.toList == [101, 97, 99, 117, 116, 101]) = false := (keyB h0 _).trans (by decide)
    have k19 : (s.toList == [111, 117, 109, 108]) = false := (keyB h0 _).trans (by decide)
    have k20 : (s.toList == [115, 122, 108, 105, 103]) = false := (keyB h0 _).trans (by decide)
    have ht : lookT freeT s.data.toList = some [38] := by rw [h0]; decide +kernel
    have HT := hid ht
    clear ht h0
    go_enter Try.func33, Try.ntmps33
    go_wp2
    go_ret2
    exact ⟨tell_some HT.out, rfl⟩
  by_cases h1 : s.data.toList = [65, 77, 80]
  · have k0 : (s.toList == [97, 109, 112]) = false := (keyB h1 _).trans (by decide)
    have k1 : (s.toList == [65, 77, 80]) = true := (keyB h1 _).trans (by decide)
    have k2 : (s.toList == [108, 116]) = false := (keyB h1 _).trans (by decide)
    have k3 : (s.toList == [76, 84]) = false := (keyB h1 _).trans (by decide)
    have k4 : (s.toList == [103, 116]) = false := (keyB h1 _).trans (by decide)
    have k5 : (s.toList == [71, 84]) = false := (keyB h1 _).trans (by decide)
    have k6 : (s.toList == [113, 117, 111, 116]) = false := (keyB h1 _).trans (by decide)
    have k7 : (s.toList == [81, 85, 79, 84]) = false := (keyB h1 _).trans (by decide)
    have k8 : (s.toList == [110, 98, 115, 112]) = false := (keyB h1 _).trans (by decide)
    have k9 : (s.toList == [115, 104, 121]) = false := (keyB h1 _).trans (by decide)
    have k10 : (s.toList == [110, 111, 116]) = false := (keyB h1 _).trans (by decide)
    have k11 : (s.toList == [114, 101, 103]) = false := (keyB h1 _).trans (by decide)
    have k12 : (s.toList == [99, 111, 112, 121]) = false := (keyB h1 _).trans (by decide)
    have k13 : (s.toList == [112, 97, 114, 97]) = false := (keyB h1 _).trans (by decide)
    have k14 : (s.toList == [115, 101, 99, 116]) = false := (keyB h1 _).trans (by decide)
    have k15 : (s.toList == [121, 101, 110]) = false := (keyB h1 _).trans (by decide)
    have k16 : (s.toList == [100, 101, 103]) = false := (keyB h1 _).trans (by decide)
    have k17 : (s.toList == [116, 105, 109, 101, 115]) = false := (keyB h1 _).trans (by decide)
    have k18 : (s.toList == [101, 97, 99, 117, 116, 101]) = false := (keyB h1 _).trans (by decide)
    have k19 : (s.toList == [111, 117, 109, 108]) = false := (keyB h1 _).trans (by decide)
    have k20 : (s.toList == [115, 122, 108, 105, 103]) = false := (keyB h1 _).trans (by decide)
    have ht : lookT freeT s.data.toList = some [38] := by rw [h1]; decide +kernel
    have HT := hid ht
    clear ht h1
    clear h0
    go_enter Try.func33, Try.ntmps33
    go_wp2
    go_ret2
    exact ⟨tell_some HT.out, rfl⟩
  by_cases h2 : s.data.toList = [108, 116]
  · have k0 : (s.toList == [97, 109, 112]) = false := (keyB h2 _).trans (by decide)
    have k1 : (s.toList == [65, 77, 80]) = false := (keyB h2 _).trans (by decide)
    have k2 : (s.toList == [108, 116]) = true := (keyB h2 _).trans (by decide)
    have k3 : (s.toList == [76, 84]) = false := (keyB h2 _).trans (by decide)
    have k4 : (s.toList == [103, 116]) = false := (keyB h2 _).trans (by decide)
    have k5 : (s.toList == [71, 84]) = false := (keyB h2 _).trans (by decide)
    have k6 : (s.toList == [113, 117, 111, 116]) = false := (keyB h2 _).trans (by decide)
    have k7 : (s.toList == [81, 85, 79, 84]) = false := (keyB h2 _).trans (by decide)
    have k8 : (s.toList == [110, 98, 115, 112]) = false := (keyB h2 _).trans (by decide)
    have k9 : (s.toList == [115, 104, 121]) = false := (keyB h2 _).trans (by decide)
    have k10 : (s.toList == [110, 111, 116]) = false := (keyB h2 _).trans (by decide)
    have k11 : (s.toList == [114, 101, 103]) = false := (keyB h2 _).trans (by decide)
    have k12 : (s.toList == [99, 111, 112, 121]) = false := (keyB h2 _).trans (by decide)
    have k13 : (s.toList == [112, 97, 114, 97]) = false := (keyB h2 _).trans (by decide)
    have k14 : (s.toList == [115, 101, 99, 116]) = false := (keyB h2 _).trans (by decide)
    have k15 : (s.toList == [121, 101, 110]) = false := (keyB h2 _).trans (by decide)
    have k16 : (s.toList == [100, 101, 103]) = false := (keyB h2 _).trans (by decide)
    have k17 : (s.toList == [116, 105, 109, 101, 115]) = false := (keyB h2 _).trans (by decide)
    have k18 : (s.toList == [101, 97, 99, 117, 116, 101]) = false := (keyB h2 _).trans (by decide)
    have k19 : (s.toList == [111, 117, 109, 108]) = false := (keyB h2 _).trans (by decide)
    have k20 : (s.toList == [115, 122, 108, 105, 103]) = false := (keyB h2 _).trans (by decide)
    have ht : lookT freeT s.data.toList = some [60] := by rw [h2]; decide +kernel
    have HT := hid ht
    clear ht h2
    clear h0 h1
    go_enter Try.func33, Try.ntmps33
    go_wp2
    go_ret2
    exact ⟨tell_some HT.out, rfl⟩
  by_cases h3 : s.data.toList = [76, 84]
  · have k0 : (s.toList == [97, 109, 112]) = false := (keyB h3 _).trans (by decide)
    have k1 : (s.toList == [65, 77, 80]) = false := (keyB h3 _).trans (by decide)
    have k2 : (s.toList == [108, 116]) = false := (keyB h3 _).trans (by decide)
    have k3 : (s.toList == [76, 84]) = true := (keyB h3 _).trans (by decide)
    have k4 : (s.toList == [103, 116]) = false := (keyB h3 _).trans (by decide)
    have k5 : (s.toList == [71, 84]) = false := (keyB h3 _).trans (by decide)
    have k6 : (s.toList == [113, 117, 111, 116]) = false := (keyB h3 _).trans (by decide)
    have k7 : (s.toList == [81, 85, 79, 84]) = false := (keyB h3 _).trans (by decide)
    have k8 : (s.toList == [110, 98, 115, 112]) = false := (keyB h3 _).trans (by decide)
    have k9 : (s.toList == [115, 104, 121]) = false := (keyB h3 _).trans (by decide)
    have k10 : (s.toList == [110, 111, 116]) = false := (keyB h3 _).trans (by decide)
    have k11 : (s.toList == [114, 101, 103]) = false := (keyB h3 _).trans (by decide)
    have k12 : (s.toList == [99, 111, 112, 121]) = false := (keyB h3 _).trans (by decide)
    have k13 : (s.toList == [112, 97, 114, 97]) = false := (keyB h3 _).trans (by decide)
    have k14 : (s.toList == [115, 101, 99, 116]) = false := (keyB h3 _).trans (by decide)
    have k15 : (s.toList == [121, 101, 110]) = false := (keyB h3 _).trans (by decide)
    have k16 : (s.toList == [100, 101, 103]) = false := (keyB h3 _).trans (by decide)
    have k17 : (s.toList == [116, 105, 109, 101, 115]) = false := (keyB h3 _).trans (by decide)
    have k18 : (s.toList == [101, 97, 99, 117, 116, 101]) = false := (keyB h3 _).trans (by decide)
    have k19 : (s.toList == [111, 117, 109, 108]) = false := (keyB h3 _).trans (by decide)
    have k20 : (s.toList == [115, 122, 108, 105, 103]) = false := (keyB h3 _).trans (by decide)
    have ht : lookT freeT s.data.toList = some [60] := by rw [h3]; decide +kernel
    have HT := hid ht
    clear ht h3
    clear h0 h1 h2
    go_enter Try.func33, Try.ntmps33
    go_wp2
    go_ret2
    exact ⟨tell_some HT.out, rfl⟩
  by_cases h4 : s.data.toList = [103, 116]
  · have k0 : (s.toList == [97, 109, 112]) = false := (keyB h4 _).trans (by decide)
    have k1 : (s.toList == [65, 77, 80]) = false := (keyB h4 _).trans (by decide)
    have k2 : (s.toList == [108, 116]) = false := (keyB h4 _).trans (by decide)
    have k3 : (s.toList == [76, 84]) = false := (keyB h4 _).trans (by decide)
    have k4 : (s.toList == [103, 116]) = true := (keyB h4 _).trans (by decide)
    have k5 : (s.toList == [71, 84]) = false := (keyB h4 _).trans (by decide)
    have k6 : (s.toList == [113, 117, 111, 116]) = false := (keyB h4 _).trans (by decide)
    have k7 : (s.toList == [81, 85, 79, 84]) = false := (keyB h4 _).trans (by decide)
    have k8 : (s.toList == [110, 98, 115, 112]) = false := (keyB h4 _).trans (by decide)
    have k9 : (s.toList == [115, 104, 121]) = false := (keyB h4 _).trans (by decide)
    have k10 : (s.toList == [110, 111, 116]) = false := (keyB h4 _).trans (by decide)
    have k11 : (s.toList == [114, 101, 103]) = false := (keyB h4 _).trans (by decide)
    have k12 : (s.toList == [99, 111, 112, 121]) = false := (keyB h4 _).trans (by decide)
    have k13 : (s.toList == [112, 97, 114, 97]) = false := (keyB h4 _).trans (by decide)
    have k14 : (s.toList == [115, 101, 99, 116]) = false := (keyB h4 _).trans (by decide)
    have k15 : (s.toList == [121, 101, 110]) = false := (keyB h4 _).trans (by decide)
    have k16 : (s.toList == [100, 101, 103]) = false := (keyB h4 _).trans (by decide)
    have k17 : (s.toList == [116, 105, 109, 101, 115]) = false := (keyB h4 _).trans (by decide)
    have k18 : (s.toList == [101, 97, 99, 117, 116, 101]) = false := (keyB h4 _).trans (by decide)
    have k19 : (s.toList == [111, 117, 109, 108]) = false := (keyB h4 _).trans (by decide)
    have k20 : (s.toList == [115, 122, 108, 105, 103]) = false := (keyB h4 _).trans (by decide)
    have ht : lookT freeT s.data.toList = some [62] := by rw [h4]; decide +kernel
    have HT := hid ht
    clear ht h4
    clear h0 h1 h2 h3
    go_enter Try.func33, Try.ntmps33
    go_wp2
    go_ret2
    exact ⟨tell_some HT.out, rfl⟩
  by_cases h5 : s.data.toList = [71, 84]
  · have k0 : (s.toList == [97, 109, 112]) = false := (keyB h5 _).trans (by decide)
    have k1 : (s.toList == [65, 77, 80]) = false := (keyB h5 _).trans (by decide)
    have k2 : (s.toList == [108, 116]) = false := (keyB h5 _).trans (by decide)
    have k3 : (s.toList == [76, 84]) = false := (keyB h5 _).trans (by decide)
    have k4 : (s.toList == [103, 116]) = false := (keyB h5 _).trans (by decide)
    have k5 : (s.toList == [71, 84]) = true := (keyB h5 _).trans (by decide)
    have k6 : (s.toList == [113, 117, 111, 116]) = false := (keyB h5 _).trans (by decide)
    have k7 : (s.toList == [81, 85, 79, 84]) = false := (keyB h5 _).trans (by decide)
    have k8 : (s.toList == [110, 98, 115, 112]) = false := (keyB h5 _).trans (by decide)
    have k9 : (s.toList == [115, 104, 121]) = false := (keyB h5 _).trans (by decide)
    have k10 : (s.toList == [110, 111, 116]) = false := (keyB h5 _).trans (by decide)
    have k11 : (s.toList == [114, 101, 103]) = false := (keyB h5 _).trans (by decide)
    have k12 : (s.toList == [99, 111, 112, 121]) = false := (keyB h5 _).trans (by decide)
    have k13 : (s.toList == [112, 97, 114, 97]) = false := (keyB h5 _).trans (by decide)
    have k14 : (s.toList == [115, 101, 99, 116]) = false := (keyB h5 _).trans (by decide)
    have k15 : (s.toList == [121, 101, 110]) = false := (keyB h5 _).trans (by decide)
    have k16 : (s.toList == [100, 101, 103]) = false := (keyB h5 _).trans (by decide)
    have k17 : (s.toList == [116, 105, 109, 101, 115]) = false := (keyB h5 _).trans (by decide)
    have k18 : (s.toList == [101, 97, 99, 117, 116, 101]) = false := (keyB h5 _).trans (by decide)
    have k19 : (s.toList == [111, 117, 109, 108]) = false := (keyB h5 _).trans (by decide)
    have k20 : (s.toList == [115, 122, 108, 105, 103]) = false := (keyB h5 _).trans (by decide)
    have ht : lookT freeT s.data.toList = some [62] := by rw [h5]; decide +kernel
    have HT := hid ht
    clear ht h5
    clear h0 h1 h2 h3 h4
    go_enter Try.func33, Try.ntmps33
    go_wp2
    go_ret2
    exact ⟨tell_some HT.out, rfl⟩
  by_cases h6 : s.data.toList = [113, 117, 111, 116]
  · have k0 : (s.toList == [97, 109, 112]) = false := (keyB h6 _).trans (by decide)
    have k1 : (s.toList == [65, 77, 80]) = false := (keyB h6 _).trans (by decide)
    have k2 : (s.toList == [108, 116]) = false := (keyB h6 _).trans (by decide)
    have k3 : (s.toList == [76, 84]) = false := (keyB h6 _).trans (by decide)
    have k4 : (s.toList == [103, 116]) = false := (keyB h6 _).trans (by decide)
    have k5 : (s.toList == [71, 84]) = false := (keyB h6 _).trans (by decide)
    have k6 : (s.toList == [113, 117, 111, 116]) = true := (keyB h6 _).trans (by decide)
    have k7 : (s.toList == [81, 85, 79, 84]) = false := (keyB h6 _).trans (by decide)
    have k8 : (s.toList == [110, 98, 115, 112]) = false := (keyB h6 _).trans (by decide)
    have k9 : (s.toList == [115, 104, 121]) = false := (keyB h6 _).trans (by decide)
    have k10 : (s.toList == [110, 111, 116]) = false := (keyB h6 _).trans (by decide)
    have k11 : (s.toList == [114, 101, 103]) = false := (keyB h6 _).trans (by decide)
    have k12 : (s.toList == [99, 111, 112, 121]) = false := (keyB h6 _).trans (by decide)
    have k13 : (s.toList == [112, 97, 114, 97]) = false := (keyB h6 _).trans (by decide)
    have k14 : (s.toList == [115, 101, 99, 116]) = false := (keyB h6 _).trans (by decide)
    have k15 : (s.toList == [121, 101, 110]) = false := (keyB h6 _).trans (by decide)
    have k16 : (s.toList == [100, 101, 103]) = false := (keyB h6 _).trans (by decide)
    have k17 : (s.toList == [116, 105, 109, 101, 115]) = false := (keyB h6 _).trans (by decide)
    have k18 : (s.toList == [101, 97, 99, 117, 116, 101]) = false := (keyB h6 _).trans (by decide)
    have k19 : (s.toList == [111, 117, 109, 108]) = false := (keyB h6 _).trans (by decide)
    have k20 : (s.toList == [115, 122, 108, 105, 103]) = false := (keyB h6 _).trans (by decide)
    have ht : lookT freeT s.data.toList = some [34] := by rw [h6]; decide +kernel
    have HT := hid ht
    clear ht h6
    clear h0 h1 h2 h3 h4 h5
    go_enter Try.func33, Try.ntmps33
    go_wp2
    go_ret2
    exact ⟨tell_some HT.out, rfl⟩
  by_cases h7 : s.data.toList = [81, 85, 79, 84]
  · have k0 : (s.toList == [97, 109, 112]) = false := (keyB h7 _).trans (by decide)
    have k1 : (s.toList == [65, 77, 80]) = false := (keyB h7 _).trans (by decide)
    have k2 : (s.toList == [108, 116]) = false := (keyB h7 _).trans (by decide)
    have k3 : (s.toList == [76, 84]) = false := (keyB h7 _).trans (by decide)
    have k4 : (s.toList == [103, 116]) = false := (keyB h7 _).trans (by decide)
    have k5 : (s.toList == [71, 84]) = false := (keyB h7 _).trans (by decide)
    have k6 : (s.toList == [113, 117, 111, 116]) = false := (keyB h7 _).trans (by decide)
    have k7 : (s.toList == [81, 85, 79, 84]) = true := (keyB h7 _).trans (by decide)
    have k8 : (s.toList == [110, 98, 115, 112]) = false := (keyB h7 _).trans (by decide)
    have k9 : (s.toList == [115, 104, 121]) = false := (keyB h7 _).trans (by decide)
    have k10 : (s.toList == [110, 111, 116]) = false := (keyB h7 _).trans (by decide)
    have k11 : (s.toList == [114, 101, 103]) = false := (keyB h7 _).trans (by decide)
    have k12 : (s.toList == [99, 111, 112, 121]) = false := (keyB h7 _).trans (by decide)
    have k13 : (s.toList == [112, 97, 114, 97]) = false := (keyB h7 _).trans (by decide)
    have k14 : (s.toList == [115, 101, 99, 116]) = false := (keyB h7 _).trans (by decide)
    have k15 : (s.toList == [121, 101, 110]) = false := (keyB h7 _).trans (by decide)
    have k16 : (s.toList == [100, 101, 103]) = false := (keyB h7 _).trans (by decide)
    have k17 : (s.toList == [116, 105, 109, 101, 115]) = false := (keyB h7 _).trans (by decide)
    have k18 : (s.toList == [101, 97, 99, 117, 116, 101]) = false := (keyB h7 _).trans (by decide)
    have k19 : (s.toList == [111, 117, 109, 108]) = false := (keyB h7 _).trans (by decide)
    have k20 : (s.toList == [115, 122, 108, 105, 103]) = false := (keyB h7 _).trans (by decide)
    have ht : lookT freeT s.data.toList = some [34] := by rw [h7]; decide +kernel
    have HT := hid ht
    clear ht h7
    clear h0 h1 h2 h3 h4 h5 h6
    go_enter Try.func33, Try.ntmps33
    go_wp2
    go_ret2
    exact ⟨tell_some HT.out, rfl⟩
  by_cases h8 : s.data.toList = [110, 98, 115, 112]
  · have k0 : (s.toList == [97, 109, 112]) = false := (keyB h8 _).trans (by decide)
    have k1 : (s.toList == [65, 77, 80]) = false := (keyB h8 _).trans (by decide)
    have k2 : (s.toList == [108, 116]) = false := (keyB h8 _).trans (by decide)
    have k3 : (s.toList == [76, 84]) = false := (keyB h8 _).trans (by decide)
    have k4 : (s.toList == [103, 116]) = false := (keyB h8 _).trans (by decide)
    have k5 : (s.toList == [71, 84]) = false := (keyB h8 _).trans (by decide)
    have k6 : (s.toList == [113, 117, 111, 116]) = false := (keyB h8 _).trans (by decide)
    have k7 : (s.toList == [81, 85, 79, 84]) = false := (keyB h8 _).trans (by decide)
    have k8 : (s.toList == [110, 98, 115, 112]) = true := (keyB h8 _).trans (by decide)
    have k9 : (s.toList == [115, 104, 121]) = false := (keyB h8 _).trans (by decide)
    have k10 : (s.toList == [110, 111, 116]) = false := (keyB h8 _).trans (by decide)
    have k11 : (s.toList == [114, 101, 103]) = false := (keyB h8 _).trans (by decide)
    have k12 : (s.toList == [99, 111, 112, 121]) = false := (keyB h8 _).trans (by decide)
    have k13 : (s.toList == [112, 97, 114, 97]) = false := (keyB h8 _).trans (by decide)
    have k14 : (s.toList == [115, 101, 99, 116]) = false := (keyB h8 _).trans (by decide)
    have k15 : (s.toList == [121, 101, 110]) = false := (keyB h8 _).trans (by decide)
    have k16 : (s.toList == [100, 101, 103]) = false := (keyB h8 _).trans (by decide)
    have k17 : (s.toList == [116, 105, 109, 101, 115]) = false := (keyB h8 _).trans (by decide)
    have k18 : (s.toList == [101, 97, 99, 117, 116, 101]) = false := (keyB h8 _).trans (by decide)
    have k19 : (s.toList == [111, 117, 109, 108]) = false := (keyB h8 _).trans (by decide)
    have k20 : (s.toList == [115, 122, 108, 105, 103]) = false := (keyB h8 _).trans (by decide)
    have ht : lookT freeT s.data.toList = some [194, 160] := by rw [h8]; decide +kernel
    have HT := hid ht
    clear ht h8
    clear h0 h1 h2 h3 h4 h5 h6 h7
    go_enter Try.func33, Try.ntmps33
    go_wp2
    go_ret2
    exact ⟨tell_some HT.out, rfl⟩
  by_cases h9 : s.data.toList = [115, 104, 121]
  · have k0 : (s.toList == [97, 109, 112]) = false := (keyB h9 _).trans (by decide)
    have k1 : (s.toList == [65, 77, 80]) = false := (keyB h9 _).trans (by decide)
    have k2 : (s.toList == [108, 116]) = false := (keyB h9 _).trans (by decide)
    have k3 : (s.toList == [76, 84]) = false := (keyB h9 _).trans (by decide)
    have k4 : (s.toList == [103, 116]) = false := (keyB h9 _).trans (by decide)
    have k5 : (s.toList == [71, 84]) = false := (keyB h9 _).trans (by decide)
    have k6 : (s.toList == [113, 117, 111, 116]) = false := (keyB h9 _).trans (by decide)
    have k7 : (s.toList == [81, 85, 79, 84]) = false := (keyB h9 _).trans (by decide)
    have k8 : (s.toList == [110, 98, 115, 112]) = false := (keyB h9 _).trans (by decide)
    have k9 : (s.toList == [115, 104, 121]) = true := (keyB h9 _).trans (by decide)
    have k10 : (s.toList == [110, 111, 116]) = false := (keyB h9 _).trans (by decide)
    have k11 : (s.toList == [114, 101, 103]) = false := (keyB h9 _).trans (by decide)
    have k12 : (s.toList == [99, 111, 112, 121]) = false := (keyB h9 _).trans (by decide)
    have k13 : (s.toList == [112, 97, 114, 97]) = false := (keyB h9 _).trans (by decide)
    have k14 : (s.toList == [115, 101, 99, 116]) = false := (keyB h9 _).trans (by decide)
    have k15 : (s.toList == [121, 101, 110]) = false := (keyB h9 _).trans (by decide)
    have k16 : (s.toList == [100, 101, 103]) = false := (keyB h9 _).trans (by decide)
    have k17 : (s.toList == [116, 105, 109, 101, 115]) = false := (keyB h9 _).trans (by decide)
    have k18 : (s.toList == [101, 97, 99, 117, 116, 101]) = false := (keyB h9 _).trans (by decide)
    have k19 : (s.toList == [111, 117, 109, 108]) = false := (keyB h9 _).trans (by decide)
    have k20 : (s.toList == [115, 122, 108, 105, 103]) = false := (keyB h9 _).trans (by decide)
    have ht : lookT freeT s.data.toList = some [194, 173] := by rw [h9]; decide +kernel
    have HT := hid ht
    clear ht h9
    clear h0 h1 h2 h3 h4 h5 h6 h7 h8
    go_enter Try.func33, Try.ntmps33
    go_wp2
    go_ret2
    exact ⟨tell_some HT.out, rfl⟩
  by_cases h10 : s.data.toList = [110, 111, 116]
  · have k0 : (s.toList == [97, 109, 112]) = false := (keyB h10 _).trans (by decide)
    have k1 : (s.toList == [65, 77, 80]) = false := (keyB h10 _).trans (by decide)
    have k2 : (s.toList == [108, 116]) = false := (keyB h10 _).trans (by decide)
    have k3 : (s.toList == [76, 84]) = false := (keyB h10 _).trans (by decide)
    have k4 : (s.toList == [103, 116]) = false := (keyB h10 _).trans (by decide)
    have k5 : (s.toList == [71, 84]) = false := (keyB h10 _).trans (by decide)
    have k6 : (s.toList == [113, 117, 111, 116]) = false := (keyB h10 _).trans (by decide)
    have k7 : (s.toList == [81, 85, 79, 84]) = false := (keyB h10 _).trans (by decide)
    have k8 : (s.toList == [110, 98, 115, 112]) = false := (keyB h10 _).trans (by decide)
    have k9 : (s.toList == [115, 104, 121]) = false := (keyB h10 _).trans (by decide)
    have k10 : (s.toList == [110, 111, 116]) = true := (keyB h10 _).trans (by decide)
    have k11 : (s.toList == [114, 101, 103]) = false := (keyB h10 _).trans (by decide)
    have k12 : (s.toList == [99, 111, 112, 121]) = false := (keyB h10 _).trans (by decide)
    have k13 : (s.toList == [112, 97, 114, 97]) = false := (keyB h10 _).trans (by decide)
    have k14 : (s.toList == [115, 101, 99, 116]) = false := (keyB h10 _).trans (by decide)
    have k15 : (s.toList == [121, 101, 110]) = false := (keyB h10 _).trans (by decide)
    have k16 : (s.toList == [100, 101, 103]) = false := (keyB h10 _).trans (by decide)
    have k17 : (s.toList == [116, 105, 109, 101, 115]) = false := (keyB h10 _).trans (by decide)
    have k18 : (s.toList == [101, 97, 99, 117, 116, 101]) = false := (keyB h10 _).trans (by decide)
    have k19 : (s.toList == [111, 117, 109, 108]) = false := (keyB h10 _).trans (by decide)
    have k20 : (s.toList == [115, 122, 108, 105, 103]) = false := (keyB h10 _).trans (by decide)
    have ht : lookT freeT s.data.toList = some [194, 172] := by rw [h10]; decide +kernel
    have HT := hid ht
    clear ht h10
    clear h0 h1 h2 h3 h4 h5 h6 h7 h8 h9
    go_enter Try.func33, Try.ntmps33
    go_wp2
    go_ret2
    exact ⟨tell_some HT.out, rfl⟩
  by_cases h11 : s.data.toList = [114, 101, 103]
  · have k0 : (s.toList == [97, 109, 112]) = false := (keyB h11 _).trans (by decide)
    have k1 : (s.toList == [65, 77, 80]) = false := (keyB h11 _).trans (by decide)
    have k2 : (s.toList == [108, 116]) = false := (keyB h11 _).trans (by decide)
    have k3 : (s.toList == [76, 84]) = false := (keyB h11 _).trans (by decide)
    have k4 : (s.toList == [103, 116]) = false := (keyB h11 _).trans (by decide)
    have k5 : (s.toList == [71, 84]) = false := (keyB h11 _).trans (by decide)
    have k6 : (s.toList == [113, 117, 111, 116]) = false := (keyB h11 _).trans (by decide)
    have k7 : (s.toList == [81, 85, 79, 84]) = false := (keyB h11 _).trans (by decide)
    have k8 : (s.toList == [110, 98, 115, 112]) = false := (keyB h11 _).trans (by decide)
    have k9 : (s.toList == [115, 104, 121]) = false := (keyB h11 _).trans (by decide)
    have k10 : (s.toList == [110, 111, 116]) = false := (keyB h11 _).trans (by decide)
    have k11 : (s.toList == [114, 101, 103]) = true := (keyB h11 _).trans (by decide)
    have k12 : (s.toList == [99, 111, 112, 121]) = false := (keyB h11 _).trans (by decide)
    have k13 : (s.toList == [112, 97, 114, 97]) = false := (keyB h11 _).trans (by decide)
    have k14 : (s.toList == [115, 101, 99, 116]) = false := (keyB h11 _).trans (by decide)
    have k15 : (s.toList == [121, 101, 110]) = false := (keyB h11 _).trans (by decide)
    have k16 : (s.toList == [100, 101, 103]) = false := (keyB h11 _).trans (by decide)
    have k17 : (s.toList == [116, 105, 109, 101, 115]) = false := (keyB h11 _).trans (by decide)
    have k18 : (s.toList == [101, 97, 99, 117, 116, 101]) = false := (keyB h11 _).trans (by decide)
    have k19 : (s.toList == [111, 117, 109, 108]) = false := (keyB h11 _).trans (by decide)
    have k20 : (s.toList == [115, 122, 108, 105, 103]) = false := (keyB h11 _).trans (by decide)
    have ht : lookT freeT s.data.toList = some [194, 174] := by rw [h11]; decide +kernel
    have HT := hid ht
    clear ht h11
    clear h0 h1 h2 h3 h4 h5 h6 h7 h8 h9 h10
    go_enter Try.func33, Try.ntmps33
    go_wp2
    go_ret2
    exact ⟨tell_some HT.out, rfl⟩
  by_cases h12 : s.data.toList = [99, 111, 112, 121]
  · have k0 : (s.toList == [97, 109, 112]) = false := (keyB h12 _).trans (by decide)
    have k1 : (s.toList == [65, 77, 80]) = false := (keyB h12 _).trans (by decide)
    have k2 : (s.toList == [108, 116]) = false := (keyB h12 _).trans (by decide)
    have k3 : (s.toList == [76, 84]) = false := (keyB h12 _).trans (by decide)
    have k4 : (s.toList == [103, 116]) = false := (keyB h12 _).trans (by decide)
    have k5 : (s.toList == [71, 84]) = false := (keyB h12 _).trans (by decide)
    have k6 : (s.toList == [113, 117, 111, 116]) = false := (keyB h12 _).trans (by decide)
    have k7 : (s.toList == [81, 85, 79, 84]) = false := (keyB h12 _).trans (by decide)
    have k8 : (s.toList == [110, 98, 115, 112]) = false := (keyB h12 _).trans (by decide)
    have k9 : (s.toList == [115, 104, 121]) = false := (keyB h12 _).trans (by decide)
    have k10 : (s.toList == [110, 111, 116]) = false := (keyB h12 _).trans (by decide)
    have k11 : (s.toList == [114, 101, 103]) = false := (keyB h12 _).trans (by decide)
    have k12 : (s.toList == [99, 111, 112, 121]) = true := (keyB h12 _).trans (by decide)
    have k13 : (s.toList == [112, 97, 114, 97]) = false := (keyB h12 _).trans (by decide)
    have k14 : (s.toList == [115, 101, 99, 116]) = false := (keyB h12 _).trans (by decide)
    have k15 : (s.toList == [121, 101, 110]) = false := (keyB h12 _).trans (by decide)
    have k16 : (s.toList == [100, 101, 103]) = false := (keyB h12 _).trans (by decide)
    have k17 : (s.toList == [116, 105, 109, 101, 115]) = false := (keyB h12 _).trans (by decide)
    have k18 : (s.toList == [101, 97, 99, 117, 116, 101]) = false := (keyB h12 _).trans (by decide)
    have k19 : (s.toList == [111, 117, 109, 108]) = false := (keyB h12 _).trans (by decide)
    have k20 : (s.toList == [115, 122, 108, 105, 103]) = false := (keyB h12 _).trans (by decide)
    have ht : lookT freeT s.data.toList = some [194, 169] := by rw [h12]; decide +kernel
    have HT := hid ht
    clear ht h12
    clear h0 h1 h2 h3 h4 h5 h6 h7 h8 h9 h10 h11
    go_enter Try.func33, Try.ntmps33
    go_wp2
    go_ret2
    exact ⟨tell_some HT.out, rfl⟩
  by_cases h13 : s.data.toList = [112, 97, 114, 97]
  · have k0 : (s.toList == [97, 109, 112]) = false := (keyB h13 _).trans (by decide)
    have k1 : (s.toList == [65, 77, 80]) = false := (keyB h13 _).trans (by decide)
    have k2 : (s.toList == [108, 116]) = false := (keyB h13 _).trans (by decide)
    have k3 : (s.toList == [76, 84]) = false := (keyB h13 _).trans (by decide)
    have k4 : (s.toList == [103, 116]) = false := (keyB h13 _).trans (by decide)
    have k5 : (s.toList == [71, 84]) = false := (keyB h13 _).trans (by decide)
    have k6 : (s.toList == [113, 117, 111, 116]) = false := (keyB h13 _).trans (by decide)
    have k7 : (s.toList == [81, 85, 79, 84]) = false := (keyB h13 _).trans (by decide)
    have k8 : (s.toList == [110, 98, 115, 112]) = false := (keyB h13 _).trans (by decide)
    have k9 : (s.toList == [115, 104, 121]) = false := (keyB h13 _).trans (by decide)
    have k10 : (s.toList == [110, 111, 116]) = false := (keyB h13 _).trans (by decide)
    have k11 : (s.toList == [114, 101, 103]) = false := (keyB h13 _).trans (by decide)
    have k12 : (s.toList == [99, 111, 112, 121]) = false := (keyB h13 _).trans (by decide)
    have k13 : (s.toList == [112, 97, 114, 97]) = true := (keyB h13 _).trans (by decide)
    have k14 : (s.toList == [115, 101, 99, 116]) = false := (keyB h13 _).trans (by decide)
    have k15 : (s.toList == [121, 101, 110]) = false := (keyB h13 _).trans (by decide)
    have k16 : (s.toList == [100, 101, 103]) = false := (keyB h13 _).trans (by decide)
    have k17 : (s.toList == [116, 105, 109, 101, 115]) = false := (keyB h13 _).trans (by decide)
    have k18 : (s.toList == [101, 97, 99, 117, 116, 101]) = false := (keyB h13 _).trans (by decide)
    have k19 : (s.toList == [111, 117, 109, 108]) = false := (keyB h13 _).trans (by decide)
    have k20 : (s.toList == [115, 122, 108, 105, 103]) = false := (keyB h13 _).trans (by decide)
    have ht : lookT freeT s.data.toList = some [194, 182] := by rw [h13]; decide +kernel
    have HT := hid ht
    clear ht h13
    clear h0 h1 h2 h3 h4 h5 h6 h7 h8 h9 h10 h11 h12
    go_enter Try.func33, Try.ntmps33
    go_wp2
    go_ret2
    exact ⟨tell_some HT.out, rfl⟩
  by_cases h14 : s.data.toList = [115, 101, 99, 116]
  · have k0 : (s.toList == [97, 109, 112]) = false := (keyB h14 _).trans (by decide)
    have k1 : (s.toList == [65, 77, 80]) = false := (keyB h14 _).trans (by decide)
    have k2 : (s.toList == [108, 116]) = false := (keyB h14 _).trans (by decide)
    have k3 : (s.toList == [76, 84]) = false := (keyB h14 _).trans (by decide)
    have k4 : (s.toList == [103, 116]) = false := (keyB h14 _).trans (by decide)
    have k5 : (s.toList == [71, 84]) = false := (keyB h14 _).trans (by decide)
    have k6 : (s.toList == [113, 117, 111, 116]) = false := (keyB h14 _).trans (by decide)
    have k7 : (s.toList == [81, 85, 79, 84]) = false := (keyB h14 _).trans (by decide)
    have k8 : (s.toList == [110, 98, 115, 112]) = false := (keyB h14 _).trans (by decide)
    have k9 : (s.toList == [115, 104, 121]) = false := (keyB h14 _).trans (by decide)
    have k10 : (s.toList == [110, 111, 116]) = false := (keyB h14 _).trans (by decide)
    have k11 : (s.toList == [114, 101, 103]) = false := (keyB h14 _).trans (by decide)
    have k12 : (s.toList == [99, 111, 112, 121]) = false := (keyB h14 _).trans (by decide)
    have k13 : (s.toList == [112, 97, 114, 97]) = false := (keyB h14 _).trans (by decide)
    have k14 : (s.toList == [115, 101, 99, 116]) = true := (keyB h14 _).trans (by decide)
    have k15 : (s.toList == [121, 101, 110]) = false := (keyB h14 _).trans (by decide)
    have k16 : (s.toList == [100, 101, 103]) = false := (keyB h14 _).trans (by decide)
    have k17 : (s.toList == [116, 105, 109, 101, 115]) = false := (keyB h14 _).trans (by decide)
    have k18 : (s.toList == [101, 97, 99, 117, 116, 101]) = false := (keyB h14 _).trans (by decide)
    have k19 : (s.toList == [111, 117, 109, 108]) = false := (keyB h14 _).trans (by decide)
    have k20 : (s.toList == [115, 122, 108, 105, 103]) = false := (keyB h14 _).trans (by decide)
    have ht : lookT freeT s.data.toList = some [194, 167] := by rw [h14]; decide +kernel
    have HT := hid ht
    clear ht h14
    clear h0 h1 h2 h3 h4 h5 h6 h7 h8 h9 h10 h11 h12 h13
    go_enter Try.func33, Try.ntmps33
    go_wp2
    go_ret2
    exact ⟨tell_some HT.out, rfl⟩
  by_cases h15 : s.data.toList = [121, 101, 110]
  · have k0 : (s.toList == [97, 109, 112]) = false := (keyB h15 _).trans (by decide)
    have k1 : (s.toList == [65, 77, 80]) = false := (keyB h15 _).trans (by decide)
    have k2 : (s.toList == [108, 116]) = false := (keyB h15 _).trans (by decide)
    have k3 : (s.toList == [76, 84]) = false := (keyB h15 _).trans (by decide)
    have k4 : (s.toList == [103, 116]) = false := (keyB h15 _).trans (by decide)
    have k5 : (s.toList == [71, 84]) = false := (keyB h15 _).trans (by decide)
    have k6 : (s.toList == [113, 117, 111, 116]) = false := (keyB h15 _).trans (by decide)
    have k7 : (s.toList == [81, 85, 79, 84]) = false := (keyB h15 _).trans (by decide)
    have k8 : (s.toList == [110, 98, 115, 112]) = false := (keyB h15 _).trans (by decide)
    have k9 : (s.toList == [115, 104, 121]) = false := (keyB h15 _).trans (by decide)
    have k10 : (s.toList == [110, 111, 116]) = false := (keyB h15 _).trans (by decide)
    have k11 : (s.toList == [114, 101, 103]) = false := (keyB h15 _).trans (by decide)
    have k12 : (s.toList == [99, 111, 112, 121]) = false := (keyB h15 _).trans (by decide)
    have k13 : (s.toList == [112, 97, 114, 97]) = false := (keyB h15 _).trans (by decide)
    have k14 : (s.toList == [115, 101, 99, 116]) = false := (keyB h15 _).trans (by decide)
    have k15 : (s.toList == [121, 101, 110]) = true := (keyB h15 _).trans (by decide)
    have k16 : (s.toList == [100, 101, 103]) = false := (keyB h15 _).trans (by decide)
    have k17 : (s.toList == [116, 105, 109, 101, 115]) = false := (keyB h15 _).trans (by decide)
    have k18 : (s.toList == [101, 97, 99, 117, 116, 101]) = false := (keyB h15 _).trans (by decide)
    have k19 : (s.toList == [111, 117, 109, 108]) = false := (keyB h15 _).trans (by decide)
    have k20 : (s.toList == [115, 122, 108, 105, 103]) = false := (keyB h15 _).trans (by decide)
    have ht : lookT freeT s.data.toList = some [194, 165] := by rw [h15]; decide +kernel
    have HT := hid ht
    clear ht h15
    clear h0 h1 h2 h3 h4 h5 h6 h7 h8 h9 h10 h11 h12 h13 h14
    go_enter Try.func33, Try.ntmps33
    go_wp2
    go_ret2
    exact ⟨tell_some HT.out, rfl⟩
  by_cases h16 : s.data.toList = [100, 101, 103]
  · have k0 : (s.toList == [97, 109, 112]) = false := (keyB h16 _).trans (by decide)
    have k1 : (s.toList == [65, 77, 80]) = false := (keyB h16 _).trans (by decide)
    have k2 : (s.toList == [108, 116]) = false := (keyB h16 _).trans (by decide)
    have k3 : (s.toList == [76, 84]) = false := (keyB h16 _).trans (by decide)
    have k4 : (s.toList == [103, 116]) = false := (keyB h16 _).trans (by decide)
    have k5 : (s.toList == [71, 84]) = false := (keyB h16 _).trans (by decide)
    have k6 : (s.toList == [113, 117, 111, 116]) = false := (keyB h16 _).trans (by decide)
    have k7 : (s.toList == [81, 85, 79, 84]) = false := (keyB h16 _).trans (by decide)
    have k8 : (s.toList == [110, 98, 115, 112]) = false := (keyB h16 _).trans (by decide)
    have k9 : (s.toList == [115, 104, 121]) = false := (keyB h16 _).trans (by decide)
    have k10 : (s.toList == [110, 111, 116]) = false := (keyB h16 _).trans (by decide)
    have k11 : (s.toList == [114, 101, 103]) = false := (keyB h16 _).trans (by decide)
    have k12 : (s.toList == [99, 111, 112, 121]) = false := (keyB h16 _).trans (by decide)
    have k13 : (s.toList == [112, 97, 114, 97]) = false := (keyB h16 _).trans (by decide)
    have k14 : (s.toList == [115, 101, 99, 116]) = false := (keyB h16 _).trans (by decide)
    have k15 : (s.toList == [121, 101, 110]) = false := (keyB h16 _).trans (by decide)
    have k16 : (s.toList == [100, 101, 103]) = true := (keyB h16 _).trans (by decide)
    have k17 : (s.toList == [116, 105, 109, 101, 115]) = false := (keyB h16 _).trans (by decide)
    have k18 : (s.toList == [101, 97, 99, 117, 116, 101]) = false := (keyB h16 _).trans (by decide)
    have k19 : (s.toList == [111, 117, 109, 108]) = false := (keyB h16 _).trans (by decide)
    have k20 : (s.toList == [115, 122, 108, 105, 103]) = false := (keyB h16 _).trans (by decide)
    have ht : lookT freeT s.data.toList = some [194, 176] := by rw [h16]; decide +kernel
    have HT := hid ht
    clear ht h16
    clear h0 h1 h2 h3 h4 h5 h6 h7 h8 h9 h10 h11 h12 h13 h14 h15
    go_enter Try.func33, Try.ntmps33
    go_wp2
    go_ret2
    exact ⟨tell_some HT.out, rfl⟩
  by_cases h17 : s.data.toList = [116, 105, 109, 101, 115]
  · have k0 : (s.toList == [97, 109, 112]) = false := (keyB h17 _).trans (by decide)
    have k1 : (s.toList == [65, 77, 80]) = false := (keyB h17 _).trans (by decide)
    have k2 : (s.toList == [108, 116]) = false := (keyB h17 _).trans (by decide)
    have k3 : (s.toList == [76, 84]) = false := (keyB h17 _).trans (by decide)
    have k4 : (s.toList == [103, 116]) = false := (keyB h17 _).trans (by decide)
    have k5 : (s.toList == [71, 84]) = false := (keyB h17 _).trans (by decide)
    have k6 : (s.toList == [113, 117, 111, 116]) = false := (keyB h17 _).trans (by decide)
    have k7 : (s.toList == [81, 85, 79, 84]) = false := (keyB h17 _).trans (by decide)
    have k8 : (s.toList == [110, 98, 115, 112]) = false := (keyB h17 _).trans (by decide)
    have k9 : (s.toList == [115, 104, 121]) = false := (keyB h17 _).trans (by decide)
    have k10 : (s.toList == [110, 111, 116]) = false := (keyB h17 _).trans (by decide)
    have k11 : (s.toList == [114, 101, 103]) = false := (keyB h17 _).trans (by decide)
    have k12 : (s.toList == [99, 111, 112, 121]) = false := (keyB h17 _).trans (by decide)
    have k13 : (s.toList == [112, 97, 114, 97]) = false := (keyB h17 _).trans (by decide)
    have k14 : (s.toList == [115, 101, 99, 116]) = false := (keyB h17 _).trans (by decide)
    have k15 : (s.toList == [121, 101, 110]) = false := (keyB h17 _).trans (by decide)
    have k16 : (s.toList == [100, 101, 103]) = false := (keyB h17 _).trans (by decide)
    have k17 : (s.toList == [116, 105, 109, 101, 115]) = true := (keyB h17 _).trans (by decide)
    have k18 : (s.toList == [101, 97, 99, 117, 116, 101]) = false := (keyB h17 _).trans (by decide)
    have k19 : (s.toList == [111, 117, 109, 108]) = false := (keyB h17 _).trans (by decide)
    have k20 : (s.toList == [115, 122, 108, 105, 103]) = false := (keyB h17 _).trans (by decide)
    have ht : lookT freeT s.data.toList = some [195, 151] := by rw [h17]; decide +kernel
    have HT := hid ht
    clear ht h17
    clear h0 h1 h2 h3 h4 h5 h6 h7 h8 h9 h10 h11 h12 h13 h14 h15 h16
    go_enter Try.func33, Try.ntmps33
    go_wp2
    go_ret2
    exact ⟨tell_some HT.out, rfl⟩
  by_cases h18 : s.data.toList = [101, 97, 99, 117, 116, 101]
  · have k0 : (s.toList == [97, 109, 112]) = false := (keyB h18 _).trans (by decide)
    have k1 : (s.toList == [65, 77, 80]) = false := (keyB h18 _).trans (by decide)
    have k2 : (s.toList == [108, 116]) = false := (keyB h18 _).trans (by decide)
    have k3 : (s.toList == [76, 84]) = false := (keyB h18 _).trans (by decide)
    have k4 : (s.toList == [103, 116]) = false := (keyB h18 _).trans (by decide)
    have k5 : (s.toList == [71, 84]) = false := (keyB h18 _).trans (by decide)
    have k6 : (s.toList == [113, 117, 111, 116]) = false := (keyB h18 _).trans (by decide)
    have k7 : (s.toList == [81, 85, 79, 84]) = false := (keyB h18 _).trans (by decide)
    have k8 : (s.toList == [110, 98, 115, 112]) = false := (keyB h18 _).trans (by decide)
    have k9 : (s.toList == [115, 104, 121]) = false := (keyB h18 _).trans (by decide)
    have k10 : (s.toList == [110, 111, 116]) = false := (keyB h18 _).trans (by decide)
    have k11 : (s.toList == [114, 101, 103]) = false := (keyB h18 _).trans (by decide)
    have k12 : (s.toList == [99, 111, 112, 121]) = false := (keyB h18 _).trans (by decide)
    have k13 : (s.toList == [112, 97, 114, 97]) = false := (keyB h18 _).trans (by decide)
    have k14 : (s.toList == [115, 101, 99, 116]) = false := (keyB h18 _).trans (by decide)
    have k15 : (s.toList == [121, 101, 110]) = false := (keyB h18 _).trans (by decide)
    have k16 : (s.toList == [100, 101, 103]) = false := (keyB h18 _).trans (by decide)
    have k17 : (s.toList == [116, 105, 109, 101, 115]) = false := (keyB h18 _).trans (by decide)
    have k18 : (s.toList == [101, 97, 99, 117, 116, 101]) = true := (keyB h18 _).trans (by decide)
    have k19 : (s.toList == [111, 117, 109, 108]) = false := (keyB h18 _).trans (by decide)
    have k20 : (s.toList == [115, 122, 108, 105, 103]) = false := (keyB h18 _).trans (by decide)
    have ht : lookT freeT s.data.toList = some [195, 169] := by rw [h18]; decide +kernel
    have HT := hid ht
    clear ht h18
    clear h0 h1 h2 h3 h4 h5 h6 h7 h8 h9 h10 h11 h12 h13 h14 h15 h16 h17
    go_enter Try.func33, Try.ntmps33
    go_wp2
    go_ret2
    exact ⟨tell_some HT.out, rfl⟩
  by_cases h19 : s.data.toList = [111, 117, 109, 108]
  · have k0 : (s.toList == [97, 109, 112]) = false := (keyB h19 _).trans (by decide)
    have k1 : (s.toList == [65, 77, 80]) = false := (keyB h19 _).trans (by decide)
    have k2 : (s.toList == [108, 116]) = false := (keyB h19 _).trans (by decide)
    have k3 : (s.toList == [76, 84]) = false := (keyB h19 _).trans (by decide)
    have k4 : (s.toList == [103, 116]) = false := (keyB h19 _).trans (by decide)
    have k5 : (s.toList == [71, 84]) = false := (keyB h19 _).trans (by decide)
    have k6 : (s.toList == [113, 117, 111, 116]) = false := (keyB h19 _).trans (by decide)
    have k7 : (s.toList == [81, 85, 79, 84]) = false := (keyB h19 _).trans (by decide)
    have k8 : (s.toList == [110, 98, 115, 112]) = false := (keyB h19 _).trans (by decide)
    have k9 : (s.toList == [115, 104, 121]) = false := (keyB h19 _).trans (by decide)
    have k10 : (s.toList == [110, 111, 116]) = false := (keyB h19 _).trans (by decide)
    have k11 : (s.toList == [114, 101, 103]) = false := (keyB h19 _).trans (by decide)
    have k12 : (s.toList == [99, 111, 112, 121]) = false := (keyB h19 _).trans (by decide)
    have k13 : (s.toList == [112, 97, 114, 97]) = false := (keyB h19 _).trans (by decide)
    have k14 : (s.toList == [115, 101, 99, 116]) = false := (keyB h19 _).trans (by decide)
    have k15 : (s.toList == [121, 101, 110]) = false := (keyB h19 _).trans (by decide)
    have k16 : (s.toList == [100, 101, 103]) = false := (keyB h19 _).trans (by decide)
    have k17 : (s.toList == [116, 105, 109, 101, 115]) = false := (keyB h19 _).trans (by decide)
    have k18 : (s.toList == [101, 97, 99, 117, 116, 101]) = false := (keyB h19 _).trans (by decide)
    have k19 : (s.toList == [111, 117, 109, 108]) = true := (keyB h19 _).trans (by decide)
    have k20 : (s.toList == [115, 122, 108, 105, 103]) = false := (keyB h19 _).trans (by decide)
    have ht : lookT freeT s.data.toList = some [195, 182] := by rw [h19]; decide +kernel
    have HT := hid ht
    clear ht h19
    clear h0 h1 h2 h3 h4 h5 h6 h7 h8 h9 h10 h11 h12 h13 h14 h15 h16 h17 h18
    go_enter Try.func33, Try.ntmps33
    go_wp2
    go_ret2
    exact ⟨tell_some HT.out, rfl⟩
  by_cases h20 : s.data.toList = [115, 122, 108, 105, 103]
  · have k0 : (s.toList == [97, 109, 112]) = false := (keyB h20 _).trans (by decide)
    have k1 : (s.toList == [65, 77, 80]) = false := (keyB h20 _).trans (by decide)
    have k2 : (s.toList == [108, 116]) = false := (keyB h20 _).trans (by decide)
    have k3 : (s.toList == [76, 84]) = false := (keyB h20 _).trans (by decide)
    have k4 : (s.toList == [103, 116]) = false := (keyB h20 _).trans (by decide)
    have k5 : (s.toList == [71, 84]) = false := (keyB h20 _).trans (by decide)
    have k6 : (s.toList == [113, 117, 111, 116]) = false := (keyB h20 _).trans (by decide)
    have k7 : (s.toList == [81, 85, 79, 84]) = false := (keyB h20 _).trans (by decide)
    have k8 : (s.toList == [110, 98, 115, 112]) = false := (keyB h20 _).trans (by decide)
    have k9 : (s.toList == [115, 104, 121]) = false := (keyB h20 _).trans (by decide)
    have k10 : (s.toList == [110, 111, 116]) = false := (keyB h20 _).trans (by decide)
    have k11 : (s.toList == [114, 101, 103]) = false := (keyB h20 _).trans (by decide)
    have k12 : (s.toList == [99, 111, 112, 121]) = false := (keyB h20 _).trans (by decide)
    have k13 : (s.toList == [112, 97, 114, 97]) = false := (keyB h20 _).trans (by decide)
    have k14 : (s.toList == [115, 101, 99, 116]) = false := (keyB h20 _).trans (by decide)
    have k15 : (s.toList == [121, 101, 110]) = false := (keyB h20 _).trans (by decide)
    have k16 : (s.toList == [100, 101, 103]) = false := (keyB h20 _).trans (by decide)
    have k17 : (s.toList == [116, 105, 109, 101, 115]) = false := (keyB h20 _).trans (by decide)
    have k18 : (s.toList == [101, 97, 99, 117, 116, 101]) = false := (keyB h20 _).trans (by decide)
    have k19 : (s.toList == [111, 117, 109, 108]) = false := (keyB h20 _).trans (by decide)
    have k20 : (s.toList == [115, 122, 108, 105, 103]) = true := (keyB h20 _).trans (by decide)
    have ht : lookT freeT s.data.toList = some [195, 159] := by rw [h20]; decide +kernel
    have HT := hid ht
    clear ht h20
    clear h0 h1 h2 h3 h4 h5 h6 h7 h8 h9 h10 h11 h12 h13 h14 h15 h16 h17 h18 h19
    go_enter Try.func33, Try.ntmps33
    go_wp2
    go_ret2
    exact ⟨tell_some HT.out, rfl⟩
  have k0 : (s.toList == [97, 109, 112]) = false := keyN h0
  have k1 : (s.toList == [65, 77, 80]) = false := keyN h1
  have k2 : (s.toList == [108, 116]) = false := keyN h2
  have k3 : (s.toList == [76, 84]) = false := keyN h3
  have k4 : (s.toList == [103, 116]) = false := keyN h4
  have k5 : (s.toList == [71, 84]) = false := keyN h5
  have k6 : (s.toList == [113, 117, 111, 116]) = false := keyN h6
  have k7 : (s.toList == [81, 85, 79, 84]) = false := keyN h7
  have k8 : (s.toList == [110, 98, 115, 112]) = false := keyN h8
  have k9 : (s.toList == [115, 104, 121]) = false := keyN h9
  have k10 : (s.toList == [110, 111, 116]) = false := keyN h10
  have k11 : (s.toList == [114, 101, 103]) = false := keyN h11
  have k12 : (s.toList == [99, 111, 112, 121]) = false := keyN h12
  have k13 : (s.toList == [112, 97, 114, 97]) = false := keyN h13
  have k14 : (s.toList == [115, 101, 99, 116]) = false := keyN h14
  have k15 : (s.toList == [121, 101, 110]) = false := keyN h15
  have k16 : (s.toList == [100, 101, 103]) = false := keyN h16
  have k17 : (s.toList == [116, 105, 109, 101, 115]) = false := keyN h17
  have k18 : (s.toList == [101, 97, 99, 117, 116, 101]) = false := keyN h18
  have k19 : (s.toList == [111, 117, 109, 108]) = false := keyN h19
  have k20 : (s.toList == [115, 122, 108, 105, 103]) = false := keyN h20
  have ht : lookT freeT s.data.toList = none := by
    unfold lookT freeT
    simp [Ne.symm h0, Ne.symm h1, Ne.symm h2, Ne.symm h3, Ne.symm h4, Ne.symm h5, Ne.symm h6, Ne.symm h7, Ne.symm h8, Ne.symm h9, Ne.symm h10, Ne.symm h11, Ne.symm h12, Ne.symm h13, Ne.symm h14, Ne.symm h15, Ne.symm h16, Ne.symm h17, Ne.symm h18, Ne.symm h19, Ne.symm h20]
  have HT := hid ht
  clear ht h0 h1 h2 h3 h4 h5 h6 h7 h8 h9 h10 h11 h12 h13 h14 h15 h16 h17 h18 h19 h20
  go_enter Try.func33, Try.ntmps33
  go_wp2
  go_ret2
  exact ⟨tell_none HT.out, rfl⟩
end Go.Proofs.Ytmcjljjagfpkkaa
