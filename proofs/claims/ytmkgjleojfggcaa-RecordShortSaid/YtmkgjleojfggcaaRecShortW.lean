/-
  The walk of RecordShort. Conditions: no text is longer than a text may be, nor the path.
-/
import Derived.Test.YtmkgjleojfggcaaRecSmall2
import Derived.Test.YtmkgjleojfggcaaRecFew
set_option linter.all false
namespace Go.Proofs.Ytmkgjleojfggcaa
open Go.RowKit
theorem build_path (A : Option Addr) (n c : Nat) (w : World) : (Instr.build 33 #[(8, .slice A n c)]).run Try.prog w =
    .ok (.agg #[.string ⟨#[]⟩, .string ⟨#[]⟩, .string ⟨#[]⟩, .int .i64 0, .string ⟨#[]⟩, .int .u32 0, .int .u16 0, .int .u16 0, .int .u16 0, .int .u16 0, .int .u16 0, .int .u16 0, .int .u16 0, .int .u16 0, .bool false, .int .i64 0, .bool false, .string ⟨#[]⟩, .slice A n c, .bool false, .string ⟨#[]⟩, .bool false, .string ⟨#[]⟩]) w :=
  run_build w 33 _ _ (by kernel_rfl)
theorem fits_path (v : Value) (l : List ByteArray) (hl : l.length ≤ maxLen) (hp : ∀ x ∈ l, x.size ≤ maxLen) : (urlU ⟨#[]⟩ v l).Fits :=
  ⟨Nat.zero_le _, Nat.zero_le _, Nat.zero_le _, Nat.zero_le _, Nat.zero_le _, Nat.zero_le _, Nat.zero_le _, hl, hp⟩
theorem lt_of_cellT {w : World} {g off : Nat} {v : Value} (h : w.cell? ⟨g, off, none⟩ = some v) : g < w.heap.size := by
  rcases Nat.lt_or_ge g w.heap.size with hlt | hge
  · exact hlt
  · simp [World.cell?, Array.getElem?_eq_none hge] at h
theorem ReadT.takeN {w : World} {A : Option Addr} {n c p : Nat} {l : List ByteArray} (h : ReadT w (.slice A n c) l) (hp : p ≤ l.length) : ReadT w (.slice A p c) (l.take p) := by
  rcases h with ⟨h, rfl⟩ | ⟨g, off, c', hv, hc, hcell⟩
  · obtain rfl : p = 0 := by simpa using hp
    injection h with h1 h2 h3
    subst h1 h3
    exact .inl ⟨rfl, rfl⟩
  · injection hv with h1 h2 h3
    subst h1 h2 h3
    exact ReadT.take (.inr ⟨g, off, c, rfl, hc, hcell⟩) hp
set_option maxHeartbeats 8000000 in
set_option maxRecDepth 100000 in
theorem recShort_calls (s : ByteArray) (v : Value) (l : List ByteArray) (w : World) (hs : s.size ≤ maxLen) (hv : ReadT w v l) (hl : l.length ≤ maxLen) (hp : ∀ x ∈ l, x.size ≤ maxLen) :
    Calls Try.prog 5 #[.string s, v] w fun e w' => e = .returned (.bool true) ∧ Below w.heap.size w w' := by
  obtain ⟨A, c, rfl, hc⟩ := hv.len
  have hbd := build_path
  have HF := hid (fits_path (.slice A l.length c) l hl hp)
  clear hp
  unfold maxLen at hs hl
  go_enter Try.func5, Try.ntmps5
  go_wp2_with fail
  refine (recSmall_calls _).mono ?_
  rintro e w1 ⟨rfl, hb⟩
  go_wp2_with fail
  refine (few_calls (urlU ⟨#[]⟩ (.slice A l.length c) l) _ (hv.below hb) HF.out).mono ?_
  rintro e w2 ⟨b, rfl, hfew, hb2⟩
  have hb := hb.trans (hb2.mono hb.size)
  clear hb2 hbd
  cases b
  · clear hfew
    go_wp2_with fail
    go_ret
    exact ⟨rfl, hb⟩
  · by_cases hsz : s.size ≤ 100
    · have h50 : l.length ≤ 50 := (hfew rfl).1
      clear hfew
      have hr := hv.below hb
      clear hv
      go_wp2_with fail
      go_loopw [7, 8] (fun p i wr => ∃ (k : Nat) (cur : List ByteArray), cur.length + k ≤ 50 ∧ i = .int .i64 k ∧ ReadT wr p cur ∧ Below w.heap.size w wr) (fun _ i _ => 60 - (intOf i).toNat)
      case atStart => exact ⟨0, l, by omega, rfl, hr, hb⟩
      case round =>
        obtain ⟨k, cur, hk, rfl, hrc, hbw⟩ := hrel
        obtain ⟨Ac, cc, rfl, hcc⟩ := hrc.len
        have HR := hid hrc
        have HB := hid hbw
        clear hrc hbw
        have hk60 : k < 60 := by omega
        match cur, HR with
        | [], HR =>
          simp only [List.length_nil] at hk hcc ⊢
          go_wp2_with fail
          refine (shorten_calls s _ [] _ HR.out (by simp)).mono ?_
          rintro e wq ⟨q, rfl, ho, hbq⟩
          rw [shortT_nil] at ho
          obtain ⟨Aq, cq, rfl, _⟩ := ho.read.len
          simp only [List.length_nil]
          go_wp2_with fail
          refine (refSame_calls _ _ [] [] _ ho.read (HR.out.below hbq) (by simp) (by simp)).mono ?_
          rintro e w9 ⟨rfl, hb9⟩
          have hd : decide (([] : List ByteArray) = []) = true := by simp
          rw [hd]
          clear hd
          have hbz := HB.out.trans ((hbq.trans (hb9.mono hbq.size)).mono HB.out.size)
          clear hbq hb9
          go_wp2_with fail
          go_ret
          exact ⟨rfl, hbz⟩
        | [x], HR =>
          simp only [List.length_cons, List.length_nil, Nat.zero_add] at hk hcc ⊢
          obtain ⟨g, off, rfl, hcell⟩ := HR.out.cellAt (k := 0) (by simp)
          simp only [Nat.add_zero, List.getElem_cons_zero] at hcell
          cases hf : (s.toList == [102, 105, 108, 101]) with
          | false =>
            have hsh : shortT s [x] = [] := by unfold shortT aloneT; rw [hf]; rfl
            go_wp2_with fail
            refine (shorten_calls s _ [x] _ HR.out (by simp)).mono ?_
            rintro e wq ⟨q, rfl, ho, hbq⟩
            rw [hsh] at ho
            clear hsh
            obtain ⟨Aq, cq, rfl, _⟩ := ho.read.len
            simp only [List.length_nil]
            go_wp2_with fail
            refine (refSame_calls _ _ [] [] _ ho.read (by have := (HR.out.takeN (p := 0) (by simp)).below hbq; simpa using this) (by simp) (by simp)).mono ?_
            rintro e w9 ⟨rfl, hb9⟩
            rw [show decide (([] : List ByteArray) = []) = true by simp]
            have hbz := HB.out.trans ((hbq.trans (hb9.mono hbq.size)).mono HB.out.size)
            have ho9 := ho.read.below hb9
            clear hbq hb9 ho
            go_wp2_with fail
            go_roundw
            case rel => exact ⟨k + 1, [], by simp; omega, by go_num, ho9, hbz⟩
            case measure => simp [intOf]; omega
          | true =>
            cases hn : normalL x.data.toList with
            | false =>
              have hsh : shortT s [x] = [] := by show (if (s.toList == [102, 105, 108, 101] && normalL x.data.toList) = true then [x] else [x].take 0) = []; rw [hf, hn]; rfl
              have HN := hid hn
              clear hn
              go_wp2_with fail
              refine (shorten_calls s _ [x] _ HR.out (by simp)).mono ?_
              rintro e wq ⟨q, rfl, ho, hbq⟩
              rw [hsh] at ho
              clear hsh
              obtain ⟨Aq, cq, rfl, _⟩ := ho.read.len
              simp only [List.length_nil]
              have hcell := (hbq.cell (p := ⟨g, off, none⟩) (lt_of_cellT hcell)).trans hcell
              go_wp2_with fail
              refine (normal_calls _ _).mono ?_
              rintro e w5 ⟨rfl, rfl⟩
              rw [HN.out]
              go_wp2_with fail
              refine (refSame_calls _ _ [] [] _ ho.read (by have := (HR.out.takeN (p := 0) (by simp)).below hbq; simpa using this) (by simp) (by simp)).mono ?_
              rintro e w9 ⟨rfl, hb9⟩
              rw [show decide (([] : List ByteArray) = []) = true by simp]
              have hbz := HB.out.trans ((hbq.trans (hb9.mono hbq.size)).mono HB.out.size)
              have ho9 := ho.read.below hb9
              clear hbq hb9 ho
              go_wp2_with fail
              go_roundw
              case rel => exact ⟨k + 1, [], by simp; omega, by go_num, ho9, hbz⟩
              case measure => simp [intOf]; omega
            | true =>
              have hsh : shortT s [x] = [x] := by show (if (s.toList == [102, 105, 108, 101] && normalL x.data.toList) = true then [x] else [x].take 0) = [x]; rw [hf, hn]; rfl
              have HN := hid hn
              clear hn
              go_wp2_with fail
              refine (shorten_calls s _ [x] _ HR.out (by simp)).mono ?_
              rintro e wq ⟨q, rfl, ho, hbq⟩
              rw [hsh] at ho
              clear hsh
              obtain ⟨Aq, cq, rfl, _⟩ := ho.read.len
              simp only [List.length_cons, List.length_nil, Nat.zero_add]
              have hcell := (hbq.cell (p := ⟨g, off, none⟩) (lt_of_cellT hcell)).trans hcell
              go_wp2_with fail
              refine (normal_calls _ _).mono ?_
              rintro e w5 ⟨rfl, rfl⟩
              rw [HN.out]
              go_wp2_with fail
              refine (refSame_calls _ _ [x] [x] _ ho.read (HR.out.below hbq) (by simp) (by simp)).mono ?_
              rintro e w9 ⟨rfl, hb9⟩
              have hd : decide ([x] = [x]) = true := by simp
              rw [hd]
              clear hd
              have hbz := HB.out.trans ((hbq.trans (hb9.mono hbq.size)).mono HB.out.size)
              clear hbq hb9
              go_wp2_with fail
              go_ret
              exact ⟨rfl, hbz⟩
        | x :: y :: r, HR =>
          have h2 : 2 ≤ (x :: y :: r).length := by simp
          generalize hcur : x :: y :: r = cur at *
          clear hcur
          have hsh := shortT_many (s := s) h2
          have hn0 : ((cur.length : Int) == 0) = false := beq_eq_false_iff_ne.2 (by omega)
          have hn1 : ((cur.length : Int) == 1) = false := beq_eq_false_iff_ne.2 (by omega)
          have e1 : IntKind.i64.wrap ((cur.length : Int) - 1) = ((cur.length - 1 : Nat) : Int) := by rw [IntWalk.i64_in _ (by omega)]; omega
          have hlq : (cur.take (cur.length - 1)).length = cur.length - 1 := by simp
          have HL := hid hlq
          clear hlq
          go_wp2_with fail
          refine (shorten_calls s _ cur _ HR.out (by omega)).mono ?_
          rintro e wq ⟨q, rfl, ho, hbq⟩
          rw [hsh] at ho
          clear hsh
          obtain ⟨Aq, cq, rfl, _⟩ := ho.read.len
          rw [HL.out]
          have hor := ho.read
          rw [HL.out] at hor
          have HO := hid hor
          have HT := hid ((HR.out.takeN (p := cur.length - 1) (by omega)).below hbq)
          clear ho hor
          have hkc : cur.length - 1 ≤ cc := by omega
          have hkb : cur.length - 1 + 1 ≤ cur.length := by omega
          generalize hkk : cur.length - 1 = kk at *
          clear hkk
          go_wp2_with fail
          all_goals
            refine (refSame_calls _ _ (cur.take kk) (cur.take kk) _ HO.out HT.out (by rw [HL.out]; omega) (by rw [HL.out]; omega)).mono ?_
            rintro e w9 ⟨rfl, hb9⟩
            rw [show decide (cur.take kk = cur.take kk) = true by simp]
            have hbz := HB.out.trans ((hbq.trans (hb9.mono hbq.size)).mono HB.out.size)
            have ho9 := HO.out.below hb9
            clear hbq hb9
            go_wp2_with fail
            go_roundw
            case rel => exact ⟨k + 1, cur.take kk, by rw [HL.out]; omega, by go_num, ho9, hbz⟩
            case measure => simp [intOf]; omega
    · clear hfew
      go_wp2_with fail
      go_ret
      exact ⟨rfl, hb⟩
end Go.Proofs.Ytmkgjleojfggcaa
