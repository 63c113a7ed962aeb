/-
  The contract of the document's Parse. Conditions: the path ahead has at most 1000 pieces, the text at most 5000 bytes.
-/
import Derived.Test.YtmkgjleojfggcaaSegParse
import Derived.Test.YtmkgjleojfggcaaSegRefSplit
import Derived.Test.YtmkgjleojfggcaaRefPctEnc
import Derived.Maps.AppendAt
set_option linter.all false
namespace Go.Proofs.Ytmkgjleojfggcaa
open Go.RowKit
def AwayB (lo hi : Nat) (v : Value) : Prop := ∀ g, v.ownBlock = some g → g < lo ∨ hi ≤ g
def KeptB (lo hi : Nat) (w w' : World) : Prop := ∀ k, lo ≤ k → k < hi → w'.heap[k]? = w.heap[k]?
theorem KeptB.refl (lo hi : Nat) (w : World) : KeptB lo hi w w := fun _ _ _ => rfl
theorem KeptB.trans {lo hi : Nat} {w w' w'' : World} (h : KeptB lo hi w w') (h2 : KeptB lo hi w' w'') : KeptB lo hi w w'' := fun k a b => (h2 k a b).trans (h k a b)
theorem KeptB.of_below {lo hi : Nat} {w w' : World} (hb : Below w.heap.size w w') (h : hi ≤ w.heap.size) : KeptB lo hi w w' := fun k _ b => hb.block k (by omega)
theorem OwnT.away {w : World} {base lo hi : Nat} {v : Value} {l : List ByteArray} (h : OwnT w base v l) (hb : hi ≤ base) : AwayB lo hi v := fun g hg => .inr (Nat.le_trans hb (World.ownsRow.lt h g hg).1)
theorem OwnT.keptB {w w' : World} {lo : Nat} {v : Value} {l : List ByteArray} (h : OwnT w lo v l) (hk : KeptB lo w.heap.size w w') : OwnT w' lo v l := by
  obtain ⟨h1, h2⟩ := h
  refine ⟨h1, ?_⟩
  rcases h2 with h2 | ⟨g, cap, cur, hv, hg, hh, r⟩
  · exact .inl h2
  · exact .inr ⟨g, cap, cur, hv, hg, by rw [hk g hg (Array.getElem?_eq_some_iff.1 hh).1]; exact hh, r⟩
theorem run_append_textsA {w : World} {base : Nat} {v x : Value} {l m : List ByteArray} (ty : TypeId) (hown : OwnT w base v l) (hx : ReadT w x m) (hlen : l.length + m.length ≤ 1000000) (hbase : base ≤ w.heap.size) :
    ∃ v' w', (Builtin.append_ #[31, 31] ty #[v, x]).run Try.prog w = .ok v' w' ∧ OwnT w' base v' (l ++ m) ∧ Below base w w' ∧ ∀ lo hi, AwayB lo hi v → hi ≤ w.heap.size → AwayB lo hi v' ∧ KeptB lo hi w w' := by
  obtain ⟨i0, hi, hz0, hz1, hz2⟩ := info_parts info_str
  rcases hx with ⟨rfl, rfl⟩ | ⟨g, off, c, rfl, hc, hcell⟩
  · refine ⟨v, w, ?_, by simpa using hown, Below.refl _ _, fun lo hi h _ => ⟨h, KeptB.refl _ _ _⟩⟩
    exact run_append_owned_none (P := Try.prog) (w := w) base 31 ty 9 i0 1 Try.underlying31 hi v l.length (l.map Value.string) hown
  · obtain ⟨v', w', hr, h2, h3, _, h5⟩ := run_append_own_at (P := Try.prog) w base 31 ty 9 i0 (.string ByteArray.empty) 1 16 Try.underlying31 hi hz0 hz1 hz2 rfl (by decide) v l.length (l.map Value.string) hown
      ⟨g, off, none⟩ m.length c (m.map Value.string) (by simp) (fun j u hu => by
        rw [List.getElem?_map] at hu
        by_cases hj : j < m.length
        · rw [List.getElem?_eq_getElem hj] at hu
          simp at hu
          subst hu
          rw [Addr.add_lit]
          exact hcell j hj
        · rw [List.getElem?_eq_none (by omega)] at hu
          simp at hu) (fun u hu => by
        rw [List.mem_map] at hu
        obtain ⟨s, _, rfl⟩ := hu
        rfl) (by unfold maxLen; omega) (by omega) hbase
    refine ⟨v', w', hr, ?_, (Below.refl _ _).grown h3 hbase fun k hk => (World.ownsRow.lt hown k hk).1, fun lo hi ha hhi => ⟨fun k hk => ?_, fun k a b => h3.block k (by omega) fun e => ?_⟩⟩
    · unfold OwnT
      simpa using h2
    · rcases h5 with h5 | h5
      · exact ha k (by rw [← h5]; exact hk)
      · rw [h5] at hk
        injection hk with hk
        omega
    · have := ha k e.symm
      omega
theorem wpList_append_textsA {ops : Array Oper} {rest : List Oper} {o : Oper} {a : Act} {Q : Exit → Act → World → Prop} {w : World} {base : Nat} {v x : Value} {l m : List ByteArray} (hgd : o.guard = none) (s y : Operand)
    (ho : o.op = .call { callee := .builtin .append, args := #[s, y], argTypes := #[31, 31] }) (hs : a.eval s = v) (hown : OwnT w base v l) (hy : a.eval y = x) (hx : ReadT w x m)
    (hlen : l.length + m.length ≤ 1000000) (hbase : base ≤ w.heap.size)
    (h : ∀ v' w', OwnT w' base v' (l ++ m) → Below base w w' → (∀ lo hi, AwayB lo hi v → hi ≤ w.heap.size → AwayB lo hi v' ∧ KeptB lo hi w w') → wpList Try.prog ops Q rest (a.put o.dst v') w') : wpList Try.prog ops Q (o :: rest) a w := by
  refine wpList_plain hgd fun K hK => ?_
  obtain ⟨v', w', hr, h2, h3, h4⟩ := run_append_textsA o.type hown hx hlen hbase
  unfold Oper.wp execOp
  simp only [ho, resolve, invoke, builtin, Sem.run_bind, Sem.run_pure, Result.andThen_ok, List.map_toArray, List.map_cons, List.map_nil, hs, hy, hr]
  exact hK _ _ (h v' w' h2 h3 h4)
/-- out, while it grows beside what stands in the blocks from lo to hi -/
structure OutA (w w2 : World) (lo : Nat) (v : Value) (L : List (List UInt8)) (wr : World) : Prop where
  own : OwnT wr w.heap.size v (L.map strB)
  away : AwayB lo w2.heap.size v
  kept : KeptB lo w2.heap.size w2 wr
  size : w2.heap.size ≤ wr.heap.size
  below : Below w.heap.size w wr
theorem OutA.on {w w2 wr wx : World} {lo : Nat} {v : Value} {L : List (List UInt8)} (h : OutA w w2 lo v L wr) (hb : Below wr.heap.size wr wx) : OutA w w2 lo v L wx :=
  ⟨h.own.below hb, h.away, h.kept.trans (KeptB.of_below hb h.size), Nat.le_trans h.size hb.size, h.below.trans (hb.mono h.below.size)⟩
theorem OutA.app {w w2 wr wx : World} {lo : Nat} {v v' : Value} {L M : List (List UInt8)} {y : ByteArray} (h : OutA w w2 lo v L wr) (h1 : OwnT wx w.heap.size v' (L.map strB ++ [y])) (hb : Below w.heap.size (wr.alloc (.cells #[.string y] 9)) wx)
    (ha : ∀ lo hi, AwayB lo hi v → hi ≤ (wr.alloc (.cells #[.string y] 9)).heap.size → AwayB lo hi v' ∧ KeptB lo hi (wr.alloc (.cells #[.string y] 9)) wx) (hM : M.map strB = L.map strB ++ [y]) : OutA w w2 lo v' M wx := by
  have hs : w2.heap.size ≤ (wr.alloc (.cells #[.string y] 9)).heap.size := Nat.le_trans h.size (by simp)
  obtain ⟨a1, a2⟩ := ha _ _ h.away hs
  refine ⟨by rw [hM]; exact h1, a1, (h.kept.trans (KeptB.of_below (alloc_below wr _) h.size)).trans a2, Nat.le_trans hs hb.size, h.below.trans (((Below.refl _ _).alloc h.below.size _).trans hb)⟩
theorem OutA.new {w w2 wr wx : World} {lo : Nat} {v v' : Value} {L M : List (List UInt8)} (h : OutA w w2 lo v L wr) (h1 : OwnT wx wr.heap.size v' (M.map strB)) (hb : Below wr.heap.size wr wx) : OutA w w2 lo v' M wx :=
  ⟨h1.mono (h.below.size), h1.away h.size, h.kept.trans (KeptB.of_below hb h.size), Nat.le_trans h.size hb.size, h.below.trans (hb.mono h.below.size)⟩
theorem refEncode_strB (p : List UInt8) (hp : p.length ≤ 5000) (w : World) :
    Calls Try.prog 46 #[.string (strB p), .int .i64 4] w fun e w' => e = .returned (.string (strB (encL 4 p))) ∧ Below w.heap.size w w' := by
  have := refEncode_calls (strB p) 4 w (by rw [strB_size]; exact hp)
  rw [strB_list] at this
  exact this
theorem refDots_strB (p : List UInt8) (b : Bool) (hb : dotsL p = b) (hs : p.length ≤ 5000) (w : World) :
    Calls Try.prog 34 #[.string (strB p)] w fun e w' => e = .returned (.bool b) ∧ w = w' := by
  have := refDots_calls (strB p) w (by rw [strB_size]; omega)
  rw [strB_list, hb] at this
  exact this
theorem refDot_strB (p : List UInt8) (b : Bool) (hb : dotL p = b) (w : World) :
    Calls Try.prog 32 #[.string (strB p)] w fun e w' => e = .returned (.bool b) ∧ w = w' := by
  have := refDot_calls (strB p) w
  rw [strB_list, ← dotL_eq, hb] at this
  exact this
theorem refDrive_strB (p : List UInt8) (b : Bool) (hb : driveL p = b) (w : World) :
    Calls Try.prog 26 #[.string (strB p)] w fun e w' => e = .returned (.bool b) ∧ w = w' := by
  have := refDrive_calls (strB p) w
  rw [strB_list, hb] at this
  exact this
set_option maxHeartbeats 4000000 in
set_option maxRecDepth 100000 in
theorem refParse_calls (s : ByteArray) (v : Value) (l : List (List UInt8)) (t : ByteArray) (w : World) (hv : ReadT w v (l.map strB)) (hl : l.length ≤ 1000) (ht : t.size ≤ 5000) :
    Calls Try.prog 54 #[.string s, v, .string t] w fun e w' => ∃ v', e = .returned v' ∧ OwnT w' w.heap.size v' ((parseS segWays (fileB s) l (segs (special s) t.data.toList)).map strB) ∧ Below w.heap.size w w' := by
  have hP0 := segs_ne (special s) t.data.toList
  have hPl := segs_len (special s) t.data.toList
  have hPp := segs_piece (special s) t.data.toList
  have hSC := refSplit_calls t (special s)
  generalize segs (special s) t.data.toList = P at *
  have htl : t.data.toList.length = t.size := by simp
  rw [htl] at hPl hPp
  have HP0 := hid hP0
  have HPp := hid hPp
  have HV := hid hv
  have HSC := hid hSC
  clear hP0 hPp htl hv hSC
  go_enter Try.func54, Try.ntmps54
  go_wp2_with (at_builtin; refine wpList_append_texts rfl _ _ rfl rfl (OwnT.empty w) rfl (HV.out.below (alloc_below w _)) (by simp; omega) (by simp) ?_; intro v1 w1 ho1 hb1; have HO1 := hid (ho1.mono (Nat.le_refl w.heap.size)); have HB1 := hid ((alloc_below w _).trans hb1); clear ho1 hb1)
  refine (refSpecial_calls _ _).mono ?_
  rintro e w' ⟨rfl, rfl⟩
  go_wp2_with fail
  refine (HSC.out w1 (by omega)).mono ?_
  rintro e w2 ⟨v2, rfl, ho2, hb2⟩
  obtain ⟨A1, c1, hv1, hc1⟩ := ho2.read.len
  rw [List.length_map] at hv1 hc1
  subst hv1
  have HO2 := hid ho2
  have HOut : Hid (OutA w w2 w1.heap.size v1 l w2) := hid ⟨(HO1.out.below hb2), fun g hg => .inl (World.ownsRow.lt HO1.out g hg).2, KeptB.refl _ _ _, Nat.le_refl _, HB1.out.trans (hb2.mono HB1.out.size)⟩
  clear ho2 hb2
  go_wp2_with fail
  go_loopw [7, 9] (fun out i wr => ∃ k : Nat, k ≤ P.length ∧ i = .int .i64 k ∧ OutA w w2 w1.heap.size out (outAt (fileB s) l P k) wr) (fun _ i _ => P.length - (intOf i).toNat)
  case atStart => exact ⟨0, Nat.zero_le _, rfl, by rw [outAt_start _ _ _ HP0.out]; exact HOut.out⟩
  case round =>
    obtain ⟨k, hk, rfl, hout⟩ := hrel
    obtain ⟨A2, c2, hv2, hc2⟩ := hout.own.read.len
    have HO := hid hout
    clear hout
    by_cases hlt : k < P.length
    · obtain ⟨g, off, hA, hcell⟩ := (HO2.out.keptB HO.out.kept).read.cellAt (k := k) (by rw [List.length_map]; exact hlt)
      rw [List.getElem_map] at hcell
      have hlen := outAt_len (fileB s) l P k hlt
      rw [List.length_map] at hv2 hc2
      subst hv2
      subst hA
      have HPz : Hid ((P[k]).length ≤ 5000) := hid (by have := HPp.out P[k] (List.getElem_mem hlt); omega)
      have HSx : Hid ((outAt (fileB s) l P k).length ≤ 6100) := hid (by omega)
      clear hlen
      cases h1 : dotsL P[k]
      · cases h2 : dotL P[k]
        · have H1 := hid h1
          have H2 := hid h2
          clear h1 h2
          cases hf : (s.toList == [102, 105, 108, 101])
          · have HN := hid (outAt_enc (file := fileB s) (out := l) hlt H1.out H2.out (by show ((s.toList == [102, 105, 108, 101]) && _) = false; rw [hf]; rfl))
            go_wp2_with fail
            refine (refDots_strB _ _ H1.out HPz.out _).mono ?_
            rintro e w3 ⟨rfl, rfl⟩
            have HO3 := hid HO.out
            have HB3 := hid HO.out
            go_wp2_with fail
            refine (refDot_strB _ _ H2.out _).mono ?_
            rintro e w4 ⟨rfl, rfl⟩
            have HO4 := hid HO.out
            have HB4 := hid HO.out
            go_wp2_with fail
            refine (refEncode_strB _ HPz.out _).mono ?_
            rintro e w6 ⟨rfl, hb6⟩
            have HO6 := hid (HO4.out.on hb6)
            clear hb6
            go_wp2_with (at_builtin; refine wpList_append_textsA rfl _ _ rfl rfl (HO6.out.own.below (alloc_below _ _)) rfl (ReadT.one _ _) (by have := HSx.out; simp <;> omega) (Nat.le_trans HO6.out.below.size (by simp)) ?_; intro v8 w8 ho8 hb8 ha8; have HO8 := hid (OutA.app (M := (outAt (fileB s) l P k) ++ [encL 4 P[k]]) HO6.out ho8 hb8 ha8 (by exact map_one _ _)); clear hb8 ho8 ha8)
            go_roundw
            case rel => exact ⟨k + 1, by omega, by go_num, by rw [HN.out]; exact HO8.out⟩
            case measure => simp [intOf]; omega
          · by_cases h0 : (outAt (fileB s) l P k).length = 0
            · have hemp : (outAt (fileB s) l P k).isEmpty = true := by rw [List.isEmpty_iff]; exact List.length_eq_zero_iff.1 h0
              have hz : (((outAt (fileB s) l P k).length : Int) == 0) = true := by rw [beq_iff_eq]; omega
              have hzz := hid h0
              clear h0
              cases h3 : driveL P[k]
              · have HN := hid (outAt_enc (file := fileB s) (out := l) hlt H1.out H2.out (by rw [hemp, h3]; simp))
                have H3 := hid h3
                clear h3 hemp
                go_wp2_with fail
                refine (refDots_strB _ _ H1.out HPz.out _).mono ?_
                rintro e w3 ⟨rfl, rfl⟩
                have HO3 := hid HO.out
                have HB3 := hid HO.out
                go_wp2_with fail
                refine (refDot_strB _ _ H2.out _).mono ?_
                rintro e w4 ⟨rfl, rfl⟩
                have HO4 := hid HO.out
                have HB4 := hid HO.out
                go_wp2_with fail
                refine (refDrive_strB _ _ H3.out _).mono ?_
                rintro e w5 ⟨rfl, rfl⟩
                go_wp2_with fail
                refine (refEncode_strB _ HPz.out _).mono ?_
                rintro e w6 ⟨rfl, hb6⟩
                have HO6 := hid (HO4.out.on hb6)
                clear hb6
                go_wp2_with (at_builtin; refine wpList_append_textsA rfl _ _ rfl rfl (HO6.out.own.below (alloc_below _ _)) rfl (ReadT.one _ _) (by have := HSx.out; simp <;> omega) (Nat.le_trans HO6.out.below.size (by simp)) ?_; intro v8 w8 ho8 hb8 ha8; have HO8 := hid (OutA.app (M := (outAt (fileB s) l P k) ++ [encL 4 P[k]]) HO6.out ho8 hb8 ha8 (by exact map_one _ _)); clear hb8 ho8 ha8)
                go_roundw
                case rel => exact ⟨k + 1, by omega, by go_num, by rw [HN.out]; exact HO8.out⟩
                case measure => simp [intOf]; omega
              · have HN := hid (outAt_drive (file := fileB s) (out := l) hlt H1.out H2.out (by show ((s.toList == [102, 105, 108, 101]) && _) = true; rw [hf, hemp, h3]; rfl))
                have H3 := hid h3
                have h2z := drive_len h3
                have HC := hid (cut_one h2z)
                have hsz : 1 ≤ (strB P[k]).size := by rw [strB_size]; omega
                clear h3 hemp h2z
                go_wp2_with fail
                refine (refDots_strB _ _ H1.out HPz.out _).mono ?_
                rintro e w3 ⟨rfl, rfl⟩
                have HO3 := hid HO.out
                have HB3 := hid HO.out
                go_wp2_with fail
                refine (refDot_strB _ _ H2.out _).mono ?_
                rintro e w4 ⟨rfl, rfl⟩
                have HO4 := hid HO.out
                have HB4 := hid HO.out
                go_wp2_with fail
                refine (refDrive_strB _ _ H3.out _).mono ?_
                rintro e w5 ⟨rfl, rfl⟩
                go_wp2_with (at_builtin; refine wpList_append_textsA rfl _ _ rfl rfl (HO4.out.own.below (alloc_below _ _)) rfl (ReadT.one _ _) (by have := HSx.out; simp <;> omega) (Nat.le_trans HO4.out.below.size (by simp)) ?_; intro v8 w8 ho8 hb8 ha8; have HO8 := hid (OutA.app (M := (outAt (fileB s) l P k) ++ [P[k].take 1 ++ [58]]) HO4.out ho8 hb8 ha8 (by rw [map_one, ← HC.out])); clear hb8 ho8 ha8)
                go_roundw
                case rel => exact ⟨k + 1, by omega, by go_num, by rw [HN.out]; exact HO8.out⟩
                case measure => simp [intOf]; omega
            · have hemp : (outAt (fileB s) l P k).isEmpty = false := by rw [Bool.eq_false_iff]; intro e; rw [List.isEmpty_iff] at e; rw [e] at h0; exact h0 rfl
              have hz : (((outAt (fileB s) l P k).length : Int) == 0) = false := by rw [beq_eq_false_iff_ne]; omega
              have hzz := hid h0
              clear h0
              have HN := hid (outAt_enc (file := fileB s) (out := l) hlt H1.out H2.out (by rw [hemp]; simp))
              clear hemp
              go_wp2_with fail
              refine (refDots_strB _ _ H1.out HPz.out _).mono ?_
              rintro e w3 ⟨rfl, rfl⟩
              have HO3 := hid HO.out
              have HB3 := hid HO.out
              go_wp2_with fail
              refine (refDot_strB _ _ H2.out _).mono ?_
              rintro e w4 ⟨rfl, rfl⟩
              have HO4 := hid HO.out
              have HB4 := hid HO.out
              go_wp2_with fail
              refine (refEncode_strB _ HPz.out _).mono ?_
              rintro e w6 ⟨rfl, hb6⟩
              have HO6 := hid (HO4.out.on hb6)
              clear hb6
              go_wp2_with (at_builtin; refine wpList_append_textsA rfl _ _ rfl rfl (HO6.out.own.below (alloc_below _ _)) rfl (ReadT.one _ _) (by have := HSx.out; simp <;> omega) (Nat.le_trans HO6.out.below.size (by simp)) ?_; intro v8 w8 ho8 hb8 ha8; have HO8 := hid (OutA.app (M := (outAt (fileB s) l P k) ++ [encL 4 P[k]]) HO6.out ho8 hb8 ha8 (by exact map_one _ _)); clear hb8 ho8 ha8)
              go_roundw
              case rel => exact ⟨k + 1, by omega, by go_num, by rw [HN.out]; exact HO8.out⟩
              case measure => simp [intOf]; omega
        · by_cases he : k + 1 = P.length
          · have HN := hid (outAt_dot (file := fileB s) (out := l) hlt h1 h2)
            rw [if_pos he] at HN
            have hq : ((k : Int) == (P.length : Int) - 1) = true := by simp; omega
            have H1 := hid h1
            have H2 := hid h2
            clear h1 h2
            go_wp2_with fail
            refine (refDots_strB _ _ H1.out HPz.out _).mono ?_
            rintro e w3 ⟨rfl, rfl⟩
            have HO3 := hid HO.out
            have HB3 := hid HO.out
            go_wp2_with fail
            refine (refDot_strB _ _ H2.out _).mono ?_
            rintro e w4 ⟨rfl, rfl⟩
            have HO4 := hid HO.out
            have HB4 := hid HO.out
            go_wp2_with (at_builtin; refine wpList_append_textsA rfl _ _ rfl rfl (HO4.out.own.below (alloc_below _ _)) rfl (ReadT.one _ _) (by have := HSx.out; simp <;> omega) (Nat.le_trans HO4.out.below.size (by simp)) ?_; intro v8 w8 ho8 hb8 ha8; have HO8 := hid (OutA.app (M := (outAt (fileB s) l P k) ++ [[]]) HO4.out ho8 hb8 ha8 (by exact map_nil_one _)); clear hb8 ho8 ha8)
            go_roundw
            case rel => exact ⟨k + 1, by omega, by go_num, by rw [HN.out]; exact HO8.out⟩
            case measure => simp [intOf]; omega
          · have HN := hid (outAt_dot (file := fileB s) (out := l) hlt h1 h2)
            rw [if_neg he, List.append_nil] at HN
            have hq : ((k : Int) == (P.length : Int) - 1) = false := by simp; omega
            have H1 := hid h1
            have H2 := hid h2
            clear h1 h2
            go_wp2_with fail
            refine (refDots_strB _ _ H1.out HPz.out _).mono ?_
            rintro e w3 ⟨rfl, rfl⟩
            have HO3 := hid HO.out
            have HB3 := hid HO.out
            go_wp2_with fail
            refine (refDot_strB _ _ H2.out _).mono ?_
            rintro e w4 ⟨rfl, rfl⟩
            have HO4 := hid HO.out
            have HB4 := hid HO.out
            go_wp2_with fail
            go_roundw
            case rel => exact ⟨k + 1, by omega, by go_num, by rw [HN.out]; exact HO4.out⟩
            case measure => simp [intOf]; omega
      · by_cases he : k + 1 = P.length
        · have HN := hid (outAt_dots (file := fileB s) (out := l) hlt h1)
          rw [if_pos he] at HN
          have hq : ((k : Int) == (P.length : Int) - 1) = true := by simp; omega
          have H1 := hid h1
          clear h1
          go_wp2_with fail
          refine (refDots_strB _ _ H1.out HPz.out _).mono ?_
          rintro e w3 ⟨rfl, rfl⟩
          have HO3 := hid HO.out
          have HB3 := hid HO.out
          go_wp2_with fail
          refine (refShorten_calls s _ _ _ HO3.out.own.read (by rw [List.length_map]; have := HSx.out; omega)).mono ?_
          rintro e w4 ⟨v4, rfl, ho4, hb4⟩
          rw [shortT_strB] at ho4
          obtain ⟨A4, c4, hv4, hc4⟩ := ho4.read.len
          rw [List.length_map] at hv4 hc4
          subst hv4
          have HO4 := hid (OutA.new (M := (upS segWays (fileB s) (outAt (fileB s) l P k))) HO3.out ho4 hb4)
          have HU : Hid ((upS segWays (fileB s) (outAt (fileB s) l P k)).length ≤ 6100) := hid (by have := upS_len segWays (fileB s) (outAt (fileB s) l P k); have := HSx.out; omega)
          clear hb4 ho4
          go_wp2_with (at_builtin; refine wpList_append_textsA rfl _ _ rfl rfl (HO4.out.own.below (alloc_below _ _)) rfl (ReadT.one _ _) (by have := HU.out; simp <;> omega) (Nat.le_trans HO4.out.below.size (by simp)) ?_; intro v8 w8 ho8 hb8 ha8; have HO8 := hid (OutA.app (M := (upS segWays (fileB s) (outAt (fileB s) l P k)) ++ [[]]) HO4.out ho8 hb8 ha8 (by exact map_nil_one _)); clear hb8 ho8 ha8)
          go_roundw
          case rel => exact ⟨k + 1, by omega, by go_num, by rw [HN.out]; exact HO8.out⟩
          case measure => simp [intOf]; omega
        · have HN := hid (outAt_dots (file := fileB s) (out := l) hlt h1)
          rw [if_neg he, List.append_nil] at HN
          have hq : ((k : Int) == (P.length : Int) - 1) = false := by simp; omega
          have H1 := hid h1
          clear h1
          go_wp2_with fail
          refine (refDots_strB _ _ H1.out HPz.out _).mono ?_
          rintro e w3 ⟨rfl, rfl⟩
          have HO3 := hid HO.out
          have HB3 := hid HO.out
          go_wp2_with fail
          refine (refShorten_calls s _ _ _ HO3.out.own.read (by rw [List.length_map]; have := HSx.out; omega)).mono ?_
          rintro e w4 ⟨v4, rfl, ho4, hb4⟩
          rw [shortT_strB] at ho4
          obtain ⟨A4, c4, hv4, hc4⟩ := ho4.read.len
          rw [List.length_map] at hv4 hc4
          subst hv4
          have HO4 := hid (OutA.new (M := (upS segWays (fileB s) (outAt (fileB s) l P k))) HO3.out ho4 hb4)
          have HU : Hid ((upS segWays (fileB s) (outAt (fileB s) l P k)).length ≤ 6100) := hid (by have := upS_len segWays (fileB s) (outAt (fileB s) l P k); have := HSx.out; omega)
          clear hb4 ho4
          go_wp2_with fail
          go_roundw
          case rel => exact ⟨k + 1, by omega, by go_num, by rw [HN.out]; exact HO4.out⟩
          case measure => simp [intOf]; omega
    · obtain rfl : k = P.length := by omega
      rw [outAt_end] at HO hv2 hc2
      subst hv2
      go_wp2_with fail
      go_ret
      exact ⟨_, rfl, HO.out.own, HO.out.below⟩
end Go.Proofs.Ytmkgjleojfggcaa
