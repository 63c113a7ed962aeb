/-
  The contract of Few: where it says yes, the path has at most 50 pieces, and the fragment at most 1000 bytes. Conditions: no text and no path is longer than a text or a slice may be.
-/
import Derived.Test.YtmkgjleojfggcaaRecSame2
import Derived.Test.YtmkgjleojfggcaaRecConst
set_option linter.all false
namespace Go.Proofs.Ytmkgjleojfggcaa
open Go.RowKit
structure Url.Fits (u : Url) : Prop where
  scheme : u.scheme.size ≤ maxLen
  user : u.user.size ≤ maxLen
  pass : u.pass.size ≤ maxLen
  name : u.name.size ≤ maxLen
  flat : u.flat.size ≤ maxLen
  query : u.query.size ≤ maxLen
  frag : u.frag.size ≤ maxLen
  path : u.path.length ≤ maxLen
  pieces : ∀ x ∈ u.path, x.size ≤ maxLen
def FewSays (u : Url) (w : World) (e : Ending) (w' : World) : Prop := ∃ b : Bool, e = .returned (.bool b) ∧ (b = true → u.path.length ≤ 50 ∧ u.frag.size ≤ 1000) ∧ Below w.heap.size w w'
theorem few_no {u : Url} {w w' : World} (h : Below w.heap.size w w') : FewSays u w (.returned (.bool false)) w' := ⟨false, rfl, (fun h => by cases h), h⟩
theorem few_yes {u : Url} {w w' : World} {b : Bool} (h1 : u.path.length ≤ 50) (h2 : u.frag.size ≤ 1000) (h : Below w.heap.size w w') : FewSays u w (.returned (.bool b)) w' := ⟨b, rfl, (fun _ => ⟨h1, h2⟩), h⟩
theorem cell1a (w : World) (c : Array Value) (t : TypeId) (j : Nat) (v : Value) (h : c[j]? = some v) : (w.alloc (.cells c t)).cell? ⟨w.heap.size, j, none⟩ = some v :=
  (World.cell?_alloc_mark w c t (0, 0) j).trans h
set_option maxHeartbeats 8000000 in
set_option maxRecDepth 100000 in
theorem few_calls (u : Url) (w : World) (hu : ReadT w u.pathV u.path) (hf : u.Fits) :
    Calls Try.prog 35 #[u.val] w (FewSays u w) := by
  obtain ⟨A, c, hA, hc⟩ := hu.len
  obtain ⟨f0, f1, f2, f3, f4, f5, f6, f7, f8⟩ := hf
  obtain ⟨a0, a1, a2, ah, an, af, s0, s1, s2, s3, s4, s5, s6, s7, ao, ap, aq, ag, av, l, ai, aj, ak, am⟩ := u
  simp only [] at hA hc hu f0 f1 f2 f3 f4 f5 f6 f7 f8
  subst hA
  simp only [Url.val]
  unfold maxLen at f0 f1 f2 f3 f4 f5 f6 f7 f8
  go_enter Try.func35, Try.ntmps35
  go_upto_region 1 with (fail)
  have hbw := alloc_below w (.cells #[.string a0, .string a1, .string a2, .int .i64 ah, .string an, .int .u32 af, .int .u16 s0, .int .u16 s1, .int .u16 s2, .int .u16 s3, .int .u16 s4, .int .u16 s5, .int .u16 s6, .int .u16 s7, .bool ao, .int .i64 ap, .bool aq, .string ag, .slice A l.length c, .bool ai, .string aj, .bool ak, .string am] 33)
  have hu1 := hu.below hbw
  have c0 := cell1a w #[.string a0, .string a1, .string a2, .int .i64 ah, .string an, .int .u32 af, .int .u16 s0, .int .u16 s1, .int .u16 s2, .int .u16 s3, .int .u16 s4, .int .u16 s5, .int .u16 s6, .int .u16 s7, .bool ao, .int .i64 ap, .bool aq, .string ag, .slice A l.length c, .bool ai, .string aj, .bool ak, .string am] 33 0 _ rfl
  have c1 := cell1a w #[.string a0, .string a1, .string a2, .int .i64 ah, .string an, .int .u32 af, .int .u16 s0, .int .u16 s1, .int .u16 s2, .int .u16 s3, .int .u16 s4, .int .u16 s5, .int .u16 s6, .int .u16 s7, .bool ao, .int .i64 ap, .bool aq, .string ag, .slice A l.length c, .bool ai, .string aj, .bool ak, .string am] 33 1 _ rfl
  have c2 := cell1a w #[.string a0, .string a1, .string a2, .int .i64 ah, .string an, .int .u32 af, .int .u16 s0, .int .u16 s1, .int .u16 s2, .int .u16 s3, .int .u16 s4, .int .u16 s5, .int .u16 s6, .int .u16 s7, .bool ao, .int .i64 ap, .bool aq, .string ag, .slice A l.length c, .bool ai, .string aj, .bool ak, .string am] 33 2 _ rfl
  have c4 := cell1a w #[.string a0, .string a1, .string a2, .int .i64 ah, .string an, .int .u32 af, .int .u16 s0, .int .u16 s1, .int .u16 s2, .int .u16 s3, .int .u16 s4, .int .u16 s5, .int .u16 s6, .int .u16 s7, .bool ao, .int .i64 ap, .bool aq, .string ag, .slice A l.length c, .bool ai, .string aj, .bool ak, .string am] 33 4 _ rfl
  have c17 := cell1a w #[.string a0, .string a1, .string a2, .int .i64 ah, .string an, .int .u32 af, .int .u16 s0, .int .u16 s1, .int .u16 s2, .int .u16 s3, .int .u16 s4, .int .u16 s5, .int .u16 s6, .int .u16 s7, .bool ao, .int .i64 ap, .bool aq, .string ag, .slice A l.length c, .bool ai, .string aj, .bool ak, .string am] 33 17 _ rfl
  have c18 := cell1a w #[.string a0, .string a1, .string a2, .int .i64 ah, .string an, .int .u32 af, .int .u16 s0, .int .u16 s1, .int .u16 s2, .int .u16 s3, .int .u16 s4, .int .u16 s5, .int .u16 s6, .int .u16 s7, .bool ao, .int .i64 ap, .bool aq, .string ag, .slice A l.length c, .bool ai, .string aj, .bool ak, .string am] 33 18 _ rfl
  have c20 := cell1a w #[.string a0, .string a1, .string a2, .int .i64 ah, .string an, .int .u32 af, .int .u16 s0, .int .u16 s1, .int .u16 s2, .int .u16 s3, .int .u16 s4, .int .u16 s5, .int .u16 s6, .int .u16 s7, .bool ao, .int .i64 ap, .bool aq, .string ag, .slice A l.length c, .bool ai, .string aj, .bool ak, .string am] 33 20 _ rfl
  have c22 := cell1a w #[.string a0, .string a1, .string a2, .int .i64 ah, .string an, .int .u32 af, .int .u16 s0, .int .u16 s1, .int .u16 s2, .int .u16 s3, .int .u16 s4, .int .u16 s5, .int .u16 s6, .int .u16 s7, .bool ao, .int .i64 ap, .bool aq, .string ag, .slice A l.length c, .bool ai, .string aj, .bool ak, .string am] 33 22 _ rfl
  generalize w.alloc (.cells #[.string a0, .string a1, .string a2, .int .i64 ah, .string an, .int .u32 af, .int .u16 s0, .int .u16 s1, .int .u16 s2, .int .u16 s3, .int .u16 s4, .int .u16 s5, .int .u16 s6, .int .u16 s7, .bool ao, .int .i64 ap, .bool aq, .string ag, .slice A l.length c, .bool ai, .string aj, .bool ak, .string am] 33) = w1 at *
  have HB := hid hbw
  have HU := hid hu1
  have F8 := hid f8
  clear hbw hu1 hu f8
  generalize hB : w.heap.size = B at c0 c1 c2 c4 c17 c18 c20 c22 ⊢
  go_wp2_with fail
  go_loop [3, 4] (fun n i => ∃ k : Nat, ∃ m : Nat, k ≤ 100 ∧ k ≤ l.length ∧ m ≤ k * 500 ∧ i = .int .i64 k ∧ n = .int .i64 m) (fun _ i => 100 - (intOf i).toNat)
  case atStart => exact ⟨0, 0, by omega, Nat.zero_le _, by omega, rfl, rfl⟩
  case round =>
    obtain ⟨k, m, hk1, hk2, hm, rfl, rfl⟩ := hrel
    by_cases hlt : k < l.length
    · by_cases h100 : k < 100
      · obtain ⟨g, off, rfl, hcell⟩ := HU.out.cellAt hlt
        have h5 := F8.out l[k] (List.getElem_mem hlt)
        generalize l[k] = x at *
        by_cases hx : x.size ≤ 500
        · go_wp2_with fail
          go_round
          case rel => exact ⟨k + 1, m + x.size, by omega, by omega, by omega, by go_num, by go_num⟩
          case measure => simp [intOf]; omega
        · go_wp2_with fail
          go_ret
          exact few_no HB.out
      · go_upto_region 8 with (fail)
        (try simp only [List.append_eq, List.cons_append, List.nil_append])
        apply wp_region_lit
        iterate 5 (refine wpList_yes rfl ?_; intro K hK; go_simp; refine hK _ _ ?_; clear hK K)
        cases e0 : decide ((l.length : Int) ≤ 50)
        · refine wpList_fall1 82 35 false 2 false rfl rfl (by kernel_rfl) ?_
          intro a9 hd9 ht9
          go_wp2_with fail
          exact bodyPost_fall rfl ht9 hd9 (few_no HB.out)
        have E0 := hid e0
        clear e0
        iterate 4 (refine wpList_yes rfl ?_; intro K hK; go_simp; refine hK _ _ ?_; clear hK K)
        cases e1 : decide ((m : Int) ≤ 2000)
        · refine wpList_fall1 82 39 false 2 false rfl rfl (by kernel_rfl) ?_
          intro a9 hd9 ht9
          go_wp2_with fail
          exact bodyPost_fall rfl ht9 hd9 (few_no HB.out)
        have E1 := hid e1
        clear e1
        iterate 6 (refine wpList_yes rfl ?_; intro K hK; go_simp; refine hK _ _ ?_; clear hK K)
        cases e2 : decide ((a0.size : Int) ≤ 100)
        · refine wpList_fall1 82 45 false 2 false rfl rfl (by kernel_rfl) ?_
          intro a9 hd9 ht9
          go_wp2_with fail
          exact bodyPost_fall rfl ht9 hd9 (few_no HB.out)
        have E2 := hid e2
        clear e2
        iterate 6 (refine wpList_yes rfl ?_; intro K hK; go_simp; refine hK _ _ ?_; clear hK K)
        cases e3 : decide ((a1.size : Int) ≤ 500)
        · refine wpList_fall1 82 51 false 2 false rfl rfl (by kernel_rfl) ?_
          intro a9 hd9 ht9
          go_wp2_with fail
          exact bodyPost_fall rfl ht9 hd9 (few_no HB.out)
        have E3 := hid e3
        clear e3
        iterate 6 (refine wpList_yes rfl ?_; intro K hK; go_simp; refine hK _ _ ?_; clear hK K)
        cases e4 : decide ((a2.size : Int) ≤ 500)
        · refine wpList_fall1 82 57 false 2 false rfl rfl (by kernel_rfl) ?_
          intro a9 hd9 ht9
          go_wp2_with fail
          exact bodyPost_fall rfl ht9 hd9 (few_no HB.out)
        have E4 := hid e4
        clear e4
        iterate 6 (refine wpList_yes rfl ?_; intro K hK; go_simp; refine hK _ _ ?_; clear hK K)
        cases e5 : decide ((ag.size : Int) ≤ 1000)
        · refine wpList_fall1 82 63 false 2 false rfl rfl (by kernel_rfl) ?_
          intro a9 hd9 ht9
          go_wp2_with fail
          exact bodyPost_fall rfl ht9 hd9 (few_no HB.out)
        have E5 := hid e5
        clear e5
        iterate 6 (refine wpList_yes rfl ?_; intro K hK; go_simp; refine hK _ _ ?_; clear hK K)
        cases e6 : decide ((aj.size : Int) ≤ 1000)
        · refine wpList_fall1 82 69 false 2 false rfl rfl (by kernel_rfl) ?_
          intro a9 hd9 ht9
          go_wp2_with fail
          exact bodyPost_fall rfl ht9 hd9 (few_no HB.out)
        have E6 := hid e6
        clear e6
        iterate 6 (refine wpList_yes rfl ?_; intro K hK; go_simp; refine hK _ _ ?_; clear hK K)
        cases e7 : decide ((am.size : Int) ≤ 1000)
        · refine wpList_fall1 82 75 false 2 false rfl rfl (by kernel_rfl) ?_
          intro a9 hd9 ht9
          go_wp2_with fail
          exact bodyPost_fall rfl ht9 hd9 (few_no HB.out)
        have E7 := hid e7
        clear e7
        iterate 7 (refine wpList_yes rfl ?_; intro K hK; go_simp; refine hK _ _ ?_; clear hK K)
        apply wpList_nil
        go_wp2_with fail
        go_ret
        exact few_yes (by have h := E0.out; simp at h; show l.length ≤ 50; omega) (by have h := E7.out; simp at h; show am.size ≤ 1000; omega) HB.out
    · go_upto_region 8 with (fail)
      (try simp only [List.append_eq, List.cons_append, List.nil_append])
      apply wp_region_lit
      iterate 5 (refine wpList_yes rfl ?_; intro K hK; go_simp; refine hK _ _ ?_; clear hK K)
      cases e0 : decide ((l.length : Int) ≤ 50)
      · refine wpList_fall1 82 35 false 2 false rfl rfl (by kernel_rfl) ?_
        intro a9 hd9 ht9
        go_wp2_with fail
        exact bodyPost_fall rfl ht9 hd9 (few_no HB.out)
      have E0 := hid e0
      clear e0
      iterate 4 (refine wpList_yes rfl ?_; intro K hK; go_simp; refine hK _ _ ?_; clear hK K)
      cases e1 : decide ((m : Int) ≤ 2000)
      · refine wpList_fall1 82 39 false 2 false rfl rfl (by kernel_rfl) ?_
        intro a9 hd9 ht9
        go_wp2_with fail
        exact bodyPost_fall rfl ht9 hd9 (few_no HB.out)
      have E1 := hid e1
      clear e1
      iterate 6 (refine wpList_yes rfl ?_; intro K hK; go_simp; refine hK _ _ ?_; clear hK K)
      cases e2 : decide ((a0.size : Int) ≤ 100)
      · refine wpList_fall1 82 45 false 2 false rfl rfl (by kernel_rfl) ?_
        intro a9 hd9 ht9
        go_wp2_with fail
        exact bodyPost_fall rfl ht9 hd9 (few_no HB.out)
      have E2 := hid e2
      clear e2
      iterate 6 (refine wpList_yes rfl ?_; intro K hK; go_simp; refine hK _ _ ?_; clear hK K)
      cases e3 : decide ((a1.size : Int) ≤ 500)
      · refine wpList_fall1 82 51 false 2 false rfl rfl (by kernel_rfl) ?_
        intro a9 hd9 ht9
        go_wp2_with fail
        exact bodyPost_fall rfl ht9 hd9 (few_no HB.out)
      have E3 := hid e3
      clear e3
      iterate 6 (refine wpList_yes rfl ?_; intro K hK; go_simp; refine hK _ _ ?_; clear hK K)
      cases e4 : decide ((a2.size : Int) ≤ 500)
      · refine wpList_fall1 82 57 false 2 false rfl rfl (by kernel_rfl) ?_
        intro a9 hd9 ht9
        go_wp2_with fail
        exact bodyPost_fall rfl ht9 hd9 (few_no HB.out)
      have E4 := hid e4
      clear e4
      iterate 6 (refine wpList_yes rfl ?_; intro K hK; go_simp; refine hK _ _ ?_; clear hK K)
      cases e5 : decide ((ag.size : Int) ≤ 1000)
      · refine wpList_fall1 82 63 false 2 false rfl rfl (by kernel_rfl) ?_
        intro a9 hd9 ht9
        go_wp2_with fail
        exact bodyPost_fall rfl ht9 hd9 (few_no HB.out)
      have E5 := hid e5
      clear e5
      iterate 6 (refine wpList_yes rfl ?_; intro K hK; go_simp; refine hK _ _ ?_; clear hK K)
      cases e6 : decide ((aj.size : Int) ≤ 1000)
      · refine wpList_fall1 82 69 false 2 false rfl rfl (by kernel_rfl) ?_
        intro a9 hd9 ht9
        go_wp2_with fail
        exact bodyPost_fall rfl ht9 hd9 (few_no HB.out)
      have E6 := hid e6
      clear e6
      iterate 6 (refine wpList_yes rfl ?_; intro K hK; go_simp; refine hK _ _ ?_; clear hK K)
      cases e7 : decide ((am.size : Int) ≤ 1000)
      · refine wpList_fall1 82 75 false 2 false rfl rfl (by kernel_rfl) ?_
        intro a9 hd9 ht9
        go_wp2_with fail
        exact bodyPost_fall rfl ht9 hd9 (few_no HB.out)
      have E7 := hid e7
      clear e7
      iterate 7 (refine wpList_yes rfl ?_; intro K hK; go_simp; refine hK _ _ ?_; clear hK K)
      apply wpList_nil
      go_wp2_with fail
      go_ret
      exact few_yes (by have h := E0.out; simp at h; show l.length ≤ 50; omega) (by have h := E7.out; simp at h; show am.size ≤ 1000; omega) HB.out
end Go.Proofs.Ytmkgjleojfggcaa
