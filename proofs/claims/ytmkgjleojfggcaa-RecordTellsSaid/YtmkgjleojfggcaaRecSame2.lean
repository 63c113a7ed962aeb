/-
  Addresses by value, and the contracts of Same. Conditions: the paths have at most 100000 pieces.
-/
import Derived.Test.YtmkgjleojfggcaaRecHost
import Derived.Test.YtmkgjleojfggcaaFall
import Derived.Deep.CutBlock
set_option linter.all false
namespace Go.Proofs.Ytmkgjleojfggcaa
open Go.RowKit
/-- An address as it is handed over: pathV is the value of its path, path what that reads as. -/
structure Url where
  scheme : ByteArray
  user : ByteArray
  pass : ByteArray
  kind : Int
  name : ByteArray
  four : Int
  x0 : Int
  x1 : Int
  x2 : Int
  x3 : Int
  x4 : Int
  x5 : Int
  x6 : Int
  x7 : Int
  hasPort : Bool
  port : Int
  opq : Bool
  flat : ByteArray
  pathV : Value
  path : List ByteArray
  hasQuery : Bool
  query : ByteArray
  hasFrag : Bool
  frag : ByteArray

def Url.val (u : Url) : Value :=
  .agg #[.string u.scheme, .string u.user, .string u.pass, .int .i64 u.kind, .string u.name, .int .u32 u.four, .int .u16 u.x0, .int .u16 u.x1, .int .u16 u.x2, .int .u16 u.x3, .int .u16 u.x4, .int .u16 u.x5, .int .u16 u.x6, .int .u16 u.x7,
    .bool u.hasPort, .int .i64 u.port, .bool u.opq, .string u.flat, u.pathV, .bool u.hasQuery, .string u.query, .bool u.hasFrag, .string u.frag]

/-- P12.5. -/
def Url.same (u v : Url) : Bool :=
  u.scheme.toList == v.scheme.toList && (u.user.toList == v.user.toList && (u.pass.toList == v.pass.toList && (u.kind == v.kind && (u.name.toList == v.name.toList && (u.four == v.four &&
  (u.x0 == v.x0 && (u.x1 == v.x1 && (u.x2 == v.x2 && (u.x3 == v.x3 && (u.x4 == v.x4 && (u.x5 == v.x5 && (u.x6 == v.x6 && (u.x7 == v.x7 && (u.hasPort == v.hasPort && (u.port == v.port && (u.opq == v.opq && (u.flat.toList == v.flat.toList &&
  (decide (u.path = v.path) && (u.hasQuery == v.hasQuery && (u.query.toList == v.query.toList && (u.hasFrag == v.hasFrag && u.frag.toList == v.frag.toList)))))))))))))))))))))

theorem alloc2 (w : World) (o o' : Obj) : Below w.heap.size w ((w.alloc o).alloc o') := ((Below.refl _ _).alloc (Nat.le_refl _) o).alloc (by simp) o'

set_option maxHeartbeats 40000000 in
set_option maxRecDepth 100000 in
theorem same_calls (u v : Url) (w : World) (hu : ReadT w u.pathV u.path) (hv : ReadT w v.pathV v.path) (hul : u.path.length ≤ 100000) (hvl : v.path.length ≤ 100000) :
    Calls Try.prog 39 #[u.val, v.val] w fun e w' => e = .returned (.bool (u.same v)) ∧ Below w.heap.size w w' := by
  obtain ⟨A, c, hA, hc⟩ := hu.len
  obtain ⟨B, d, hB, hd⟩ := hv.len
  obtain ⟨a0, a1, a2, ah, an, af, s0, s1, s2, s3, s4, s5, s6, s7, ao, ap, aq, ag, av, al, ai, aj, ak, am⟩ := u
  obtain ⟨b0, b1, b2, bh, bn, bf, t0, t1, t2, t3, t4, t5, t6, t7, bo, bp, bq, bg, bv, bl, bi, bj, bk, bm⟩ := v
  simp only [] at hA hB hc hd hul hvl hu hv
  subst hA hB
  simp only [Url.val]
  have hh := fun W => eq_host ah af bh bf an bn s0 s1 s2 s3 s4 s5 s6 s7 t0 t1 t2 t3 t4 t5 t6 t7 W
  generalize hhb : (ah == bh && (an.toList == bn.toList && (af == bf && (s0 == t0 && (s1 == t1 && (s2 == t2 && (s3 == t3 && (s4 == t4 && (s5 == t5 && (s6 == t6 && s7 == t7)))))))))) = hq at hh
  have HH := hid hhb
  clear hhb
  have hsame : Url.same ⟨a0, a1, a2, ah, an, af, s0, s1, s2, s3, s4, s5, s6, s7, ao, ap, aq, ag, .slice A al.length c, al, ai, aj, ak, am⟩ ⟨b0, b1, b2, bh, bn, bf, t0, t1, t2, t3, t4, t5, t6, t7, bo, bp, bq, bg, .slice B bl.length d, bl, bi, bj, bk, bm⟩ =
      (a0.toList == b0.toList && (a1.toList == b1.toList && (a2.toList == b2.toList && (hq && (ao == bo && (ap == bp && (aq == bq && (ag.toList == bg.toList && (decide (al = bl) && (ai == bi && (aj.toList == bj.toList && (ak == bk && am.toList == bm.toList)))))))))))) := by rw [← HH.out]; simp [Url.same, Bool.and_assoc]
  rw [hsame]
  clear hsame
  obtain ⟨rv, HRV⟩ : ∃ rv, Hid (rv = (a0.toList == b0.toList && (a1.toList == b1.toList && (a2.toList == b2.toList && (hq && (ao == bo && (ap == bp && (aq == bq && (ag.toList == bg.toList && (decide (al = bl) && (ai == bi && (aj.toList == bj.toList && (ak == bk && am.toList == bm.toList))))))))))))) := ⟨_, hid rfl⟩
  rw [← HRV.out]
  have HU := hid hu
  have HV := hid hv
  clear hu hv HH
  go_enter Try.func39, Try.ntmps39
  go_upto_region 1 with (fail)
  simp only [List.append_eq, List.cons_append, List.nil_append]
  apply wp_region_lit
  iterate 6 (refine wpList_yes rfl ?_; intro K hK; go_simp; refine hK _ _ ?_; clear hK K)
  cases e0 : (a0.toList == b0.toList)
  · refine wpList_fall1 94 10 false 4 false rfl rfl (by kernel_rfl) ?_
    intro a9 hd9 ht9
    go_wp2_with fail
    exact bodyPost_fall rfl ht9 hd9 ⟨by rw [HRV.out, e0]; rfl, alloc2 _ _ _⟩
  have E0 := hid e0
  clear e0
  iterate 7 (refine wpList_yes rfl ?_; intro K hK; go_simp; refine hK _ _ ?_; clear hK K)
  cases e1 : (a1.toList == b1.toList)
  · refine wpList_fall1 94 17 false 4 false rfl rfl (by kernel_rfl) ?_
    intro a9 hd9 ht9
    go_wp2_with fail
    exact bodyPost_fall rfl ht9 hd9 ⟨by rw [HRV.out, E0.out, e1]; simp only [Bool.true_and, Bool.false_and], alloc2 _ _ _⟩
  have E1 := hid e1
  clear e1
  iterate 7 (refine wpList_yes rfl ?_; intro K hK; go_simp; refine hK _ _ ?_; clear hK K)
  cases e2 : (a2.toList == b2.toList)
  · refine wpList_fall1 94 24 false 4 false rfl rfl (by kernel_rfl) ?_
    intro a9 hd9 ht9
    go_wp2_with fail
    exact bodyPost_fall rfl ht9 hd9 ⟨by rw [HRV.out, E0.out, E1.out, e2]; simp only [Bool.true_and, Bool.false_and], alloc2 _ _ _⟩
  have E2 := hid e2
  clear e2
  iterate 7 (refine wpList_yes rfl ?_; intro K hK; go_simp; refine hK _ _ ?_; clear hK K)
  cases e3 : (hq)
  · refine wpList_fall1 94 31 false 4 false rfl rfl (by kernel_rfl) ?_
    intro a9 hd9 ht9
    go_wp2_with fail
    exact bodyPost_fall rfl ht9 hd9 ⟨by rw [HRV.out, E0.out, E1.out, E2.out, e3]; simp only [Bool.true_and, Bool.false_and], alloc2 _ _ _⟩
  have E3 := hid e3
  clear e3
  iterate 7 (refine wpList_yes rfl ?_; intro K hK; go_simp; refine hK _ _ ?_; clear hK K)
  cases e4 : (ao == bo)
  · refine wpList_fall1 94 38 false 4 false rfl rfl (by kernel_rfl) ?_
    intro a9 hd9 ht9
    go_wp2_with fail
    exact bodyPost_fall rfl ht9 hd9 ⟨by rw [HRV.out, E0.out, E1.out, E2.out, E3.out, e4]; simp only [Bool.true_and, Bool.false_and], alloc2 _ _ _⟩
  have E4 := hid e4
  clear e4
  iterate 7 (refine wpList_yes rfl ?_; intro K hK; go_simp; refine hK _ _ ?_; clear hK K)
  cases e5 : (ap == bp)
  · refine wpList_fall1 94 45 false 4 false rfl rfl (by kernel_rfl) ?_
    intro a9 hd9 ht9
    go_wp2_with fail
    exact bodyPost_fall rfl ht9 hd9 ⟨by rw [HRV.out, E0.out, E1.out, E2.out, E3.out, E4.out, e5]; simp only [Bool.true_and, Bool.false_and], alloc2 _ _ _⟩
  have E5 := hid e5
  clear e5
  iterate 7 (refine wpList_yes rfl ?_; intro K hK; go_simp; refine hK _ _ ?_; clear hK K)
  cases e6 : (aq == bq)
  · refine wpList_fall1 94 52 false 4 false rfl rfl (by kernel_rfl) ?_
    intro a9 hd9 ht9
    go_wp2_with fail
    exact bodyPost_fall rfl ht9 hd9 ⟨by rw [HRV.out, E0.out, E1.out, E2.out, E3.out, E4.out, E5.out, e6]; simp only [Bool.true_and, Bool.false_and], alloc2 _ _ _⟩
  have E6 := hid e6
  clear e6
  iterate 7 (refine wpList_yes rfl ?_; intro K hK; go_simp; refine hK _ _ ?_; clear hK K)
  cases e7 : (ag.toList == bg.toList)
  · refine wpList_fall1 94 59 false 4 false rfl rfl (by kernel_rfl) ?_
    intro a9 hd9 ht9
    go_wp2_with fail
    exact bodyPost_fall rfl ht9 hd9 ⟨by rw [HRV.out, E0.out, E1.out, E2.out, E3.out, E4.out, E5.out, E6.out, e7]; simp only [Bool.true_and, Bool.false_and], alloc2 _ _ _⟩
  have E7 := hid e7
  clear e7
  iterate 4 (refine wpList_yes rfl ?_; intro K hK; go_simp; refine hK _ _ ?_; clear hK K)
  refine wpList_yes rfl ?_; intro K hK; go_simp; go_at_call 60
  refine (equal_calls _ _ al bl _ (HU.out.below (alloc2 _ _ _)) (HV.out.below (alloc2 _ _ _)) hul hvl).mono ?_
  rintro e w2 ⟨rfl, hbw⟩
  refine hK _ _ ?_
  clear hK K
  have hbz := hid (Below.trans (alloc2 w _ _) (hbw.mono (alloc2 w _ _).size))
  have cu19 : w2.cell? ⟨w.heap.size, 19, none⟩ = _ := (hbw.cell (p := ⟨w.heap.size, 19, none⟩) (by simp <;> omega)).trans (cell2a w _ _ _ 19 _ rfl)
  have cv19 : w2.cell? ⟨w.heap.size + 1, 19, none⟩ = _ := (hbw.cell (p := ⟨w.heap.size + 1, 19, none⟩) (by simp)).trans (cell2b w _ _ _ 19 _ rfl)
  have cu20 : w2.cell? ⟨w.heap.size, 20, none⟩ = _ := (hbw.cell (p := ⟨w.heap.size, 20, none⟩) (by simp <;> omega)).trans (cell2a w _ _ _ 20 _ rfl)
  have cv20 : w2.cell? ⟨w.heap.size + 1, 20, none⟩ = _ := (hbw.cell (p := ⟨w.heap.size + 1, 20, none⟩) (by simp)).trans (cell2b w _ _ _ 20 _ rfl)
  have cu21 : w2.cell? ⟨w.heap.size, 21, none⟩ = _ := (hbw.cell (p := ⟨w.heap.size, 21, none⟩) (by simp <;> omega)).trans (cell2a w _ _ _ 21 _ rfl)
  have cv21 : w2.cell? ⟨w.heap.size + 1, 21, none⟩ = _ := (hbw.cell (p := ⟨w.heap.size + 1, 21, none⟩) (by simp)).trans (cell2b w _ _ _ 21 _ rfl)
  have cu22 : w2.cell? ⟨w.heap.size, 22, none⟩ = _ := (hbw.cell (p := ⟨w.heap.size, 22, none⟩) (by simp <;> omega)).trans (cell2a w _ _ _ 22 _ rfl)
  have cv22 : w2.cell? ⟨w.heap.size + 1, 22, none⟩ = _ := (hbw.cell (p := ⟨w.heap.size + 1, 22, none⟩) (by simp)).trans (cell2b w _ _ _ 22 _ rfl)
  clear hbw
  iterate 2 (refine wpList_yes rfl ?_; intro K hK; go_simp; refine hK _ _ ?_; clear hK K)
  cases e8 : (decide (al = bl))
  · refine wpList_fall1 94 66 false 4 false rfl rfl (by kernel_rfl) ?_
    intro a9 hd9 ht9
    go_wp2_with fail
    exact bodyPost_fall rfl ht9 hd9 ⟨by rw [HRV.out, E0.out, E1.out, E2.out, E3.out, E4.out, E5.out, E6.out, E7.out, e8]; simp only [Bool.true_and, Bool.false_and], hbz.out⟩
  have E8 := hid e8
  clear e8
  iterate 7 (refine wpList_yes rfl ?_; intro K hK; go_simp; refine hK _ _ ?_; clear hK K)
  cases e9 : (ai == bi)
  · refine wpList_fall1 94 73 false 4 false rfl rfl (by kernel_rfl) ?_
    intro a9 hd9 ht9
    go_wp2_with fail
    exact bodyPost_fall rfl ht9 hd9 ⟨by rw [HRV.out, E0.out, E1.out, E2.out, E3.out, E4.out, E5.out, E6.out, E7.out, E8.out, e9]; simp only [Bool.true_and, Bool.false_and], hbz.out⟩
  have E9 := hid e9
  clear e9
  iterate 7 (refine wpList_yes rfl ?_; intro K hK; go_simp; refine hK _ _ ?_; clear hK K)
  cases e10 : (aj.toList == bj.toList)
  · refine wpList_fall1 94 80 false 4 false rfl rfl (by kernel_rfl) ?_
    intro a9 hd9 ht9
    go_wp2_with fail
    exact bodyPost_fall rfl ht9 hd9 ⟨by rw [HRV.out, E0.out, E1.out, E2.out, E3.out, E4.out, E5.out, E6.out, E7.out, E8.out, E9.out, e10]; simp only [Bool.true_and, Bool.false_and], hbz.out⟩
  have E10 := hid e10
  clear e10
  iterate 7 (refine wpList_yes rfl ?_; intro K hK; go_simp; refine hK _ _ ?_; clear hK K)
  cases e11 : (ak == bk)
  · refine wpList_fall1 94 87 false 4 false rfl rfl (by kernel_rfl) ?_
    intro a9 hd9 ht9
    go_wp2_with fail
    exact bodyPost_fall rfl ht9 hd9 ⟨by rw [HRV.out, E0.out, E1.out, E2.out, E3.out, E4.out, E5.out, E6.out, E7.out, E8.out, E9.out, E10.out, e11]; simp only [Bool.true_and, Bool.false_and], hbz.out⟩
  have E11 := hid e11
  clear e11
  iterate 6 (refine wpList_yes rfl ?_; intro K hK; go_simp; refine hK _ _ ?_; clear hK K)
  (refine wpList_yes rfl ?_; intro K hK; go_simp; refine hK _ _ ?_; clear hK K)
  apply wpList_nil
  go_wp2_with fail
  go_ret
  exact ⟨ret_bool (by rw [HRV.out, E0.out, E1.out, E2.out, E3.out, E4.out, E5.out, E6.out, E7.out, E8.out, E9.out, E10.out, E11.out]; simp only [Bool.true_and]), hbz.out⟩
end Go.Proofs.Ytmkgjleojfggcaa
