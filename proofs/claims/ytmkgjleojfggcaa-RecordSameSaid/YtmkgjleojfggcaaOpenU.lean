/-
  An argument of type api.URL, by value, opened. Conditions: as each theorem states.
-/
import Derived.Test.YtmkgjleojfggcaaOpenT
import Derived.Test.YtmkgjleojfggcaaRecFew
import Derived.OpenShut
import Derived.ChangeArms
set_option linter.all false
namespace Go.Proofs.Ytmkgjleojfggcaa
open Go.RowKit Go.ChangeShapes Go.WideShapes Go.Deep
theorem list23 {l : List Value} (h : l.length = 23) : ∃ c0 c1 c2 c3 c4 c5 c6 c7 c8 c9 c10 c11 c12 c13 c14 c15 c16 c17 c18 c19 c20 c21 c22, l = [c0, c1, c2, c3, c4, c5, c6, c7, c8, c9, c10, c11, c12, c13, c14, c15, c16, c17, c18, c19, c20, c21, c22] := by
  match l, h with
  | [c0, c1, c2, c3, c4, c5, c6, c7, c8, c9, c10, c11, c12, c13, c14, c15, c16, c17, c18, c19, c20, c21, c22], _ => exact ⟨c0, c1, c2, c3, c4, c5, c6, c7, c8, c9, c10, c11, c12, c13, c14, c15, c16, c17, c18, c19, c20, c21, c22, rfl⟩
theorem list13 {α : Type} {l : List α} (h : l.length = 13) : ∃ x0 x1 x2 x3 x4 x5 x6 x7 x8 x9 x10 x11 x12, l = [x0, x1, x2, x3, x4, x5, x6, x7, x8, x9, x10, x11, x12] := by
  match l, h with
  | [x0, x1, x2, x3, x4, x5, x6, x7, x8, x9, x10, x11, x12], _ => exact ⟨x0, x1, x2, x3, x4, x5, x6, x7, x8, x9, x10, x11, x12, rfl⟩
theorem list4 {α : Type} {l : List α} (h : l.length = 4) : ∃ x0 x1 x2 x3, l = [x0, x1, x2, x3] := by
  match l, h with
  | [x0, x1, x2, x3], _ => exact ⟨x0, x1, x2, x3, rfl⟩
theorem list8 {α : Type} {l : List α} (h : l.length = 8) : ∃ x0 x1 x2 x3 x4 x5 x6 x7, l = [x0, x1, x2, x3, x4, x5, x6, x7] := by
  match l, h with
  | [x0, x1, x2, x3, x4, x5, x6, x7], _ => exact ⟨x0, x1, x2, x3, x4, x5, x6, x7, rfl⟩
theorem cellsU0 : Try.prog.cellsOf 9 = 1 := by kernel_rfl
theorem cellsU1 : Try.prog.cellsOf 3 = 1 := by kernel_rfl
theorem cellsU2 : Try.prog.cellsOf 4 = 1 := by kernel_rfl
theorem cellsU3 : Try.prog.cellsOf 26 = 1 := by kernel_rfl
theorem cellsU4 : Try.prog.cellsOf 27 = 1 := by kernel_rfl
theorem cellsU5 : Try.prog.cellsOf 31 = 1 := by kernel_rfl
theorem cellsU6 : Try.prog.cellsOf 28 = 8 := by kernel_rfl
theorem cellsU7 : Try.prog.cellsOf 30 = 11 := by kernel_rfl
set_option maxHeartbeats 2000000 in
theorem open_host {H : Type} {enc : TypeId × Value → H} {W : World} {base : Nat} {held : Bool} {n : Nat} {c0 c1 c2 c3 c4 c5 c6 c7 c8 c9 c10 : Value} {x : DataW H × List MemPlace}
    (h : DataW.trod enc Try.prog W base (fun _ => true) held n 30 [c0, c1, c2, c3, c4, c5, c6, c7, c8, c9, c10] = some x) :
    ∃ (k : Int) (nm : ByteArray) (f s0 s1 s2 s3 s4 s5 s6 s7 : Int), c0 = .int .i64 k ∧ c1 = .string nm ∧ c2 = .int .u32 f ∧ c3 = .int .u16 s0 ∧ c4 = .int .u16 s1 ∧ c5 = .int .u16 s2 ∧ c6 = .int .u16 s3 ∧ c7 = .int .u16 s4 ∧ c8 = .int .u16 s5 ∧ c9 = .int .u16 s6 ∧ c10 = .int .u16 s7 ∧ nm.size ≤ maxLen := by
  obtain ⟨xs, m, _, _, _, hlen, hg⟩ := DataW.trod_struct Try.underlying30 h
  obtain ⟨x0, x1, x2, x3, rfl⟩ := list4 hlen
  have g0 : DataW.trod enc Try.prog W base (fun _ => true) held m 3 (List.take (Try.prog.cellsOf 3) (List.drop 0 [c0, c1, c2, c3, c4, c5, c6, c7, c8, c9, c10])) = some x0 := hg 0 _ rfl
  have g1 : DataW.trod enc Try.prog W base (fun _ => true) held m 9 (List.take (Try.prog.cellsOf 9) (List.drop 1 [c0, c1, c2, c3, c4, c5, c6, c7, c8, c9, c10])) = some x1 := hg 1 _ rfl
  have g2 : DataW.trod enc Try.prog W base (fun _ => true) held m 26 (List.take (Try.prog.cellsOf 26) (List.drop 2 [c0, c1, c2, c3, c4, c5, c6, c7, c8, c9, c10])) = some x2 := hg 2 _ rfl
  have g3 : DataW.trod enc Try.prog W base (fun _ => true) held m 28 (List.take (Try.prog.cellsOf 28) (List.drop 3 [c0, c1, c2, c3, c4, c5, c6, c7, c8, c9, c10])) = some x3 := hg 3 _ rfl
  simp only [cellsU0, cellsU1, cellsU2, cellsU3, cellsU4, cellsU5, cellsU6, cellsU7, List.drop_zero, List.drop_succ_cons, List.take_succ_cons, List.take_zero, List.getElem?_cons_zero, List.getElem?_cons_succ] at g0 g1 g2 g3
  obtain ⟨k, e0, _, _⟩ := DataW.trod_int Try.underlying3 g0
  obtain ⟨nm, e1, _, hn⟩ := DataW.trod_string Try.underlying9 g1
  obtain ⟨f, e2, _, _⟩ := DataW.trod_int Try.underlying26 g2
  obtain ⟨ys, m', _, _, _, hl8, ha⟩ := DataW.trod_array Try.underlying28 g3
  obtain ⟨y0, y1, y2, y3, y4, y5, y6, y7, rfl⟩ := list8 hl8
  have a0 : DataW.trod enc Try.prog W base (fun _ => true) held m' 27 (List.take (Try.prog.cellsOf 27) (List.drop (0 * Try.prog.cellsOf 27) [c3, c4, c5, c6, c7, c8, c9, c10])) = some y0 := ha 0 (by decide)
  have a1 : DataW.trod enc Try.prog W base (fun _ => true) held m' 27 (List.take (Try.prog.cellsOf 27) (List.drop (1 * Try.prog.cellsOf 27) [c3, c4, c5, c6, c7, c8, c9, c10])) = some y1 := ha 1 (by decide)
  have a2 : DataW.trod enc Try.prog W base (fun _ => true) held m' 27 (List.take (Try.prog.cellsOf 27) (List.drop (2 * Try.prog.cellsOf 27) [c3, c4, c5, c6, c7, c8, c9, c10])) = some y2 := ha 2 (by decide)
  have a3 : DataW.trod enc Try.prog W base (fun _ => true) held m' 27 (List.take (Try.prog.cellsOf 27) (List.drop (3 * Try.prog.cellsOf 27) [c3, c4, c5, c6, c7, c8, c9, c10])) = some y3 := ha 3 (by decide)
  have a4 : DataW.trod enc Try.prog W base (fun _ => true) held m' 27 (List.take (Try.prog.cellsOf 27) (List.drop (4 * Try.prog.cellsOf 27) [c3, c4, c5, c6, c7, c8, c9, c10])) = some y4 := ha 4 (by decide)
  have a5 : DataW.trod enc Try.prog W base (fun _ => true) held m' 27 (List.take (Try.prog.cellsOf 27) (List.drop (5 * Try.prog.cellsOf 27) [c3, c4, c5, c6, c7, c8, c9, c10])) = some y5 := ha 5 (by decide)
  have a6 : DataW.trod enc Try.prog W base (fun _ => true) held m' 27 (List.take (Try.prog.cellsOf 27) (List.drop (6 * Try.prog.cellsOf 27) [c3, c4, c5, c6, c7, c8, c9, c10])) = some y6 := ha 6 (by decide)
  have a7 : DataW.trod enc Try.prog W base (fun _ => true) held m' 27 (List.take (Try.prog.cellsOf 27) (List.drop (7 * Try.prog.cellsOf 27) [c3, c4, c5, c6, c7, c8, c9, c10])) = some y7 := ha 7 (by decide)
  simp only [cellsU0, cellsU1, cellsU2, cellsU3, cellsU4, cellsU5, cellsU6, cellsU7, List.drop_zero, List.drop_succ_cons, List.take_succ_cons, List.take_zero, List.getElem?_cons_zero, List.getElem?_cons_succ, Nat.zero_mul, Nat.one_mul, Nat.mul_one] at a0 a1 a2 a3 a4 a5 a6 a7
  obtain ⟨s0, z0, _, _⟩ := DataW.trod_int Try.underlying27 a0
  obtain ⟨s1, z1, _, _⟩ := DataW.trod_int Try.underlying27 a1
  obtain ⟨s2, z2, _, _⟩ := DataW.trod_int Try.underlying27 a2
  obtain ⟨s3, z3, _, _⟩ := DataW.trod_int Try.underlying27 a3
  obtain ⟨s4, z4, _, _⟩ := DataW.trod_int Try.underlying27 a4
  obtain ⟨s5, z5, _, _⟩ := DataW.trod_int Try.underlying27 a5
  obtain ⟨s6, z6, _, _⟩ := DataW.trod_int Try.underlying27 a6
  obtain ⟨s7, z7, _, _⟩ := DataW.trod_int Try.underlying27 a7
  simp only [List.cons.injEq, and_true] at e0 e1 e2 z0 z1 z2 z3 z4 z5 z6 z7
  exact ⟨k, nm, f, s0, s1, s2, s3, s4, s5, s6, s7, e0, e1, e2, z0, z1, z2, z3, z4, z5, z6, z7, hn⟩
set_option maxHeartbeats 4000000 in
theorem open_url {H : Type} {enc : TypeId × Value → H} {W : World} {base : Nat} {held : Bool} {r : Reach} {b0 : Nat} {v : Value} {d : DataW H} {p : List MemPlace}
    (hval : Value.okWide Try.prog W r b0 33 v) (h : DataW.Trod enc Try.prog W base (fun _ => true) held 33 v d p) : ∃ u : Url, v = u.val ∧ ReadT W u.pathV u.path ∧ u.Fits := by
  simp only [Value.okWide, Try.underlying33] at hval
  obtain ⟨cs, rfl, hsz, ts, hts, _, hcell⟩ := hval
  obtain ⟨fuel, hf⟩ := h
  obtain ⟨l⟩ := cs
  simp only [Value.cells] at hf
  obtain ⟨xs, m, _, _, hcl, hlen, hg⟩ := DataW.trod_struct Try.underlying33 hf
  obtain ⟨c0, c1, c2, c3, c4, c5, c6, c7, c8, c9, c10, c11, c12, c13, c14, c15, c16, c17, c18, c19, c20, c21, c22, rfl⟩ := list23 (l := l) (by rw [show Try.prog.cellsOf 33 = 23 by kernel_rfl] at hsz; simpa using hsz)
  obtain ⟨x0, x1, x2, x3, x4, x5, x6, x7, x8, x9, x10, x11, x12, rfl⟩ := list13 hlen
  have hty : (Try.prog.cellTypes Try.prog.depth 33).map (fun ts => (ts.length, ts[18]?)) = some (23, some 31) := by kernel_rfl
  rw [hts] at hty
  simp only [Option.map_some, Option.some.injEq, Prod.mk.injEq] at hty
  obtain ⟨u18, hu18, hok18⟩ := hcell 18 c18 rfl
  rw [hty.1, show 18 % 23 = 18 by decide, hty.2] at hu18
  simp only [Option.some.injEq] at hu18
  subst hu18
  have g0 : DataW.trod enc Try.prog W base (fun _ => true) held m 9 (List.take (Try.prog.cellsOf 9) (List.drop 0 [c0, c1, c2, c3, c4, c5, c6, c7, c8, c9, c10, c11, c12, c13, c14, c15, c16, c17, c18, c19, c20, c21, c22])) = some x0 := hg 0 _ rfl
  have g1 : DataW.trod enc Try.prog W base (fun _ => true) held m 9 (List.take (Try.prog.cellsOf 9) (List.drop 1 [c0, c1, c2, c3, c4, c5, c6, c7, c8, c9, c10, c11, c12, c13, c14, c15, c16, c17, c18, c19, c20, c21, c22])) = some x1 := hg 1 _ rfl
  have g2 : DataW.trod enc Try.prog W base (fun _ => true) held m 9 (List.take (Try.prog.cellsOf 9) (List.drop 2 [c0, c1, c2, c3, c4, c5, c6, c7, c8, c9, c10, c11, c12, c13, c14, c15, c16, c17, c18, c19, c20, c21, c22])) = some x2 := hg 2 _ rfl
  have g3 : DataW.trod enc Try.prog W base (fun _ => true) held m 30 (List.take (Try.prog.cellsOf 30) (List.drop 3 [c0, c1, c2, c3, c4, c5, c6, c7, c8, c9, c10, c11, c12, c13, c14, c15, c16, c17, c18, c19, c20, c21, c22])) = some x3 := hg 3 _ rfl
  have g4 : DataW.trod enc Try.prog W base (fun _ => true) held m 4 (List.take (Try.prog.cellsOf 4) (List.drop 14 [c0, c1, c2, c3, c4, c5, c6, c7, c8, c9, c10, c11, c12, c13, c14, c15, c16, c17, c18, c19, c20, c21, c22])) = some x4 := hg 4 _ rfl
  have g5 : DataW.trod enc Try.prog W base (fun _ => true) held m 3 (List.take (Try.prog.cellsOf 3) (List.drop 15 [c0, c1, c2, c3, c4, c5, c6, c7, c8, c9, c10, c11, c12, c13, c14, c15, c16, c17, c18, c19, c20, c21, c22])) = some x5 := hg 5 _ rfl
  have g6 : DataW.trod enc Try.prog W base (fun _ => true) held m 4 (List.take (Try.prog.cellsOf 4) (List.drop 16 [c0, c1, c2, c3, c4, c5, c6, c7, c8, c9, c10, c11, c12, c13, c14, c15, c16, c17, c18, c19, c20, c21, c22])) = some x6 := hg 6 _ rfl
  have g7 : DataW.trod enc Try.prog W base (fun _ => true) held m 9 (List.take (Try.prog.cellsOf 9) (List.drop 17 [c0, c1, c2, c3, c4, c5, c6, c7, c8, c9, c10, c11, c12, c13, c14, c15, c16, c17, c18, c19, c20, c21, c22])) = some x7 := hg 7 _ rfl
  have g8 : DataW.trod enc Try.prog W base (fun _ => true) held m 31 (List.take (Try.prog.cellsOf 31) (List.drop 18 [c0, c1, c2, c3, c4, c5, c6, c7, c8, c9, c10, c11, c12, c13, c14, c15, c16, c17, c18, c19, c20, c21, c22])) = some x8 := hg 8 _ rfl
  have g9 : DataW.trod enc Try.prog W base (fun _ => true) held m 4 (List.take (Try.prog.cellsOf 4) (List.drop 19 [c0, c1, c2, c3, c4, c5, c6, c7, c8, c9, c10, c11, c12, c13, c14, c15, c16, c17, c18, c19, c20, c21, c22])) = some x9 := hg 9 _ rfl
  have g10 : DataW.trod enc Try.prog W base (fun _ => true) held m 9 (List.take (Try.prog.cellsOf 9) (List.drop 20 [c0, c1, c2, c3, c4, c5, c6, c7, c8, c9, c10, c11, c12, c13, c14, c15, c16, c17, c18, c19, c20, c21, c22])) = some x10 := hg 10 _ rfl
  have g11 : DataW.trod enc Try.prog W base (fun _ => true) held m 4 (List.take (Try.prog.cellsOf 4) (List.drop 21 [c0, c1, c2, c3, c4, c5, c6, c7, c8, c9, c10, c11, c12, c13, c14, c15, c16, c17, c18, c19, c20, c21, c22])) = some x11 := hg 11 _ rfl
  have g12 : DataW.trod enc Try.prog W base (fun _ => true) held m 9 (List.take (Try.prog.cellsOf 9) (List.drop 22 [c0, c1, c2, c3, c4, c5, c6, c7, c8, c9, c10, c11, c12, c13, c14, c15, c16, c17, c18, c19, c20, c21, c22])) = some x12 := hg 12 _ rfl
  simp only [cellsU0, cellsU1, cellsU2, cellsU3, cellsU4, cellsU5, cellsU6, cellsU7, List.drop_zero, List.drop_succ_cons, List.take_succ_cons, List.take_zero, List.getElem?_cons_zero, List.getElem?_cons_succ] at g0 g1 g2 g3 g4 g5 g6 g7 g8 g9 g10 g11 g12
  obtain ⟨a0, e0, _, n0⟩ := DataW.trod_string Try.underlying9 g0
  obtain ⟨a1, e1, _, n1⟩ := DataW.trod_string Try.underlying9 g1
  obtain ⟨a2, e2, _, n2⟩ := DataW.trod_string Try.underlying9 g2
  obtain ⟨ah, an, af, s0, s1, s2, s3, s4, s5, s6, s7, rfl, rfl, rfl, rfl, rfl, rfl, rfl, rfl, rfl, rfl, rfl, n3⟩ := open_host g3
  obtain ⟨ao, e4, _⟩ := DataW.trod_bool Try.underlying4 g4
  obtain ⟨ap, e5, _, _⟩ := DataW.trod_int Try.underlying3 g5
  obtain ⟨aq, e6, _⟩ := DataW.trod_bool Try.underlying4 g6
  obtain ⟨ag, e7, _, n7⟩ := DataW.trod_string Try.underlying9 g7
  obtain ⟨ai, e9, _⟩ := DataW.trod_bool Try.underlying4 g9
  obtain ⟨aj, e10, _, n10⟩ := DataW.trod_string Try.underlying9 g10
  obtain ⟨ak, e11, _⟩ := DataW.trod_bool Try.underlying4 g11
  obtain ⟨am, e12, _, n12⟩ := DataW.trod_string Try.underlying9 g12
  have hok : ∃ A len cap, c18 = .slice A len cap ∧ ∀ a, A = some a → a.spot = none := by
    simp only [Cell.okWide, Cell.ok, Try.underlying31] at hok18
    cases c18 <;> simp_all
    rename_i A len cap
    intro a ha
    subst ha
    exact hok18.2.2.2.1
  obtain ⟨A, len, cap, rfl, hsp⟩ := hok
  obtain ⟨al, hr, hl, hp⟩ := texts_of hsp g8
  simp only [List.cons.injEq, and_true] at e0 e1 e2 e4 e5 e6 e7 e9 e10 e11 e12
  subst e0 e1 e2 e4 e5 e6 e7 e9 e10 e11 e12
  exact ⟨⟨a0, a1, a2, ah, an, af, s0, s1, s2, s3, s4, s5, s6, s7, ao, ap, aq, ag, .slice A len cap, al, ai, aj, ak, am⟩, rfl, hr, ⟨n0, n1, n2, n3, n7, n10, n12, hl, hp⟩⟩
end Go.Proofs.Ytmkgjleojfggcaa
