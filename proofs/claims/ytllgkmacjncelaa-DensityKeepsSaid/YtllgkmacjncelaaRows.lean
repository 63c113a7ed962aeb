/-
  No cell of these rows narrows 'for every input' (looked for: loops, veiled, ifaces, maps, wideKeys, modest, calm, conditions, laid).
  DERIVED. THE GIVEN ROWS OF THIS SEAT. 6 by the template 'for every input the law returns true; each argument reads behind the call as it read before'; 0 by the template 'total and deterministic' (their statements: YtllgkmacjncelaaTotals.lean).
  GIVEN WITH THE SEED: the statements are not yours to turn. If you find one false, say at which input.
  Laid BY PROGRAM, IN A SANDBOX (cutbox-rows.mjs): the forced cells as the released guide's own fill.sh prints them over the translation 914c2c23a16f4766… (all of the seat's roots in one cut). By AI agents, Wed Nov 11 2026. No macro, syntax, notation, axiom, sorry.
-/
import Derived.Test.YtllgkmacjncelaaChecked
import GoSem.Claim
import GoSem.ClaimJoined
import GoSem.ClaimMapViews
import Derived.JoinedTies
import Derived.KernelRfl
namespace Go.Proofs.Ytllgkmacjncelaa
/- THE CELL 'sum', in the pinned program and in every row, IS THE sha256 OF THE DUMP (.gsa) THAT YtllgkmacjncelaaProg.lean LOADS. Nothing in Lean hashes anything: it is a label: what it is worth is what the hold of that sum in a sandbox is worth. -/
noncomputable def Try.pinned : Pinned := { name := "ytllgkmacjncelaa", sum := "914c2c23a16f47661d80675f06efc7d9c9ee1522cc3ee86d95d6a58f8d176996", checked := Try.checked }
namespace Rows
def none {H : Type} : Left H := { results := [], args := [] }

/-- 'tamislaw22.ClassKinds': WHATEVER THE INPUT: true; the input reads as it did. -/
def classKindsSpec : ChangeSpec := { name := "classKinds", fn := fun _ => fun
  | [d1, d2] => { results := [.lit (.bool true)], args := [d1, d2] }
  | _ => none }
def classKindsRow : OpenClaim := { program := "ytllgkmacjncelaa", sum := "914c2c23a16f47661d80675f06efc7d9c9ee1522cc3ee86d95d6a58f8d176996", func := "tamis/tamislaw22.ClassKinds", spec := "classKinds", plainKeys := false, apart := false }
def ClassKindsSaid : Prop := classKindsRow.holds Try.pinned (OpenSpec.ofChange classKindsSpec)

/-- ITS FALSE NEIGHBOUR: 'it returns false'. Refute it at one input. -/
def classKindsWrong : ChangeSpec := { name := "classKinds", fn := fun _ => fun
  | [d1, d2] => { results := [.lit (.bool false)], args := [d1, d2] }
  | _ => none }
def ClassKindsWrongFalsely : Prop := classKindsRow.holds Try.pinned (OpenSpec.ofChange classKindsWrong)

/-- 'tamislaw22.ClassLetters': WHATEVER THE INPUT: true; the input reads as it did. -/
def classLettersSpec : ChangeSpec := { name := "classLetters", fn := fun _ => fun
  | [d1, d2, d3] => { results := [.lit (.bool true)], args := [d1, d2, d3] }
  | _ => none }
def classLettersRow : OpenClaim := { program := "ytllgkmacjncelaa", sum := "914c2c23a16f47661d80675f06efc7d9c9ee1522cc3ee86d95d6a58f8d176996", func := "tamis/tamislaw22.ClassLetters", spec := "classLetters", plainKeys := false, apart := false }
def ClassLettersSaid : Prop := classLettersRow.holds Try.pinned (OpenSpec.ofChange classLettersSpec)

/-- ITS FALSE NEIGHBOUR: 'it returns false'. Refute it at one input. -/
def classLettersWrong : ChangeSpec := { name := "classLetters", fn := fun _ => fun
  | [d1, d2, d3] => { results := [.lit (.bool false)], args := [d1, d2, d3] }
  | _ => none }
def ClassLettersWrongFalsely : Prop := classLettersRow.holds Try.pinned (OpenSpec.ofChange classLettersWrong)

/-- 'tamislaw20.DensityPicks': WHATEVER THE INPUT: true; the input reads as it did. -/
def densityPicksSpec : ChangeSpec := { name := "densityPicks", fn := fun _ => fun
  | [d1, d2] => { results := [.lit (.bool true)], args := [d1, d2] }
  | _ => none }
def densityPicksRow : OpenClaim := { program := "ytllgkmacjncelaa", sum := "914c2c23a16f47661d80675f06efc7d9c9ee1522cc3ee86d95d6a58f8d176996", func := "tamis/tamislaw20.DensityPicks", spec := "densityPicks", inPlace := ["math.Float64frombits", "math.Float64bits"], plainKeys := false, apart := false }
def DensityPicksSaid : Prop := densityPicksRow.holds Try.pinned (OpenSpec.ofChange densityPicksSpec)

/-- ITS FALSE NEIGHBOUR: 'it returns false'. Refute it at one input. -/
def densityPicksWrong : ChangeSpec := { name := "densityPicks", fn := fun _ => fun
  | [d1, d2] => { results := [.lit (.bool false)], args := [d1, d2] }
  | _ => none }
def DensityPicksWrongFalsely : Prop := densityPicksRow.holds Try.pinned (OpenSpec.ofChange densityPicksWrong)

/-- 'tamislaw20.DensityKeeps': WHATEVER THE INPUT: true; the input reads as it did. -/
def densityKeepsSpec : ChangeSpec := { name := "densityKeeps", fn := fun _ => fun
  | [d1, d2] => { results := [.lit (.bool true)], args := [d1, d2] }
  | _ => none }
def densityKeepsRow : OpenClaim := { program := "ytllgkmacjncelaa", sum := "914c2c23a16f47661d80675f06efc7d9c9ee1522cc3ee86d95d6a58f8d176996", func := "tamis/tamislaw20.DensityKeeps", spec := "densityKeeps", inPlace := ["math.Float64frombits", "math.Float64bits"], plainKeys := false, apart := false }
def DensityKeepsSaid : Prop := densityKeepsRow.holds Try.pinned (OpenSpec.ofChange densityKeepsSpec)

/-- ITS FALSE NEIGHBOUR: 'it returns false'. Refute it at one input. -/
def densityKeepsWrong : ChangeSpec := { name := "densityKeeps", fn := fun _ => fun
  | [d1, d2] => { results := [.lit (.bool false)], args := [d1, d2] }
  | _ => none }
def DensityKeepsWrongFalsely : Prop := densityKeepsRow.holds Try.pinned (OpenSpec.ofChange densityKeepsWrong)

/-- 'tamislaw20.DensityWidths': WHATEVER THE INPUT: true; the input reads as it did. -/
def densityWidthsSpec : ChangeSpec := { name := "densityWidths", fn := fun _ => fun
  | [d1, d2, d3, d4] => { results := [.lit (.bool true)], args := [d1, d2, d3, d4] }
  | _ => none }
def densityWidthsRow : OpenClaim := { program := "ytllgkmacjncelaa", sum := "914c2c23a16f47661d80675f06efc7d9c9ee1522cc3ee86d95d6a58f8d176996", func := "tamis/tamislaw20.DensityWidths", spec := "densityWidths", inPlace := ["math.Float64frombits", "math.Float64bits"], plainKeys := false, apart := false }
def DensityWidthsSaid : Prop := densityWidthsRow.holds Try.pinned (OpenSpec.ofChange densityWidthsSpec)

/-- ITS FALSE NEIGHBOUR: 'it returns false'. Refute it at one input. -/
def densityWidthsWrong : ChangeSpec := { name := "densityWidths", fn := fun _ => fun
  | [d1, d2, d3, d4] => { results := [.lit (.bool false)], args := [d1, d2, d3, d4] }
  | _ => none }
def DensityWidthsWrongFalsely : Prop := densityWidthsRow.holds Try.pinned (OpenSpec.ofChange densityWidthsWrong)

/-- 'tamislaw20.DensityNone': WHATEVER THE INPUT: true; the input reads as it did. -/
def densityNoneSpec : ChangeSpec := { name := "densityNone", fn := fun _ => fun
  | [d1, d2, d3] => { results := [.lit (.bool true)], args := [d1, d2, d3] }
  | _ => none }
def densityNoneRow : OpenClaim := { program := "ytllgkmacjncelaa", sum := "914c2c23a16f47661d80675f06efc7d9c9ee1522cc3ee86d95d6a58f8d176996", func := "tamis/tamislaw20.DensityNone", spec := "densityNone", inPlace := ["math.Float64frombits", "math.Float64bits"], plainKeys := false, apart := false }
def DensityNoneSaid : Prop := densityNoneRow.holds Try.pinned (OpenSpec.ofChange densityNoneSpec)

/-- ITS FALSE NEIGHBOUR: 'it returns false'. Refute it at one input. -/
def densityNoneWrong : ChangeSpec := { name := "densityNone", fn := fun _ => fun
  | [d1, d2, d3] => { results := [.lit (.bool false)], args := [d1, d2, d3] }
  | _ => none }
def DensityNoneWrongFalsely : Prop := densityNoneRow.holds Try.pinned (OpenSpec.ofChange densityNoneWrong)

/- THE SECOND FORM. 'bulk': how many values and letters a reading holds, each counted each time it is reached (what is shared counts as often as it is met; a slice's spare places count too). A statement '..UptoSaid' is the law's where the arguments, and the package variables that the reading takes, are together of bulk at most 1048576: NARROWER than '..Said'. Prove '..Said' where nothing that the law and all that it calls make is longer than what came in: it says more and counts as full. Else prove '..UptoSaid'. A law counts once. -/
mutual
def uptoBulk {H : Type} : DataW H → Nat
  | .lit (.string bytes) => bytes.length + 1
  | .lit _ => 1
  | .nil => 1
  | .ptr d => uptoBulk d + 1
  | .slice elems spare => uptoBulkAll elems + uptoBulkAll spare + 1
  | .agg parts => uptoBulkAll parts + 1
  | .iface _ d => uptoBulk d + 1
  | .map entries => uptoBulkEntries entries + 1
  | .held _ => 1
def uptoBulkAll {H : Type} : List (DataW H) → Nat
  | [] => 0
  | d :: r => uptoBulk d + uptoBulkAll r
def uptoBulkEntries {H : Type} : List (Lit × DataW H) → Nat
  | [] => 0
  | x :: r => uptoBulkEntry x + uptoBulkEntries r
def uptoBulkEntry {H : Type} : Lit × DataW H → Nat
  | (.string bytes, d) => bytes.length + uptoBulk d + 1
  | (_, d) => uptoBulk d + 1
 end
def uptoSmall : (H : Type) → List (DataW H) → Bool := fun _ ds => decide (uptoBulkAll ds ≤ 1048576)
def OpenSpec.upto (s : _root_.Go.ChangeSpec) : _root_.Go.OpenSpec := { _root_.Go.OpenSpec.ofChange s with cond := some uptoSmall }

/-- 'tamislaw22.ClassKinds', WHERE WHAT IT READS IS OF BULK AT MOST 1048576: true; the input reads as it did. -/
def classKindsUptoRow : OpenClaim := { program := "ytllgkmacjncelaa", sum := "914c2c23a16f47661d80675f06efc7d9c9ee1522cc3ee86d95d6a58f8d176996", func := "tamis/tamislaw22.ClassKinds", spec := "classKinds", plainKeys := false, apart := false, narrowed := true }
def ClassKindsUptoSaid : Prop := classKindsUptoRow.holds Try.pinned (OpenSpec.upto classKindsSpec)

/-- 'tamislaw22.ClassLetters', WHERE WHAT IT READS IS OF BULK AT MOST 1048576: true; the input reads as it did. -/
def classLettersUptoRow : OpenClaim := { program := "ytllgkmacjncelaa", sum := "914c2c23a16f47661d80675f06efc7d9c9ee1522cc3ee86d95d6a58f8d176996", func := "tamis/tamislaw22.ClassLetters", spec := "classLetters", plainKeys := false, apart := false, narrowed := true }
def ClassLettersUptoSaid : Prop := classLettersUptoRow.holds Try.pinned (OpenSpec.upto classLettersSpec)

/-- 'tamislaw20.DensityPicks', WHERE WHAT IT READS IS OF BULK AT MOST 1048576: true; the input reads as it did. -/
def densityPicksUptoRow : OpenClaim := { program := "ytllgkmacjncelaa", sum := "914c2c23a16f47661d80675f06efc7d9c9ee1522cc3ee86d95d6a58f8d176996", func := "tamis/tamislaw20.DensityPicks", spec := "densityPicks", inPlace := ["math.Float64frombits", "math.Float64bits"], plainKeys := false, apart := false, narrowed := true }
def DensityPicksUptoSaid : Prop := densityPicksUptoRow.holds Try.pinned (OpenSpec.upto densityPicksSpec)

/-- 'tamislaw20.DensityKeeps', WHERE WHAT IT READS IS OF BULK AT MOST 1048576: true; the input reads as it did. -/
def densityKeepsUptoRow : OpenClaim := { program := "ytllgkmacjncelaa", sum := "914c2c23a16f47661d80675f06efc7d9c9ee1522cc3ee86d95d6a58f8d176996", func := "tamis/tamislaw20.DensityKeeps", spec := "densityKeeps", inPlace := ["math.Float64frombits", "math.Float64bits"], plainKeys := false, apart := false, narrowed := true }
def DensityKeepsUptoSaid : Prop := densityKeepsUptoRow.holds Try.pinned (OpenSpec.upto densityKeepsSpec)

/-- 'tamislaw20.DensityWidths', WHERE WHAT IT READS IS OF BULK AT MOST 1048576: true; the input reads as it did. -/
def densityWidthsUptoRow : OpenClaim := { program := "ytllgkmacjncelaa", sum := "914c2c23a16f47661d80675f06efc7d9c9ee1522cc3ee86d95d6a58f8d176996", func := "tamis/tamislaw20.DensityWidths", spec := "densityWidths", inPlace := ["math.Float64frombits", "math.Float64bits"], plainKeys := false, apart := false, narrowed := true }
def DensityWidthsUptoSaid : Prop := densityWidthsUptoRow.holds Try.pinned (OpenSpec.upto densityWidthsSpec)

/-- 'tamislaw20.DensityNone', WHERE WHAT IT READS IS OF BULK AT MOST 1048576: true; the input reads as it did. -/
def densityNoneUptoRow : OpenClaim := { program := "ytllgkmacjncelaa", sum := "914c2c23a16f47661d80675f06efc7d9c9ee1522cc3ee86d95d6a58f8d176996", func := "tamis/tamislaw20.DensityNone", spec := "densityNone", inPlace := ["math.Float64frombits", "math.Float64bits"], plainKeys := false, apart := false, narrowed := true }
def DensityNoneUptoSaid : Prop := densityNoneUptoRow.holds Try.pinned (OpenSpec.upto densityNoneSpec)

end Rows
end Go.Proofs.Ytllgkmacjncelaa
