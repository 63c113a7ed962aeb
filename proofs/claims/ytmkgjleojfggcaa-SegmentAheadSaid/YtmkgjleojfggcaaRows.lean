/-
  No cell of these rows narrows 'for every input' (looked for: loops, veiled, ifaces, maps, wideKeys, modest, calm, conditions, laid).
  DERIVED. THE GIVEN ROWS OF THIS SEAT. 17 by the template 'for every input the law returns true; each argument reads behind the call as it read before'; 0 by the template 'total and deterministic' (their statements: YtmkgjleojfggcaaTotals.lean).
  GIVEN WITH THE SEED: the statements are not yours to turn. If you find one false, say at which input.
  Laid BY PROGRAM, IN A SANDBOX (cutbox-rows.mjs): the forced cells as the released guide's own fill.sh prints them over the translation 3beb3d82b1578c7e… (all of the seat's roots in one cut). By AI agents, Wed Nov 11 2026. No macro, syntax, notation, axiom, sorry.
-/
import Derived.Test.YtmkgjleojfggcaaChecked
import GoSem.Claim
import GoSem.ClaimJoined
import GoSem.ClaimMapViews
import Derived.JoinedTies
import Derived.KernelRfl
namespace Go.Proofs.Ytmkgjleojfggcaa
/- THE CELL 'sum', in the pinned program and in every row, IS THE sha256 OF THE DUMP (.gsa) THAT YtmkgjleojfggcaaProg.lean LOADS. Nothing in Lean hashes anything: it is a label: what it is worth is what the hold of that sum in a sandbox is worth. -/
noncomputable def Try.pinned : Pinned := { name := "ytmkgjleojfggcaa", sum := "3beb3d82b1578c7e796592e7bc348814fcddaf5bedcef04d24bc6095cba016bb", checked := Try.checked }
namespace Rows
def none {H : Type} : Left H := { results := [], args := [] }

/-- 'tamislaw12.RecordTells': WHATEVER THE INPUT: true; the input reads as it did. -/
def recordTellsSpec : ChangeSpec := { name := "recordTells", fn := fun _ => fun
  | [d] => { results := [.lit (.bool true)], args := [d] }
  | _ => none }
def recordTellsRow : OpenClaim := { program := "ytmkgjleojfggcaa", sum := "3beb3d82b1578c7e796592e7bc348814fcddaf5bedcef04d24bc6095cba016bb", func := "tamis/tamislaw12.RecordTells", spec := "recordTells", inPlace := ["internal/bytealg.IndexByteString"], apart := false }
def RecordTellsSaid : Prop := recordTellsRow.holds Try.pinned (OpenSpec.ofChange recordTellsSpec)

/-- ITS FALSE NEIGHBOUR: 'it returns false'. Refute it at one input. -/
def recordTellsWrong : ChangeSpec := { name := "recordTells", fn := fun _ => fun
  | [d] => { results := [.lit (.bool false)], args := [d] }
  | _ => none }
def RecordTellsWrongFalsely : Prop := recordTellsRow.holds Try.pinned (OpenSpec.ofChange recordTellsWrong)

/-- 'tamislaw12.RecordPaths': WHATEVER THE INPUT: true; the input reads as it did. -/
def recordPathsSpec : ChangeSpec := { name := "recordPaths", fn := fun _ => fun
  | [d1, d2, d3] => { results := [.lit (.bool true)], args := [d1, d2, d3] }
  | _ => none }
def recordPathsRow : OpenClaim := { program := "ytmkgjleojfggcaa", sum := "3beb3d82b1578c7e796592e7bc348814fcddaf5bedcef04d24bc6095cba016bb", func := "tamis/tamislaw12.RecordPaths", spec := "recordPaths", inPlace := ["internal/bytealg.IndexByteString"], apart := false }
def RecordPathsSaid : Prop := recordPathsRow.holds Try.pinned (OpenSpec.ofChange recordPathsSpec)

/-- ITS FALSE NEIGHBOUR: 'it returns false'. Refute it at one input. -/
def recordPathsWrong : ChangeSpec := { name := "recordPaths", fn := fun _ => fun
  | [d1, d2, d3] => { results := [.lit (.bool false)], args := [d1, d2, d3] }
  | _ => none }
def RecordPathsWrongFalsely : Prop := recordPathsRow.holds Try.pinned (OpenSpec.ofChange recordPathsWrong)

/-- 'tamislaw12.RecordShort': WHATEVER THE INPUT: true; the input reads as it did. -/
def recordShortSpec : ChangeSpec := { name := "recordShort", fn := fun _ => fun
  | [d1, d2] => { results := [.lit (.bool true)], args := [d1, d2] }
  | _ => none }
def recordShortRow : OpenClaim := { program := "ytmkgjleojfggcaa", sum := "3beb3d82b1578c7e796592e7bc348814fcddaf5bedcef04d24bc6095cba016bb", func := "tamis/tamislaw12.RecordShort", spec := "recordShort", inPlace := ["internal/bytealg.IndexByteString"], apart := false }
def RecordShortSaid : Prop := recordShortRow.holds Try.pinned (OpenSpec.ofChange recordShortSpec)

/-- ITS FALSE NEIGHBOUR: 'it returns false'. Refute it at one input. -/
def recordShortWrong : ChangeSpec := { name := "recordShort", fn := fun _ => fun
  | [d1, d2] => { results := [.lit (.bool false)], args := [d1, d2] }
  | _ => none }
def RecordShortWrongFalsely : Prop := recordShortRow.holds Try.pinned (OpenSpec.ofChange recordShortWrong)

/-- 'tamislaw12.RecordDots': WHATEVER THE INPUT: true; the input reads as it did. -/
def recordDotsSpec : ChangeSpec := { name := "recordDots", fn := fun _ => fun
  | [d1, d2] => { results := [.lit (.bool true)], args := [d1, d2] }
  | _ => none }
def recordDotsRow : OpenClaim := { program := "ytmkgjleojfggcaa", sum := "3beb3d82b1578c7e796592e7bc348814fcddaf5bedcef04d24bc6095cba016bb", func := "tamis/tamislaw12.RecordDots", spec := "recordDots", inPlace := ["internal/bytealg.IndexByteString"], apart := false }
def RecordDotsSaid : Prop := recordDotsRow.holds Try.pinned (OpenSpec.ofChange recordDotsSpec)

/-- ITS FALSE NEIGHBOUR: 'it returns false'. Refute it at one input. -/
def recordDotsWrong : ChangeSpec := { name := "recordDots", fn := fun _ => fun
  | [d1, d2] => { results := [.lit (.bool false)], args := [d1, d2] }
  | _ => none }
def RecordDotsWrongFalsely : Prop := recordDotsRow.holds Try.pinned (OpenSpec.ofChange recordDotsWrong)

/-- 'tamislaw12.RecordSame': WHATEVER THE INPUT: true; the input reads as it did. -/
def recordSameSpec : ChangeSpec := { name := "recordSame", fn := fun _ => fun
  | [d1, d2, d3] => { results := [.lit (.bool true)], args := [d1, d2, d3] }
  | _ => none }
def recordSameRow : OpenClaim := { program := "ytmkgjleojfggcaa", sum := "3beb3d82b1578c7e796592e7bc348814fcddaf5bedcef04d24bc6095cba016bb", func := "tamis/tamislaw12.RecordSame", spec := "recordSame", inPlace := ["internal/bytealg.IndexByteString"], apart := false }
def RecordSameSaid : Prop := recordSameRow.holds Try.pinned (OpenSpec.ofChange recordSameSpec)

/-- ITS FALSE NEIGHBOUR: 'it returns false'. Refute it at one input. -/
def recordSameWrong : ChangeSpec := { name := "recordSame", fn := fun _ => fun
  | [d1, d2, d3] => { results := [.lit (.bool false)], args := [d1, d2, d3] }
  | _ => none }
def RecordSameWrongFalsely : Prop := recordSameRow.holds Try.pinned (OpenSpec.ofChange recordSameWrong)

/-- 'tamislaw03.PercentTells': WHATEVER THE INPUT: true; the input reads as it did. -/
def percentTellsSpec : ChangeSpec := { name := "percentTells", fn := fun _ => fun
  | [d1, d2, d3] => { results := [.lit (.bool true)], args := [d1, d2, d3] }
  | _ => none }
def percentTellsRow : OpenClaim := { program := "ytmkgjleojfggcaa", sum := "3beb3d82b1578c7e796592e7bc348814fcddaf5bedcef04d24bc6095cba016bb", func := "tamis/tamislaw03.PercentTells", spec := "percentTells", inPlace := ["internal/bytealg.IndexByteString", "internal/abi.NoEscape"], recurses := true, apart := false }
def PercentTellsSaid : Prop := percentTellsRow.holds Try.pinned (OpenSpec.ofChange percentTellsSpec)

/-- ITS FALSE NEIGHBOUR: 'it returns false'. Refute it at one input. -/
def percentTellsWrong : ChangeSpec := { name := "percentTells", fn := fun _ => fun
  | [d1, d2, d3] => { results := [.lit (.bool false)], args := [d1, d2, d3] }
  | _ => none }
def PercentTellsWrongFalsely : Prop := percentTellsRow.holds Try.pinned (OpenSpec.ofChange percentTellsWrong)

/-- 'tamislaw03.PercentBack': WHATEVER THE INPUT: true; the input reads as it did. -/
def percentBackSpec : ChangeSpec := { name := "percentBack", fn := fun _ => fun
  | [d1, d2] => { results := [.lit (.bool true)], args := [d1, d2] }
  | _ => none }
def percentBackRow : OpenClaim := { program := "ytmkgjleojfggcaa", sum := "3beb3d82b1578c7e796592e7bc348814fcddaf5bedcef04d24bc6095cba016bb", func := "tamis/tamislaw03.PercentBack", spec := "percentBack", inPlace := ["internal/bytealg.IndexByteString", "internal/abi.NoEscape"], recurses := true, apart := false }
def PercentBackSaid : Prop := percentBackRow.holds Try.pinned (OpenSpec.ofChange percentBackSpec)

/-- ITS FALSE NEIGHBOUR: 'it returns false'. Refute it at one input. -/
def percentBackWrong : ChangeSpec := { name := "percentBack", fn := fun _ => fun
  | [d1, d2] => { results := [.lit (.bool false)], args := [d1, d2] }
  | _ => none }
def PercentBackWrongFalsely : Prop := percentBackRow.holds Try.pinned (OpenSpec.ofChange percentBackWrong)

/-- 'tamislaw03.PercentOnce': WHATEVER THE INPUT: true; the input reads as it did. -/
def percentOnceSpec : ChangeSpec := { name := "percentOnce", fn := fun _ => fun
  | [d1, d2] => { results := [.lit (.bool true)], args := [d1, d2] }
  | _ => none }
def percentOnceRow : OpenClaim := { program := "ytmkgjleojfggcaa", sum := "3beb3d82b1578c7e796592e7bc348814fcddaf5bedcef04d24bc6095cba016bb", func := "tamis/tamislaw03.PercentOnce", spec := "percentOnce", inPlace := ["internal/bytealg.IndexByteString", "internal/abi.NoEscape"], recurses := true, apart := false }
def PercentOnceSaid : Prop := percentOnceRow.holds Try.pinned (OpenSpec.ofChange percentOnceSpec)

/-- ITS FALSE NEIGHBOUR: 'it returns false'. Refute it at one input. -/
def percentOnceWrong : ChangeSpec := { name := "percentOnce", fn := fun _ => fun
  | [d1, d2] => { results := [.lit (.bool false)], args := [d1, d2] }
  | _ => none }
def PercentOnceWrongFalsely : Prop := percentOnceRow.holds Try.pinned (OpenSpec.ofChange percentOnceWrong)

/-- 'tamislaw03.PercentParts': WHATEVER THE INPUT: true; the input reads as it did. -/
def percentPartsSpec : ChangeSpec := { name := "percentParts", fn := fun _ => fun
  | [d1, d2, d3] => { results := [.lit (.bool true)], args := [d1, d2, d3] }
  | _ => none }
def percentPartsRow : OpenClaim := { program := "ytmkgjleojfggcaa", sum := "3beb3d82b1578c7e796592e7bc348814fcddaf5bedcef04d24bc6095cba016bb", func := "tamis/tamislaw03.PercentParts", spec := "percentParts", inPlace := ["internal/bytealg.IndexByteString", "internal/abi.NoEscape"], recurses := true, apart := false }
def PercentPartsSaid : Prop := percentPartsRow.holds Try.pinned (OpenSpec.ofChange percentPartsSpec)

/-- ITS FALSE NEIGHBOUR: 'it returns false'. Refute it at one input. -/
def percentPartsWrong : ChangeSpec := { name := "percentParts", fn := fun _ => fun
  | [d1, d2, d3] => { results := [.lit (.bool false)], args := [d1, d2, d3] }
  | _ => none }
def PercentPartsWrongFalsely : Prop := percentPartsRow.holds Try.pinned (OpenSpec.ofChange percentPartsWrong)

/-- 'tamislaw03.PercentShort': WHATEVER THE INPUT: true; the input reads as it did. -/
def percentShortSpec : ChangeSpec := { name := "percentShort", fn := fun _ => fun
  | [d1, d2] => { results := [.lit (.bool true)], args := [d1, d2] }
  | _ => none }
def percentShortRow : OpenClaim := { program := "ytmkgjleojfggcaa", sum := "3beb3d82b1578c7e796592e7bc348814fcddaf5bedcef04d24bc6095cba016bb", func := "tamis/tamislaw03.PercentShort", spec := "percentShort", inPlace := ["internal/bytealg.IndexByteString", "internal/abi.NoEscape"], recurses := true, apart := false }
def PercentShortSaid : Prop := percentShortRow.holds Try.pinned (OpenSpec.ofChange percentShortSpec)

/-- ITS FALSE NEIGHBOUR: 'it returns false'. Refute it at one input. -/
def percentShortWrong : ChangeSpec := { name := "percentShort", fn := fun _ => fun
  | [d1, d2] => { results := [.lit (.bool false)], args := [d1, d2] }
  | _ => none }
def PercentShortWrongFalsely : Prop := percentShortRow.holds Try.pinned (OpenSpec.ofChange percentShortWrong)

/-- 'tamislaw03.PercentSets': WHATEVER THE INPUT: true; the input reads as it did. -/
def percentSetsSpec : ChangeSpec := { name := "percentSets", fn := fun _ => fun
  | [d] => { results := [.lit (.bool true)], args := [d] }
  | _ => none }
def percentSetsRow : OpenClaim := { program := "ytmkgjleojfggcaa", sum := "3beb3d82b1578c7e796592e7bc348814fcddaf5bedcef04d24bc6095cba016bb", func := "tamis/tamislaw03.PercentSets", spec := "percentSets", inPlace := ["internal/bytealg.IndexByteString", "internal/abi.NoEscape"], recurses := true, apart := false }
def PercentSetsSaid : Prop := percentSetsRow.holds Try.pinned (OpenSpec.ofChange percentSetsSpec)

/-- ITS FALSE NEIGHBOUR: 'it returns false'. Refute it at one input. -/
def percentSetsWrong : ChangeSpec := { name := "percentSets", fn := fun _ => fun
  | [d] => { results := [.lit (.bool false)], args := [d] }
  | _ => none }
def PercentSetsWrongFalsely : Prop := percentSetsRow.holds Try.pinned (OpenSpec.ofChange percentSetsWrong)

/-- 'tamislaw16.SegmentTells': WHATEVER THE INPUT: true; the input reads as it did. -/
def segmentTellsSpec : ChangeSpec := { name := "segmentTells", fn := fun _ => fun
  | [d1, d2, d3, d4] => { results := [.lit (.bool true)], args := [d1, d2, d3, d4] }
  | _ => none }
def segmentTellsRow : OpenClaim := { program := "ytmkgjleojfggcaa", sum := "3beb3d82b1578c7e796592e7bc348814fcddaf5bedcef04d24bc6095cba016bb", func := "tamis/tamislaw16.SegmentTells", spec := "segmentTells", inPlace := ["internal/bytealg.IndexByteString", "internal/abi.NoEscape"], recurses := true, apart := false }
def SegmentTellsSaid : Prop := segmentTellsRow.holds Try.pinned (OpenSpec.ofChange segmentTellsSpec)

/-- ITS FALSE NEIGHBOUR: 'it returns false'. Refute it at one input. -/
def segmentTellsWrong : ChangeSpec := { name := "segmentTells", fn := fun _ => fun
  | [d1, d2, d3, d4] => { results := [.lit (.bool false)], args := [d1, d2, d3, d4] }
  | _ => none }
def SegmentTellsWrongFalsely : Prop := segmentTellsRow.holds Try.pinned (OpenSpec.ofChange segmentTellsWrong)

/-- 'tamislaw16.SegmentBack': WHATEVER THE INPUT: true; the input reads as it did. -/
def segmentBackSpec : ChangeSpec := { name := "segmentBack", fn := fun _ => fun
  | [d1, d2] => { results := [.lit (.bool true)], args := [d1, d2] }
  | _ => none }
def segmentBackRow : OpenClaim := { program := "ytmkgjleojfggcaa", sum := "3beb3d82b1578c7e796592e7bc348814fcddaf5bedcef04d24bc6095cba016bb", func := "tamis/tamislaw16.SegmentBack", spec := "segmentBack", inPlace := ["internal/bytealg.IndexByteString", "internal/abi.NoEscape"], recurses := true, apart := false }
def SegmentBackSaid : Prop := segmentBackRow.holds Try.pinned (OpenSpec.ofChange segmentBackSpec)

/-- ITS FALSE NEIGHBOUR: 'it returns false'. Refute it at one input. -/
def segmentBackWrong : ChangeSpec := { name := "segmentBack", fn := fun _ => fun
  | [d1, d2] => { results := [.lit (.bool false)], args := [d1, d2] }
  | _ => none }
def SegmentBackWrongFalsely : Prop := segmentBackRow.holds Try.pinned (OpenSpec.ofChange segmentBackWrong)

/-- 'tamislaw16.SegmentSteps': WHATEVER THE INPUT: true; the input reads as it did. -/
def segmentStepsSpec : ChangeSpec := { name := "segmentSteps", fn := fun _ => fun
  | [d1, d2, d3, d4] => { results := [.lit (.bool true)], args := [d1, d2, d3, d4] }
  | _ => none }
def segmentStepsRow : OpenClaim := { program := "ytmkgjleojfggcaa", sum := "3beb3d82b1578c7e796592e7bc348814fcddaf5bedcef04d24bc6095cba016bb", func := "tamis/tamislaw16.SegmentSteps", spec := "segmentSteps", inPlace := ["internal/bytealg.IndexByteString", "internal/abi.NoEscape"], recurses := true, apart := false }
def SegmentStepsSaid : Prop := segmentStepsRow.holds Try.pinned (OpenSpec.ofChange segmentStepsSpec)

/-- ITS FALSE NEIGHBOUR: 'it returns false'. Refute it at one input. -/
def segmentStepsWrong : ChangeSpec := { name := "segmentSteps", fn := fun _ => fun
  | [d1, d2, d3, d4] => { results := [.lit (.bool false)], args := [d1, d2, d3, d4] }
  | _ => none }
def SegmentStepsWrongFalsely : Prop := segmentStepsRow.holds Try.pinned (OpenSpec.ofChange segmentStepsWrong)

/-- 'tamislaw16.SegmentUp': WHATEVER THE INPUT: true; the input reads as it did. -/
def segmentUpSpec : ChangeSpec := { name := "segmentUp", fn := fun _ => fun
  | [d1, d2, d3, d4] => { results := [.lit (.bool true)], args := [d1, d2, d3, d4] }
  | _ => none }
def segmentUpRow : OpenClaim := { program := "ytmkgjleojfggcaa", sum := "3beb3d82b1578c7e796592e7bc348814fcddaf5bedcef04d24bc6095cba016bb", func := "tamis/tamislaw16.SegmentUp", spec := "segmentUp", inPlace := ["internal/bytealg.IndexByteString", "internal/abi.NoEscape"], recurses := true, apart := false }
def SegmentUpSaid : Prop := segmentUpRow.holds Try.pinned (OpenSpec.ofChange segmentUpSpec)

/-- ITS FALSE NEIGHBOUR: 'it returns false'. Refute it at one input. -/
def segmentUpWrong : ChangeSpec := { name := "segmentUp", fn := fun _ => fun
  | [d1, d2, d3, d4] => { results := [.lit (.bool false)], args := [d1, d2, d3, d4] }
  | _ => none }
def SegmentUpWrongFalsely : Prop := segmentUpRow.holds Try.pinned (OpenSpec.ofChange segmentUpWrong)

/-- 'tamislaw16.SegmentSplit': WHATEVER THE INPUT: true; the input reads as it did. -/
def segmentSplitSpec : ChangeSpec := { name := "segmentSplit", fn := fun _ => fun
  | [d1, d2] => { results := [.lit (.bool true)], args := [d1, d2] }
  | _ => none }
def segmentSplitRow : OpenClaim := { program := "ytmkgjleojfggcaa", sum := "3beb3d82b1578c7e796592e7bc348814fcddaf5bedcef04d24bc6095cba016bb", func := "tamis/tamislaw16.SegmentSplit", spec := "segmentSplit", inPlace := ["internal/bytealg.IndexByteString", "internal/abi.NoEscape"], recurses := true, apart := false }
def SegmentSplitSaid : Prop := segmentSplitRow.holds Try.pinned (OpenSpec.ofChange segmentSplitSpec)

/-- ITS FALSE NEIGHBOUR: 'it returns false'. Refute it at one input. -/
def segmentSplitWrong : ChangeSpec := { name := "segmentSplit", fn := fun _ => fun
  | [d1, d2] => { results := [.lit (.bool false)], args := [d1, d2] }
  | _ => none }
def SegmentSplitWrongFalsely : Prop := segmentSplitRow.holds Try.pinned (OpenSpec.ofChange segmentSplitWrong)

/-- 'tamislaw16.SegmentAhead': WHATEVER THE INPUT: true; the input reads as it did. -/
def segmentAheadSpec : ChangeSpec := { name := "segmentAhead", fn := fun _ => fun
  | [d1, d2, d3] => { results := [.lit (.bool true)], args := [d1, d2, d3] }
  | _ => none }
def segmentAheadRow : OpenClaim := { program := "ytmkgjleojfggcaa", sum := "3beb3d82b1578c7e796592e7bc348814fcddaf5bedcef04d24bc6095cba016bb", func := "tamis/tamislaw16.SegmentAhead", spec := "segmentAhead", inPlace := ["internal/bytealg.IndexByteString", "internal/abi.NoEscape"], recurses := true, apart := false }
def SegmentAheadSaid : Prop := segmentAheadRow.holds Try.pinned (OpenSpec.ofChange segmentAheadSpec)

/-- ITS FALSE NEIGHBOUR: 'it returns false'. Refute it at one input. -/
def segmentAheadWrong : ChangeSpec := { name := "segmentAhead", fn := fun _ => fun
  | [d1, d2, d3] => { results := [.lit (.bool false)], args := [d1, d2, d3] }
  | _ => none }
def SegmentAheadWrongFalsely : Prop := segmentAheadRow.holds Try.pinned (OpenSpec.ofChange segmentAheadWrong)

/- THE SECOND FORM. 'bulk': how many values and letters a reading holds, each counted each time it is reached (what is shared counts as often as it is met; a slice's spare places count too). A statement '..UptoSaid' is the law's where the arguments, and the package variables that the reading takes, are together of bulk at most 1048576: NARROWER than '..Said'. Prove '..Said' where nothing that the law and all that it calls make is longer than what came in: it says more and counts as full. Else prove '..UptoSaid'. A law counts once. -/
mutual
def uptoBulk {H : Type} : DataW H → Nat
  | .lit (.string bytes) => bytes.length + 1
  | .lit _ => 1
  | .nil => 1
  | .ptr d => uptoBulk d + 1
  | .slice elems spare => uptoBulkAll elems + uptoBulkAll spare + 1
  | .agg parts => uptoBulkAll parts + 1
  | .iface _ d => uptoBulk d + 1
  | .map entries => uptoBulkEntries entries + 1
  | .held _ => 1
def uptoBulkAll {H : Type} : List (DataW H) → Nat
  | [] => 0
  | d :: r => uptoBulk d + uptoBulkAll r
def uptoBulkEntries {H : Type} : List (Lit × DataW H) → Nat
  | [] => 0
  | x :: r => uptoBulkEntry x + uptoBulkEntries r
def uptoBulkEntry {H : Type} : Lit × DataW H → Nat
  | (.string bytes, d) => bytes.length + uptoBulk d + 1
  | (_, d) => uptoBulk d + 1
 end
def uptoSmall : (H : Type) → List (DataW H) → Bool := fun _ ds => decide (uptoBulkAll ds ≤ 1048576)
def OpenSpec.upto (s : _root_.Go.ChangeSpec) : _root_.Go.OpenSpec := { _root_.Go.OpenSpec.ofChange s with cond := some uptoSmall }

/-- 'tamislaw12.RecordTells', WHERE WHAT IT READS IS OF BULK AT MOST 1048576: true; the input reads as it did. -/
def recordTellsUptoRow : OpenClaim := { program := "ytmkgjleojfggcaa", sum := "3beb3d82b1578c7e796592e7bc348814fcddaf5bedcef04d24bc6095cba016bb", func := "tamis/tamislaw12.RecordTells", spec := "recordTells", inPlace := ["internal/bytealg.IndexByteString"], apart := false, narrowed := true }
def RecordTellsUptoSaid : Prop := recordTellsUptoRow.holds Try.pinned (OpenSpec.upto recordTellsSpec)

/-- 'tamislaw12.RecordPaths', WHERE WHAT IT READS IS OF BULK AT MOST 1048576: true; the input reads as it did. -/
def recordPathsUptoRow : OpenClaim := { program := "ytmkgjleojfggcaa", sum := "3beb3d82b1578c7e796592e7bc348814fcddaf5bedcef04d24bc6095cba016bb", func := "tamis/tamislaw12.RecordPaths", spec := "recordPaths", inPlace := ["internal/bytealg.IndexByteString"], apart := false, narrowed := true }
def RecordPathsUptoSaid : Prop := recordPathsUptoRow.holds Try.pinned (OpenSpec.upto recordPathsSpec)

/-- 'tamislaw12.RecordShort', WHERE WHAT IT READS IS OF BULK AT MOST 1048576: true; the input reads as it did. -/
def recordShortUptoRow : OpenClaim := { program := "ytmkgjleojfggcaa", sum := "3beb3d82b1578c7e796592e7bc348814fcddaf5bedcef04d24bc6095cba016bb", func := "tamis/tamislaw12.RecordShort", spec := "recordShort", inPlace := ["internal/bytealg.IndexByteString"], apart := false, narrowed := true }
def RecordShortUptoSaid : Prop := recordShortUptoRow.holds Try.pinned (OpenSpec.upto recordShortSpec)

/-- 'tamislaw12.RecordDots', WHERE WHAT IT READS IS OF BULK AT MOST 1048576: true; the input reads as it did. -/
def recordDotsUptoRow : OpenClaim := { program := "ytmkgjleojfggcaa", sum := "3beb3d82b1578c7e796592e7bc348814fcddaf5bedcef04d24bc6095cba016bb", func := "tamis/tamislaw12.RecordDots", spec := "recordDots", inPlace := ["internal/bytealg.IndexByteString"], apart := false, narrowed := true }
def RecordDotsUptoSaid : Prop := recordDotsUptoRow.holds Try.pinned (OpenSpec.upto recordDotsSpec)

/-- 'tamislaw12.RecordSame', WHERE WHAT IT READS IS OF BULK AT MOST 1048576: true; the input reads as it did. -/
def recordSameUptoRow : OpenClaim := { program := "ytmkgjleojfggcaa", sum := "3beb3d82b1578c7e796592e7bc348814fcddaf5bedcef04d24bc6095cba016bb", func := "tamis/tamislaw12.RecordSame", spec := "recordSame", inPlace := ["internal/bytealg.IndexByteString"], apart := false, narrowed := true }
def RecordSameUptoSaid : Prop := recordSameUptoRow.holds Try.pinned (OpenSpec.upto recordSameSpec)

/-- 'tamislaw03.PercentTells', WHERE WHAT IT READS IS OF BULK AT MOST 1048576: true; the input reads as it did. -/
def percentTellsUptoRow : OpenClaim := { program := "ytmkgjleojfggcaa", sum := "3beb3d82b1578c7e796592e7bc348814fcddaf5bedcef04d24bc6095cba016bb", func := "tamis/tamislaw03.PercentTells", spec := "percentTells", inPlace := ["internal/bytealg.IndexByteString", "internal/abi.NoEscape"], recurses := true, apart := false, narrowed := true }
def PercentTellsUptoSaid : Prop := percentTellsUptoRow.holds Try.pinned (OpenSpec.upto percentTellsSpec)

/-- 'tamislaw03.PercentBack', WHERE WHAT IT READS IS OF BULK AT MOST 1048576: true; the input reads as it did. -/
def percentBackUptoRow : OpenClaim := { program := "ytmkgjleojfggcaa", sum := "3beb3d82b1578c7e796592e7bc348814fcddaf5bedcef04d24bc6095cba016bb", func := "tamis/tamislaw03.PercentBack", spec := "percentBack", inPlace := ["internal/bytealg.IndexByteString", "internal/abi.NoEscape"], recurses := true, apart := false, narrowed := true }
def PercentBackUptoSaid : Prop := percentBackUptoRow.holds Try.pinned (OpenSpec.upto percentBackSpec)

/-- 'tamislaw03.PercentOnce', WHERE WHAT IT READS IS OF BULK AT MOST 1048576: true; the input reads as it did. -/
def percentOnceUptoRow : OpenClaim := { program := "ytmkgjleojfggcaa", sum := "3beb3d82b1578c7e796592e7bc348814fcddaf5bedcef04d24bc6095cba016bb", func := "tamis/tamislaw03.PercentOnce", spec := "percentOnce", inPlace := ["internal/bytealg.IndexByteString", "internal/abi.NoEscape"], recurses := true, apart := false, narrowed := true }
def PercentOnceUptoSaid : Prop := percentOnceUptoRow.holds Try.pinned (OpenSpec.upto percentOnceSpec)

/-- 'tamislaw03.PercentParts', WHERE WHAT IT READS IS OF BULK AT MOST 1048576: true; the input reads as it did. -/
def percentPartsUptoRow : OpenClaim := { program := "ytmkgjleojfggcaa", sum := "3beb3d82b1578c7e796592e7bc348814fcddaf5bedcef04d24bc6095cba016bb", func := "tamis/tamislaw03.PercentParts", spec := "percentParts", inPlace := ["internal/bytealg.IndexByteString", "internal/abi.NoEscape"], recurses := true, apart := false, narrowed := true }
def PercentPartsUptoSaid : Prop := percentPartsUptoRow.holds Try.pinned (OpenSpec.upto percentPartsSpec)

/-- 'tamislaw03.PercentShort', WHERE WHAT IT READS IS OF BULK AT MOST 1048576: true; the input reads as it did. -/
def percentShortUptoRow : OpenClaim := { program := "ytmkgjleojfggcaa", sum := "3beb3d82b1578c7e796592e7bc348814fcddaf5bedcef04d24bc6095cba016bb", func := "tamis/tamislaw03.PercentShort", spec := "percentShort", inPlace := ["internal/bytealg.IndexByteString", "internal/abi.NoEscape"], recurses := true, apart := false, narrowed := true }
def PercentShortUptoSaid : Prop := percentShortUptoRow.holds Try.pinned (OpenSpec.upto percentShortSpec)

/-- 'tamislaw03.PercentSets', WHERE WHAT IT READS IS OF BULK AT MOST 1048576: true; the input reads as it did. -/
def percentSetsUptoRow : OpenClaim := { program := "ytmkgjleojfggcaa", sum := "3beb3d82b1578c7e796592e7bc348814fcddaf5bedcef04d24bc6095cba016bb", func := "tamis/tamislaw03.PercentSets", spec := "percentSets", inPlace := ["internal/bytealg.IndexByteString", "internal/abi.NoEscape"], recurses := true, apart := false, narrowed := true }
def PercentSetsUptoSaid : Prop := percentSetsUptoRow.holds Try.pinned (OpenSpec.upto percentSetsSpec)

/-- 'tamislaw16.SegmentTells', WHERE WHAT IT READS IS OF BULK AT MOST 1048576: true; the input reads as it did. -/
def segmentTellsUptoRow : OpenClaim := { program := "ytmkgjleojfggcaa", sum := "3beb3d82b1578c7e796592e7bc348814fcddaf5bedcef04d24bc6095cba016bb", func := "tamis/tamislaw16.SegmentTells", spec := "segmentTells", inPlace := ["internal/bytealg.IndexByteString", "internal/abi.NoEscape"], recurses := true, apart := false, narrowed := true }
def SegmentTellsUptoSaid : Prop := segmentTellsUptoRow.holds Try.pinned (OpenSpec.upto segmentTellsSpec)

/-- 'tamislaw16.SegmentBack', WHERE WHAT IT READS IS OF BULK AT MOST 1048576: true; the input reads as it did. -/
def segmentBackUptoRow : OpenClaim := { program := "ytmkgjleojfggcaa", sum := "3beb3d82b1578c7e796592e7bc348814fcddaf5bedcef04d24bc6095cba016bb", func := "tamis/tamislaw16.SegmentBack", spec := "segmentBack", inPlace := ["internal/bytealg.IndexByteString", "internal/abi.NoEscape"], recurses := true, apart := false, narrowed := true }
def SegmentBackUptoSaid : Prop := segmentBackUptoRow.holds Try.pinned (OpenSpec.upto segmentBackSpec)

/-- 'tamislaw16.SegmentSteps', WHERE WHAT IT READS IS OF BULK AT MOST 1048576: true; the input reads as it did. -/
def segmentStepsUptoRow : OpenClaim := { program := "ytmkgjleojfggcaa", sum := "3beb3d82b1578c7e796592e7bc348814fcddaf5bedcef04d24bc6095cba016bb", func := "tamis/tamislaw16.SegmentSteps", spec := "segmentSteps", inPlace := ["internal/bytealg.IndexByteString", "internal/abi.NoEscape"], recurses := true, apart := false, narrowed := true }
def SegmentStepsUptoSaid : Prop := segmentStepsUptoRow.holds Try.pinned (OpenSpec.upto segmentStepsSpec)

/-- 'tamislaw16.SegmentUp', WHERE WHAT IT READS IS OF BULK AT MOST 1048576: true; the input reads as it did. -/
def segmentUpUptoRow : OpenClaim := { program := "ytmkgjleojfggcaa", sum := "3beb3d82b1578c7e796592e7bc348814fcddaf5bedcef04d24bc6095cba016bb", func := "tamis/tamislaw16.SegmentUp", spec := "segmentUp", inPlace := ["internal/bytealg.IndexByteString", "internal/abi.NoEscape"], recurses := true, apart := false, narrowed := true }
def SegmentUpUptoSaid : Prop := segmentUpUptoRow.holds Try.pinned (OpenSpec.upto segmentUpSpec)

/-- 'tamislaw16.SegmentSplit', WHERE WHAT IT READS IS OF BULK AT MOST 1048576: true; the input reads as it did. -/
def segmentSplitUptoRow : OpenClaim := { program := "ytmkgjleojfggcaa", sum := "3beb3d82b1578c7e796592e7bc348814fcddaf5bedcef04d24bc6095cba016bb", func := "tamis/tamislaw16.SegmentSplit", spec := "segmentSplit", inPlace := ["internal/bytealg.IndexByteString", "internal/abi.NoEscape"], recurses := true, apart := false, narrowed := true }
def SegmentSplitUptoSaid : Prop := segmentSplitUptoRow.holds Try.pinned (OpenSpec.upto segmentSplitSpec)

/-- 'tamislaw16.SegmentAhead', WHERE WHAT IT READS IS OF BULK AT MOST 1048576: true; the input reads as it did. -/
def segmentAheadUptoRow : OpenClaim := { program := "ytmkgjleojfggcaa", sum := "3beb3d82b1578c7e796592e7bc348814fcddaf5bedcef04d24bc6095cba016bb", func := "tamis/tamislaw16.SegmentAhead", spec := "segmentAhead", inPlace := ["internal/bytealg.IndexByteString", "internal/abi.NoEscape"], recurses := true, apart := false, narrowed := true }
def SegmentAheadUptoSaid : Prop := segmentAheadUptoRow.holds Try.pinned (OpenSpec.upto segmentAheadSpec)

end Rows
end Go.Proofs.Ytmkgjleojfggcaa
