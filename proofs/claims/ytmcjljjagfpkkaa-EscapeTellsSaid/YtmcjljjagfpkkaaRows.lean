/-
  No cell of these rows narrows 'for every input' (looked for: loops, veiled, ifaces, maps, wideKeys, modest, calm, conditions, laid).
  DERIVED. THE GIVEN ROWS OF THIS SEAT. 10 by the template 'for every input the law returns true; each argument reads behind the call as it read before'; 0 by the template 'total and deterministic' (their statements: YtmcjljjagfpkkaaTotals.lean).
  GIVEN WITH THE SEED: the statements are not yours to turn. If you find one false, say at which input.
  Laid BY PROGRAM, IN A SANDBOX (cutbox-rows.mjs): the forced cells as the released guide's own fill.sh prints them over the translation 0e2f98d72fc2405d… (all of the seat's roots in one cut). By AI agents, Wed Nov 11 2026. No macro, syntax, notation, axiom, sorry.
-/
import Derived.Test.YtmcjljjagfpkkaaChecked
import GoSem.Claim
import GoSem.ClaimJoined
import GoSem.ClaimMapViews
import Derived.JoinedTies
import Derived.KernelRfl
namespace Go.Proofs.Ytmcjljjagfpkkaa
/- THE CELL 'sum', in the pinned program and in every row, IS THE sha256 OF THE DUMP (.gsa) THAT YtmcjljjagfpkkaaProg.lean LOADS. Nothing in Lean hashes anything: it is a label: what it is worth is what the hold of that sum in a sandbox is worth. -/
noncomputable def Try.pinned : Pinned := { name := "ytmcjljjagfpkkaa", sum := "0e2f98d72fc2405da41de928c00849955591ebfd24983b0584f38dee2c6ab4eb", checked := Try.checked }
namespace Rows
def none {H : Type} : Left H := { results := [], args := [] }

/-- 'tamislaw05.EntityTells': WHATEVER THE INPUT: true; the input reads as it did. -/
def entityTellsSpec : ChangeSpec := { name := "entityTells", fn := fun _ => fun
  | [d1, d2] => { results := [.lit (.bool true)], args := [d1, d2] }
  | _ => none }
def entityTellsRow : OpenClaim := { program := "ytmcjljjagfpkkaa", sum := "0e2f98d72fc2405da41de928c00849955591ebfd24983b0584f38dee2c6ab4eb", func := "tamis/tamislaw05.EntityTells", spec := "entityTells", inPlace := ["internal/bytealg.IndexByteString", "internal/abi.NoEscape"], apart := false }
def EntityTellsSaid : Prop := entityTellsRow.holds Try.pinned (OpenSpec.ofChange entityTellsSpec)

/-- ITS FALSE NEIGHBOUR: 'it returns false'. Refute it at one input. -/
def entityTellsWrong : ChangeSpec := { name := "entityTells", fn := fun _ => fun
  | [d1, d2] => { results := [.lit (.bool false)], args := [d1, d2] }
  | _ => none }
def EntityTellsWrongFalsely : Prop := entityTellsRow.holds Try.pinned (OpenSpec.ofChange entityTellsWrong)

/-- 'tamislaw05.EntityDecodes': WHATEVER THE INPUT: true; the input reads as it did. -/
def entityDecodesSpec : ChangeSpec := { name := "entityDecodes", fn := fun _ => fun
  | [d] => { results := [.lit (.bool true)], args := [d] }
  | _ => none }
def entityDecodesRow : OpenClaim := { program := "ytmcjljjagfpkkaa", sum := "0e2f98d72fc2405da41de928c00849955591ebfd24983b0584f38dee2c6ab4eb", func := "tamis/tamislaw05.EntityDecodes", spec := "entityDecodes", inPlace := ["internal/bytealg.IndexByteString", "internal/abi.NoEscape"], apart := false }
def EntityDecodesSaid : Prop := entityDecodesRow.holds Try.pinned (OpenSpec.ofChange entityDecodesSpec)

/-- ITS FALSE NEIGHBOUR: 'it returns false'. Refute it at one input. -/
def entityDecodesWrong : ChangeSpec := { name := "entityDecodes", fn := fun _ => fun
  | [d] => { results := [.lit (.bool false)], args := [d] }
  | _ => none }
def EntityDecodesWrongFalsely : Prop := entityDecodesRow.holds Try.pinned (OpenSpec.ofChange entityDecodesWrong)

/-- 'tamislaw05.EntityNumbers': WHATEVER THE INPUT: true; the input reads as it did. -/
def entityNumbersSpec : ChangeSpec := { name := "entityNumbers", fn := fun _ => fun
  | [d1, d2, d3, d4] => { results := [.lit (.bool true)], args := [d1, d2, d3, d4] }
  | _ => none }
def entityNumbersRow : OpenClaim := { program := "ytmcjljjagfpkkaa", sum := "0e2f98d72fc2405da41de928c00849955591ebfd24983b0584f38dee2c6ab4eb", func := "tamis/tamislaw05.EntityNumbers", spec := "entityNumbers", inPlace := ["internal/bytealg.IndexByteString", "internal/abi.NoEscape"], apart := false }
def EntityNumbersSaid : Prop := entityNumbersRow.holds Try.pinned (OpenSpec.ofChange entityNumbersSpec)

/-- ITS FALSE NEIGHBOUR: 'it returns false'. Refute it at one input. -/
def entityNumbersWrong : ChangeSpec := { name := "entityNumbers", fn := fun _ => fun
  | [d1, d2, d3, d4] => { results := [.lit (.bool false)], args := [d1, d2, d3, d4] }
  | _ => none }
def EntityNumbersWrongFalsely : Prop := entityNumbersRow.holds Try.pinned (OpenSpec.ofChange entityNumbersWrong)

/-- 'tamislaw05.EntityNames': WHATEVER THE INPUT: true; the input reads as it did. -/
def entityNamesSpec : ChangeSpec := { name := "entityNames", fn := fun _ => fun
  | [d1, d2] => { results := [.lit (.bool true)], args := [d1, d2] }
  | _ => none }
def entityNamesRow : OpenClaim := { program := "ytmcjljjagfpkkaa", sum := "0e2f98d72fc2405da41de928c00849955591ebfd24983b0584f38dee2c6ab4eb", func := "tamis/tamislaw05.EntityNames", spec := "entityNames", inPlace := ["internal/bytealg.IndexByteString", "internal/abi.NoEscape"], apart := false }
def EntityNamesSaid : Prop := entityNamesRow.holds Try.pinned (OpenSpec.ofChange entityNamesSpec)

/-- ITS FALSE NEIGHBOUR: 'it returns false'. Refute it at one input. -/
def entityNamesWrong : ChangeSpec := { name := "entityNames", fn := fun _ => fun
  | [d1, d2] => { results := [.lit (.bool false)], args := [d1, d2] }
  | _ => none }
def EntityNamesWrongFalsely : Prop := entityNamesRow.holds Try.pinned (OpenSpec.ofChange entityNamesWrong)

/-- 'tamislaw05.EntityPlain': WHATEVER THE INPUT: true; the input reads as it did. -/
def entityPlainSpec : ChangeSpec := { name := "entityPlain", fn := fun _ => fun
  | [d1, d2, d3] => { results := [.lit (.bool true)], args := [d1, d2, d3] }
  | _ => none }
def entityPlainRow : OpenClaim := { program := "ytmcjljjagfpkkaa", sum := "0e2f98d72fc2405da41de928c00849955591ebfd24983b0584f38dee2c6ab4eb", func := "tamis/tamislaw05.EntityPlain", spec := "entityPlain", inPlace := ["internal/bytealg.IndexByteString", "internal/abi.NoEscape"], apart := false }
def EntityPlainSaid : Prop := entityPlainRow.holds Try.pinned (OpenSpec.ofChange entityPlainSpec)

/-- ITS FALSE NEIGHBOUR: 'it returns false'. Refute it at one input. -/
def entityPlainWrong : ChangeSpec := { name := "entityPlain", fn := fun _ => fun
  | [d1, d2, d3] => { results := [.lit (.bool false)], args := [d1, d2, d3] }
  | _ => none }
def EntityPlainWrongFalsely : Prop := entityPlainRow.holds Try.pinned (OpenSpec.ofChange entityPlainWrong)

/-- 'tamislaw06.EscapeTells': WHATEVER THE INPUT: true; the input reads as it did. -/
def escapeTellsSpec : ChangeSpec := { name := "escapeTells", fn := fun _ => fun
  | [d1, d2] => { results := [.lit (.bool true)], args := [d1, d2] }
  | _ => none }
def escapeTellsRow : OpenClaim := { program := "ytmcjljjagfpkkaa", sum := "0e2f98d72fc2405da41de928c00849955591ebfd24983b0584f38dee2c6ab4eb", func := "tamis/tamislaw06.EscapeTells", spec := "escapeTells", inPlace := ["internal/abi.NoEscape", "internal/bytealg.IndexByteString"], apart := false }
def EscapeTellsSaid : Prop := escapeTellsRow.holds Try.pinned (OpenSpec.ofChange escapeTellsSpec)

/-- ITS FALSE NEIGHBOUR: 'it returns false'. Refute it at one input. -/
def escapeTellsWrong : ChangeSpec := { name := "escapeTells", fn := fun _ => fun
  | [d1, d2] => { results := [.lit (.bool false)], args := [d1, d2] }
  | _ => none }
def EscapeTellsWrongFalsely : Prop := escapeTellsRow.holds Try.pinned (OpenSpec.ofChange escapeTellsWrong)

/-- 'tamislaw06.EscapeBack': WHATEVER THE INPUT: true; the input reads as it did. -/
def escapeBackSpec : ChangeSpec := { name := "escapeBack", fn := fun _ => fun
  | [d1, d2] => { results := [.lit (.bool true)], args := [d1, d2] }
  | _ => none }
def escapeBackRow : OpenClaim := { program := "ytmcjljjagfpkkaa", sum := "0e2f98d72fc2405da41de928c00849955591ebfd24983b0584f38dee2c6ab4eb", func := "tamis/tamislaw06.EscapeBack", spec := "escapeBack", inPlace := ["internal/abi.NoEscape", "internal/bytealg.IndexByteString"], apart := false }
def EscapeBackSaid : Prop := escapeBackRow.holds Try.pinned (OpenSpec.ofChange escapeBackSpec)

/-- ITS FALSE NEIGHBOUR: 'it returns false'. Refute it at one input. -/
def escapeBackWrong : ChangeSpec := { name := "escapeBack", fn := fun _ => fun
  | [d1, d2] => { results := [.lit (.bool false)], args := [d1, d2] }
  | _ => none }
def EscapeBackWrongFalsely : Prop := escapeBackRow.holds Try.pinned (OpenSpec.ofChange escapeBackWrong)

/-- 'tamislaw06.EscapePlain': WHATEVER THE INPUT: true; the input reads as it did. -/
def escapePlainSpec : ChangeSpec := { name := "escapePlain", fn := fun _ => fun
  | [d] => { results := [.lit (.bool true)], args := [d] }
  | _ => none }
def escapePlainRow : OpenClaim := { program := "ytmcjljjagfpkkaa", sum := "0e2f98d72fc2405da41de928c00849955591ebfd24983b0584f38dee2c6ab4eb", func := "tamis/tamislaw06.EscapePlain", spec := "escapePlain", inPlace := ["internal/abi.NoEscape", "internal/bytealg.IndexByteString"], apart := false }
def EscapePlainSaid : Prop := escapePlainRow.holds Try.pinned (OpenSpec.ofChange escapePlainSpec)

/-- ITS FALSE NEIGHBOUR: 'it returns false'. Refute it at one input. -/
def escapePlainWrong : ChangeSpec := { name := "escapePlain", fn := fun _ => fun
  | [d] => { results := [.lit (.bool false)], args := [d] }
  | _ => none }
def EscapePlainWrongFalsely : Prop := escapePlainRow.holds Try.pinned (OpenSpec.ofChange escapePlainWrong)

/-- 'tamislaw06.EscapeAhead': WHATEVER THE INPUT: true; the input reads as it did. -/
def escapeAheadSpec : ChangeSpec := { name := "escapeAhead", fn := fun _ => fun
  | [d1, d2, d3] => { results := [.lit (.bool true)], args := [d1, d2, d3] }
  | _ => none }
def escapeAheadRow : OpenClaim := { program := "ytmcjljjagfpkkaa", sum := "0e2f98d72fc2405da41de928c00849955591ebfd24983b0584f38dee2c6ab4eb", func := "tamis/tamislaw06.EscapeAhead", spec := "escapeAhead", inPlace := ["internal/abi.NoEscape", "internal/bytealg.IndexByteString"], apart := false }
def EscapeAheadSaid : Prop := escapeAheadRow.holds Try.pinned (OpenSpec.ofChange escapeAheadSpec)

/-- ITS FALSE NEIGHBOUR: 'it returns false'. Refute it at one input. -/
def escapeAheadWrong : ChangeSpec := { name := "escapeAhead", fn := fun _ => fun
  | [d1, d2, d3] => { results := [.lit (.bool false)], args := [d1, d2, d3] }
  | _ => none }
def EscapeAheadWrongFalsely : Prop := escapeAheadRow.holds Try.pinned (OpenSpec.ofChange escapeAheadWrong)

/-- 'tamislaw06.EscapeCounts': WHATEVER THE INPUT: true; the input reads as it did. -/
def escapeCountsSpec : ChangeSpec := { name := "escapeCounts", fn := fun _ => fun
  | [d] => { results := [.lit (.bool true)], args := [d] }
  | _ => none }
def escapeCountsRow : OpenClaim := { program := "ytmcjljjagfpkkaa", sum := "0e2f98d72fc2405da41de928c00849955591ebfd24983b0584f38dee2c6ab4eb", func := "tamis/tamislaw06.EscapeCounts", spec := "escapeCounts", inPlace := ["internal/abi.NoEscape", "internal/bytealg.IndexByteString"], apart := false }
def EscapeCountsSaid : Prop := escapeCountsRow.holds Try.pinned (OpenSpec.ofChange escapeCountsSpec)

/-- ITS FALSE NEIGHBOUR: 'it returns false'. Refute it at one input. -/
def escapeCountsWrong : ChangeSpec := { name := "escapeCounts", fn := fun _ => fun
  | [d] => { results := [.lit (.bool false)], args := [d] }
  | _ => none }
def EscapeCountsWrongFalsely : Prop := escapeCountsRow.holds Try.pinned (OpenSpec.ofChange escapeCountsWrong)

/- THE SECOND FORM. 'bulk': how many values and letters a reading holds, each counted each time it is reached (what is shared counts as often as it is met; a slice's spare places count too). A statement '..UptoSaid' is the law's where the arguments, and the package variables that the reading takes, are together of bulk at most 1048576: NARROWER than '..Said'. Prove '..Said' where nothing that the law and all that it calls make is longer than what came in: it says more and counts as full. Else prove '..UptoSaid'. A law counts once. -/
mutual
def uptoBulk {H : Type} : DataW H → Nat
  | .lit (.string bytes) => bytes.length + 1
  | .lit _ => 1
  | .nil => 1
  | .ptr d => uptoBulk d + 1
  | .slice elems spare => uptoBulkAll elems + uptoBulkAll spare + 1
  | .agg parts => uptoBulkAll parts + 1
  | .iface _ d => uptoBulk d + 1
  | .map entries => uptoBulkEntries entries + 1
  | .held _ => 1
def uptoBulkAll {H : Type} : List (DataW H) → Nat
  | [] => 0
  | d :: r => uptoBulk d + uptoBulkAll r
def uptoBulkEntries {H : Type} : List (Lit × DataW H) → Nat
  | [] => 0
  | x :: r => uptoBulkEntry x + uptoBulkEntries r
def uptoBulkEntry {H : Type} : Lit × DataW H → Nat
  | (.string bytes, d) => bytes.length + uptoBulk d + 1
  | (_, d) => uptoBulk d + 1
 end
def uptoSmall : (H : Type) → List (DataW H) → Bool := fun _ ds => decide (uptoBulkAll ds ≤ 1048576)
def OpenSpec.upto (s : _root_.Go.ChangeSpec) : _root_.Go.OpenSpec := { _root_.Go.OpenSpec.ofChange s with cond := some uptoSmall }

/-- 'tamislaw05.EntityTells', WHERE WHAT IT READS IS OF BULK AT MOST 1048576: true; the input reads as it did. -/
def entityTellsUptoRow : OpenClaim := { program := "ytmcjljjagfpkkaa", sum := "0e2f98d72fc2405da41de928c00849955591ebfd24983b0584f38dee2c6ab4eb", func := "tamis/tamislaw05.EntityTells", spec := "entityTells", inPlace := ["internal/bytealg.IndexByteString", "internal/abi.NoEscape"], apart := false, narrowed := true }
def EntityTellsUptoSaid : Prop := entityTellsUptoRow.holds Try.pinned (OpenSpec.upto entityTellsSpec)

/-- 'tamislaw05.EntityDecodes', WHERE WHAT IT READS IS OF BULK AT MOST 1048576: true; the input reads as it did. -/
def entityDecodesUptoRow : OpenClaim := { program := "ytmcjljjagfpkkaa", sum := "0e2f98d72fc2405da41de928c00849955591ebfd24983b0584f38dee2c6ab4eb", func := "tamis/tamislaw05.EntityDecodes", spec := "entityDecodes", inPlace := ["internal/bytealg.IndexByteString", "internal/abi.NoEscape"], apart := false, narrowed := true }
def EntityDecodesUptoSaid : Prop := entityDecodesUptoRow.holds Try.pinned (OpenSpec.upto entityDecodesSpec)

/-- 'tamislaw05.EntityNumbers', WHERE WHAT IT READS IS OF BULK AT MOST 1048576: true; the input reads as it did. -/
def entityNumbersUptoRow : OpenClaim := { program := "ytmcjljjagfpkkaa", sum := "0e2f98d72fc2405da41de928c00849955591ebfd24983b0584f38dee2c6ab4eb", func := "tamis/tamislaw05.EntityNumbers", spec := "entityNumbers", inPlace := ["internal/bytealg.IndexByteString", "internal/abi.NoEscape"], apart := false, narrowed := true }
def EntityNumbersUptoSaid : Prop := entityNumbersUptoRow.holds Try.pinned (OpenSpec.upto entityNumbersSpec)

/-- 'tamislaw05.EntityNames', WHERE WHAT IT READS IS OF BULK AT MOST 1048576: true; the input reads as it did. -/
def entityNamesUptoRow : OpenClaim := { program := "ytmcjljjagfpkkaa", sum := "0e2f98d72fc2405da41de928c00849955591ebfd24983b0584f38dee2c6ab4eb", func := "tamis/tamislaw05.EntityNames", spec := "entityNames", inPlace := ["internal/bytealg.IndexByteString", "internal/abi.NoEscape"], apart := false, narrowed := true }
def EntityNamesUptoSaid : Prop := entityNamesUptoRow.holds Try.pinned (OpenSpec.upto entityNamesSpec)

/-- 'tamislaw05.EntityPlain', WHERE WHAT IT READS IS OF BULK AT MOST 1048576: true; the input reads as it did. -/
def entityPlainUptoRow : OpenClaim := { program := "ytmcjljjagfpkkaa", sum := "0e2f98d72fc2405da41de928c00849955591ebfd24983b0584f38dee2c6ab4eb", func := "tamis/tamislaw05.EntityPlain", spec := "entityPlain", inPlace := ["internal/bytealg.IndexByteString", "internal/abi.NoEscape"], apart := false, narrowed := true }
def EntityPlainUptoSaid : Prop := entityPlainUptoRow.holds Try.pinned (OpenSpec.upto entityPlainSpec)

/-- 'tamislaw06.EscapeTells', WHERE WHAT IT READS IS OF BULK AT MOST 1048576: true; the input reads as it did. -/
def escapeTellsUptoRow : OpenClaim := { program := "ytmcjljjagfpkkaa", sum := "0e2f98d72fc2405da41de928c00849955591ebfd24983b0584f38dee2c6ab4eb", func := "tamis/tamislaw06.EscapeTells", spec := "escapeTells", inPlace := ["internal/abi.NoEscape", "internal/bytealg.IndexByteString"], apart := false, narrowed := true }
def EscapeTellsUptoSaid : Prop := escapeTellsUptoRow.holds Try.pinned (OpenSpec.upto escapeTellsSpec)

/-- 'tamislaw06.EscapeBack', WHERE WHAT IT READS IS OF BULK AT MOST 1048576: true; the input reads as it did. -/
def escapeBackUptoRow : OpenClaim := { program := "ytmcjljjagfpkkaa", sum := "0e2f98d72fc2405da41de928c00849955591ebfd24983b0584f38dee2c6ab4eb", func := "tamis/tamislaw06.EscapeBack", spec := "escapeBack", inPlace := ["internal/abi.NoEscape", "internal/bytealg.IndexByteString"], apart := false, narrowed := true }
def EscapeBackUptoSaid : Prop := escapeBackUptoRow.holds Try.pinned (OpenSpec.upto escapeBackSpec)

/-- 'tamislaw06.EscapePlain', WHERE WHAT IT READS IS OF BULK AT MOST 1048576: true; the input reads as it did. -/
def escapePlainUptoRow : OpenClaim := { program := "ytmcjljjagfpkkaa", sum := "0e2f98d72fc2405da41de928c00849955591ebfd24983b0584f38dee2c6ab4eb", func := "tamis/tamislaw06.EscapePlain", spec := "escapePlain", inPlace := ["internal/abi.NoEscape", "internal/bytealg.IndexByteString"], apart := false, narrowed := true }
def EscapePlainUptoSaid : Prop := escapePlainUptoRow.holds Try.pinned (OpenSpec.upto escapePlainSpec)

/-- 'tamislaw06.EscapeAhead', WHERE WHAT IT READS IS OF BULK AT MOST 1048576: true; the input reads as it did. -/
def escapeAheadUptoRow : OpenClaim := { program := "ytmcjljjagfpkkaa", sum := "0e2f98d72fc2405da41de928c00849955591ebfd24983b0584f38dee2c6ab4eb", func := "tamis/tamislaw06.EscapeAhead", spec := "escapeAhead", inPlace := ["internal/abi.NoEscape", "internal/bytealg.IndexByteString"], apart := false, narrowed := true }
def EscapeAheadUptoSaid : Prop := escapeAheadUptoRow.holds Try.pinned (OpenSpec.upto escapeAheadSpec)

/-- 'tamislaw06.EscapeCounts', WHERE WHAT IT READS IS OF BULK AT MOST 1048576: true; the input reads as it did. -/
def escapeCountsUptoRow : OpenClaim := { program := "ytmcjljjagfpkkaa", sum := "0e2f98d72fc2405da41de928c00849955591ebfd24983b0584f38dee2c6ab4eb", func := "tamis/tamislaw06.EscapeCounts", spec := "escapeCounts", inPlace := ["internal/abi.NoEscape", "internal/bytealg.IndexByteString"], apart := false, narrowed := true }
def EscapeCountsUptoSaid : Prop := escapeCountsUptoRow.holds Try.pinned (OpenSpec.upto escapeCountsSpec)

end Rows
end Go.Proofs.Ytmcjljjagfpkkaa
