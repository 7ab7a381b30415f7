/-
  No cell of these rows narrows 'for every input' (looked for: loops, veiled, ifaces, maps, wideKeys, modest, calm, conditions, laid).
  DERIVED. THE GIVEN ROWS OF THIS SEAT. 7 by the template 'for every input the law returns true; each argument reads behind the call as it read before'; 0 by the template 'total and deterministic' (their statements: YtdclcdaoidbgbaaTotals.lean).
  GIVEN WITH THE SEED: the statements are not yours to turn. If you find one false, say at which input.
  Laid BY PROGRAM, IN A SANDBOX (cutbox-rows.mjs): the forced cells as the released guide's own fill.sh prints them over the translation 89b66036ac5d6212… (all of the seat's roots in one cut). By AI agents, Wed Nov 11 2026. No macro, syntax, notation, axiom, sorry.
-/
import Derived.Test.YtdclcdaoidbgbaaChecked
import GoSem.Claim
import GoSem.ClaimJoined
import GoSem.ClaimMapViews
import Derived.JoinedTies
import Derived.KernelRfl
namespace Go.Proofs.Ytdclcdaoidbgbaa
/- THE CELL 'sum', in the pinned program and in every row, IS THE sha256 OF THE DUMP (.gsa) THAT YtdclcdaoidbgbaaProg.lean LOADS. Nothing in Lean hashes anything: it is a label: what it is worth is what the hold of that sum in a sandbox is worth. -/
noncomputable def Try.pinned : Pinned := { name := "ytdclcdaoidbgbaa", sum := "89b66036ac5d62126e9ddbdbcdcf7102296b0453712563e39f19b164b19c4939", checked := Try.checked }
namespace Rows
def none {H : Type} : Left H := { results := [], args := [] }

/-- 'flagstonelaw41.SequenceOf': WHATEVER THE INPUT: true; the input reads as it did. -/
def sequenceOfSpec : ChangeSpec := { name := "sequenceOf", fn := fun _ => fun
  | [d1, d2, d3, d4] => { results := [.lit (.bool true)], args := [d1, d2, d3, d4] }
  | _ => none }
def sequenceOfRow : OpenClaim := { program := "ytdclcdaoidbgbaa", sum := "89b66036ac5d62126e9ddbdbcdcf7102296b0453712563e39f19b164b19c4939", func := "flagstone/flagstonelaw41.SequenceOf", spec := "sequenceOf", unfollowed := true, recurses := true, named := ["math/bits.divideError", "math/bits.overflowError"], apart := false }
def SequenceOfSaid : Prop := sequenceOfRow.holds Try.pinned (OpenSpec.ofChange sequenceOfSpec)

/-- ITS FALSE NEIGHBOUR: 'it returns false'. Refute it at one input. -/
def sequenceOfWrong : ChangeSpec := { name := "sequenceOf", fn := fun _ => fun
  | [d1, d2, d3, d4] => { results := [.lit (.bool false)], args := [d1, d2, d3, d4] }
  | _ => none }
def SequenceOfWrongFalsely : Prop := sequenceOfRow.holds Try.pinned (OpenSpec.ofChange sequenceOfWrong)

/-- 'flagstonelaw41.SequenceLevel': WHATEVER THE INPUT: true; the input reads as it did. -/
def sequenceLevelSpec : ChangeSpec := { name := "sequenceLevel", fn := fun _ => fun
  | [d1, d2, d3, d4, d5, d6, d7] => { results := [.lit (.bool true)], args := [d1, d2, d3, d4, d5, d6, d7] }
  | _ => none }
def sequenceLevelRow : OpenClaim := { program := "ytdclcdaoidbgbaa", sum := "89b66036ac5d62126e9ddbdbcdcf7102296b0453712563e39f19b164b19c4939", func := "flagstone/flagstonelaw41.SequenceLevel", spec := "sequenceLevel", unfollowed := true, recurses := true, named := ["math/bits.divideError", "math/bits.overflowError"], apart := false }
def SequenceLevelSaid : Prop := sequenceLevelRow.holds Try.pinned (OpenSpec.ofChange sequenceLevelSpec)

/-- ITS FALSE NEIGHBOUR: 'it returns false'. Refute it at one input. -/
def sequenceLevelWrong : ChangeSpec := { name := "sequenceLevel", fn := fun _ => fun
  | [d1, d2, d3, d4, d5, d6, d7] => { results := [.lit (.bool false)], args := [d1, d2, d3, d4, d5, d6, d7] }
  | _ => none }
def SequenceLevelWrongFalsely : Prop := sequenceLevelRow.holds Try.pinned (OpenSpec.ofChange sequenceLevelWrong)

/-- 'flagstonelaw41.SequenceTells': WHATEVER THE INPUT: true; the input reads as it did. -/
def sequenceTellsSpec : ChangeSpec := { name := "sequenceTells", fn := fun _ => fun
  | [d1, d2, d3] => { results := [.lit (.bool true)], args := [d1, d2, d3] }
  | _ => none }
def sequenceTellsRow : OpenClaim := { program := "ytdclcdaoidbgbaa", sum := "89b66036ac5d62126e9ddbdbcdcf7102296b0453712563e39f19b164b19c4939", func := "flagstone/flagstonelaw41.SequenceTells", spec := "sequenceTells", unfollowed := true, recurses := true, named := ["math/bits.divideError", "math/bits.overflowError"], apart := false }
def SequenceTellsSaid : Prop := sequenceTellsRow.holds Try.pinned (OpenSpec.ofChange sequenceTellsSpec)

/-- ITS FALSE NEIGHBOUR: 'it returns false'. Refute it at one input. -/
def sequenceTellsWrong : ChangeSpec := { name := "sequenceTells", fn := fun _ => fun
  | [d1, d2, d3] => { results := [.lit (.bool false)], args := [d1, d2, d3] }
  | _ => none }
def SequenceTellsWrongFalsely : Prop := sequenceTellsRow.holds Try.pinned (OpenSpec.ofChange sequenceTellsWrong)

/-- 'flagstonelaw41.SequenceExcludes': WHATEVER THE INPUT: true; the input reads as it did. -/
def sequenceExcludesSpec : ChangeSpec := { name := "sequenceExcludes", fn := fun _ => fun
  | [d1, d2, d3] => { results := [.lit (.bool true)], args := [d1, d2, d3] }
  | _ => none }
def sequenceExcludesRow : OpenClaim := { program := "ytdclcdaoidbgbaa", sum := "89b66036ac5d62126e9ddbdbcdcf7102296b0453712563e39f19b164b19c4939", func := "flagstone/flagstonelaw41.SequenceExcludes", spec := "sequenceExcludes", unfollowed := true, recurses := true, named := ["math/bits.divideError", "math/bits.overflowError"], apart := false }
def SequenceExcludesSaid : Prop := sequenceExcludesRow.holds Try.pinned (OpenSpec.ofChange sequenceExcludesSpec)

/-- ITS FALSE NEIGHBOUR: 'it returns false'. Refute it at one input. -/
def sequenceExcludesWrong : ChangeSpec := { name := "sequenceExcludes", fn := fun _ => fun
  | [d1, d2, d3] => { results := [.lit (.bool false)], args := [d1, d2, d3] }
  | _ => none }
def SequenceExcludesWrongFalsely : Prop := sequenceExcludesRow.holds Try.pinned (OpenSpec.ofChange sequenceExcludesWrong)

/-- 'flagstonelaw41.SequenceMirrors': WHATEVER THE INPUT: true; the input reads as it did. -/
def sequenceMirrorsSpec : ChangeSpec := { name := "sequenceMirrors", fn := fun _ => fun
  | [d1, d2] => { results := [.lit (.bool true)], args := [d1, d2] }
  | _ => none }
def sequenceMirrorsRow : OpenClaim := { program := "ytdclcdaoidbgbaa", sum := "89b66036ac5d62126e9ddbdbcdcf7102296b0453712563e39f19b164b19c4939", func := "flagstone/flagstonelaw41.SequenceMirrors", spec := "sequenceMirrors", unfollowed := true, recurses := true, named := ["math/bits.divideError", "math/bits.overflowError"], apart := false }
def SequenceMirrorsSaid : Prop := sequenceMirrorsRow.holds Try.pinned (OpenSpec.ofChange sequenceMirrorsSpec)

/-- ITS FALSE NEIGHBOUR: 'it returns false'. Refute it at one input. -/
def sequenceMirrorsWrong : ChangeSpec := { name := "sequenceMirrors", fn := fun _ => fun
  | [d1, d2] => { results := [.lit (.bool false)], args := [d1, d2] }
  | _ => none }
def SequenceMirrorsWrongFalsely : Prop := sequenceMirrorsRow.holds Try.pinned (OpenSpec.ofChange sequenceMirrorsWrong)

/-- 'flagstonelaw41.SequenceTruth': WHATEVER THE INPUT: true; the input reads as it did. -/
def sequenceTruthSpec : ChangeSpec := { name := "sequenceTruth", fn := fun _ => fun
  | [d1, d2, d3] => { results := [.lit (.bool true)], args := [d1, d2, d3] }
  | _ => none }
def sequenceTruthRow : OpenClaim := { program := "ytdclcdaoidbgbaa", sum := "89b66036ac5d62126e9ddbdbcdcf7102296b0453712563e39f19b164b19c4939", func := "flagstone/flagstonelaw41.SequenceTruth", spec := "sequenceTruth", unfollowed := true, recurses := true, named := ["math/bits.divideError", "math/bits.overflowError"], apart := false }
def SequenceTruthSaid : Prop := sequenceTruthRow.holds Try.pinned (OpenSpec.ofChange sequenceTruthSpec)

/-- ITS FALSE NEIGHBOUR: 'it returns false'. Refute it at one input. -/
def sequenceTruthWrong : ChangeSpec := { name := "sequenceTruth", fn := fun _ => fun
  | [d1, d2, d3] => { results := [.lit (.bool false)], args := [d1, d2, d3] }
  | _ => none }
def SequenceTruthWrongFalsely : Prop := sequenceTruthRow.holds Try.pinned (OpenSpec.ofChange sequenceTruthWrong)

/-- 'flagstonelaw41.SequenceNarrows': WHATEVER THE INPUT: true; the input reads as it did. -/
def sequenceNarrowsSpec : ChangeSpec := { name := "sequenceNarrows", fn := fun _ => fun
  | [d1, d2, d3] => { results := [.lit (.bool true)], args := [d1, d2, d3] }
  | _ => none }
def sequenceNarrowsRow : OpenClaim := { program := "ytdclcdaoidbgbaa", sum := "89b66036ac5d62126e9ddbdbcdcf7102296b0453712563e39f19b164b19c4939", func := "flagstone/flagstonelaw41.SequenceNarrows", spec := "sequenceNarrows", unfollowed := true, recurses := true, named := ["math/bits.divideError", "math/bits.overflowError"], apart := false }
def SequenceNarrowsSaid : Prop := sequenceNarrowsRow.holds Try.pinned (OpenSpec.ofChange sequenceNarrowsSpec)

/-- ITS FALSE NEIGHBOUR: 'it returns false'. Refute it at one input. -/
def sequenceNarrowsWrong : ChangeSpec := { name := "sequenceNarrows", fn := fun _ => fun
  | [d1, d2, d3] => { results := [.lit (.bool false)], args := [d1, d2, d3] }
  | _ => none }
def SequenceNarrowsWrongFalsely : Prop := sequenceNarrowsRow.holds Try.pinned (OpenSpec.ofChange sequenceNarrowsWrong)

/- THE SECOND FORM. 'bulk': how many values and letters a reading holds, each counted each time it is reached (what is shared counts as often as it is met; a slice's spare places count too). A statement '..UptoSaid' is the law's where the arguments, and the package variables that the reading takes, are together of bulk at most 1048576: NARROWER than '..Said'. Prove '..Said' where nothing that the law and all that it calls make is longer than what came in: it says more and counts as full. Else prove '..UptoSaid'. A law counts once. -/
mutual
def uptoBulk {H : Type} : DataW H → Nat
  | .lit (.string bytes) => bytes.length + 1
  | .lit _ => 1
  | .nil => 1
  | .ptr d => uptoBulk d + 1
  | .slice elems spare => uptoBulkAll elems + uptoBulkAll spare + 1
  | .agg parts => uptoBulkAll parts + 1
  | .iface _ d => uptoBulk d + 1
  | .map entries => uptoBulkEntries entries + 1
  | .held _ => 1
def uptoBulkAll {H : Type} : List (DataW H) → Nat
  | [] => 0
  | d :: r => uptoBulk d + uptoBulkAll r
def uptoBulkEntries {H : Type} : List (Lit × DataW H) → Nat
  | [] => 0
  | x :: r => uptoBulkEntry x + uptoBulkEntries r
def uptoBulkEntry {H : Type} : Lit × DataW H → Nat
  | (.string bytes, d) => bytes.length + uptoBulk d + 1
  | (_, d) => uptoBulk d + 1
 end
def uptoSmall : (H : Type) → List (DataW H) → Bool := fun _ ds => decide (uptoBulkAll ds ≤ 1048576)
def OpenSpec.upto (s : _root_.Go.ChangeSpec) : _root_.Go.OpenSpec := { _root_.Go.OpenSpec.ofChange s with cond := some uptoSmall }

/-- 'flagstonelaw41.SequenceOf', WHERE WHAT IT READS IS OF BULK AT MOST 1048576: true; the input reads as it did. -/
def sequenceOfUptoRow : OpenClaim := { program := "ytdclcdaoidbgbaa", sum := "89b66036ac5d62126e9ddbdbcdcf7102296b0453712563e39f19b164b19c4939", func := "flagstone/flagstonelaw41.SequenceOf", spec := "sequenceOf", unfollowed := true, recurses := true, named := ["math/bits.divideError", "math/bits.overflowError"], apart := false, narrowed := true }
def SequenceOfUptoSaid : Prop := sequenceOfUptoRow.holds Try.pinned (OpenSpec.upto sequenceOfSpec)

/-- 'flagstonelaw41.SequenceLevel', WHERE WHAT IT READS IS OF BULK AT MOST 1048576: true; the input reads as it did. -/
def sequenceLevelUptoRow : OpenClaim := { program := "ytdclcdaoidbgbaa", sum := "89b66036ac5d62126e9ddbdbcdcf7102296b0453712563e39f19b164b19c4939", func := "flagstone/flagstonelaw41.SequenceLevel", spec := "sequenceLevel", unfollowed := true, recurses := true, named := ["math/bits.divideError", "math/bits.overflowError"], apart := false, narrowed := true }
def SequenceLevelUptoSaid : Prop := sequenceLevelUptoRow.holds Try.pinned (OpenSpec.upto sequenceLevelSpec)

/-- 'flagstonelaw41.SequenceTells', WHERE WHAT IT READS IS OF BULK AT MOST 1048576: true; the input reads as it did. -/
def sequenceTellsUptoRow : OpenClaim := { program := "ytdclcdaoidbgbaa", sum := "89b66036ac5d62126e9ddbdbcdcf7102296b0453712563e39f19b164b19c4939", func := "flagstone/flagstonelaw41.SequenceTells", spec := "sequenceTells", unfollowed := true, recurses := true, named := ["math/bits.divideError", "math/bits.overflowError"], apart := false, narrowed := true }
def SequenceTellsUptoSaid : Prop := sequenceTellsUptoRow.holds Try.pinned (OpenSpec.upto sequenceTellsSpec)

/-- 'flagstonelaw41.SequenceExcludes', WHERE WHAT IT READS IS OF BULK AT MOST 1048576: true; the input reads as it did. -/
def sequenceExcludesUptoRow : OpenClaim := { program := "ytdclcdaoidbgbaa", sum := "89b66036ac5d62126e9ddbdbcdcf7102296b0453712563e39f19b164b19c4939", func := "flagstone/flagstonelaw41.SequenceExcludes", spec := "sequenceExcludes", unfollowed := true, recurses := true, named := ["math/bits.divideError", "math/bits.overflowError"], apart := false, narrowed := true }
def SequenceExcludesUptoSaid : Prop := sequenceExcludesUptoRow.holds Try.pinned (OpenSpec.upto sequenceExcludesSpec)

/-- 'flagstonelaw41.SequenceMirrors', WHERE WHAT IT READS IS OF BULK AT MOST 1048576: true; the input reads as it did. -/
def sequenceMirrorsUptoRow : OpenClaim := { program := "ytdclcdaoidbgbaa", sum := "89b66036ac5d62126e9ddbdbcdcf7102296b0453712563e39f19b164b19c4939", func := "flagstone/flagstonelaw41.SequenceMirrors", spec := "sequenceMirrors", unfollowed := true, recurses := true, named := ["math/bits.divideError", "math/bits.overflowError"], apart := false, narrowed := true }
def SequenceMirrorsUptoSaid : Prop := sequenceMirrorsUptoRow.holds Try.pinned (OpenSpec.upto sequenceMirrorsSpec)

/-- 'flagstonelaw41.SequenceTruth', WHERE WHAT IT READS IS OF BULK AT MOST 1048576: true; the input reads as it did. -/
def sequenceTruthUptoRow : OpenClaim := { program := "ytdclcdaoidbgbaa", sum := "89b66036ac5d62126e9ddbdbcdcf7102296b0453712563e39f19b164b19c4939", func := "flagstone/flagstonelaw41.SequenceTruth", spec := "sequenceTruth", unfollowed := true, recurses := true, named := ["math/bits.divideError", "math/bits.overflowError"], apart := false, narrowed := true }
def SequenceTruthUptoSaid : Prop := sequenceTruthUptoRow.holds Try.pinned (OpenSpec.upto sequenceTruthSpec)

/-- 'flagstonelaw41.SequenceNarrows', WHERE WHAT IT READS IS OF BULK AT MOST 1048576: true; the input reads as it did. -/
def sequenceNarrowsUptoRow : OpenClaim := { program := "ytdclcdaoidbgbaa", sum := "89b66036ac5d62126e9ddbdbcdcf7102296b0453712563e39f19b164b19c4939", func := "flagstone/flagstonelaw41.SequenceNarrows", spec := "sequenceNarrows", unfollowed := true, recurses := true, named := ["math/bits.divideError", "math/bits.overflowError"], apart := false, narrowed := true }
def SequenceNarrowsUptoSaid : Prop := sequenceNarrowsUptoRow.holds Try.pinned (OpenSpec.upto sequenceNarrowsSpec)

end Rows
end Go.Proofs.Ytdclcdaoidbgbaa
