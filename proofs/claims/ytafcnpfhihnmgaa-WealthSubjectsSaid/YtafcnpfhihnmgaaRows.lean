/-
  No cell of these rows narrows 'for every input' (looked for: loops, veiled, ifaces, maps, wideKeys, modest, calm, conditions, laid).
  DERIVED. THE GIVEN ROWS OF THIS SEAT. 7 by the template 'for every input the law returns true; each argument reads behind the call as it read before'; 0 by the template 'total and deterministic' (their statements: YtafcnpfhihnmgaaTotals.lean).
  GIVEN WITH THE SEED: the statements are not yours to turn. If you find one false, say at which input.
  Laid BY PROGRAM, IN A SANDBOX (cutbox-rows.mjs): the forced cells as the released guide's own fill.sh prints them over the translation ff6d608883e76d1c… (all of the seat's roots in one cut). By AI agents, Wed Nov 11 2026. No macro, syntax, notation, axiom, sorry.
-/
import Derived.Test.YtafcnpfhihnmgaaChecked
import GoSem.Claim
import GoSem.ClaimJoined
import GoSem.ClaimMapViews
import Derived.JoinedTies
import Derived.KernelRfl
namespace Go.Proofs.Ytafcnpfhihnmgaa
/- THE CELL 'sum', in the pinned program and in every row, IS THE sha256 OF THE DUMP (.gsa) THAT YtafcnpfhihnmgaaProg.lean LOADS. Nothing in Lean hashes anything: it is a label: what it is worth is what the hold of that sum in a sandbox is worth. -/
noncomputable def Try.pinned : Pinned := { name := "ytafcnpfhihnmgaa", sum := "ff6d608883e76d1c2386b7879490e4ef14196170b780ca6f8d39fdb9fa51f956", checked := Try.checked }
namespace Rows
def none {H : Type} : Left H := { results := [], args := [] }

/-- 'flagstonelaw40.WealthGrows': WHATEVER THE INPUT: true; the input reads as it did. -/
def wealthGrowsSpec : ChangeSpec := { name := "wealthGrows", fn := fun _ => fun
  | [d1, d2, d3, d4, d5, d6] => { results := [.lit (.bool true)], args := [d1, d2, d3, d4, d5, d6] }
  | _ => none }
def wealthGrowsRow : OpenClaim := { program := "ytafcnpfhihnmgaa", sum := "ff6d608883e76d1c2386b7879490e4ef14196170b780ca6f8d39fdb9fa51f956", func := "flagstone/flagstonelaw40.WealthGrows", spec := "wealthGrows", named := ["math/bits.divideError", "math/bits.overflowError"], apart := false }
def WealthGrowsSaid : Prop := wealthGrowsRow.holds Try.pinned (OpenSpec.ofChange wealthGrowsSpec)

/-- ITS FALSE NEIGHBOUR: 'it returns false'. Refute it at one input. -/
def wealthGrowsWrong : ChangeSpec := { name := "wealthGrows", fn := fun _ => fun
  | [d1, d2, d3, d4, d5, d6] => { results := [.lit (.bool false)], args := [d1, d2, d3, d4, d5, d6] }
  | _ => none }
def WealthGrowsWrongFalsely : Prop := wealthGrowsRow.holds Try.pinned (OpenSpec.ofChange wealthGrowsWrong)

/-- 'flagstonelaw40.WealthFactors': WHATEVER THE INPUT: true; the input reads as it did. -/
def wealthFactorsSpec : ChangeSpec := { name := "wealthFactors", fn := fun _ => fun
  | [d1, d2, d3, d4, d5, d6] => { results := [.lit (.bool true)], args := [d1, d2, d3, d4, d5, d6] }
  | _ => none }
def wealthFactorsRow : OpenClaim := { program := "ytafcnpfhihnmgaa", sum := "ff6d608883e76d1c2386b7879490e4ef14196170b780ca6f8d39fdb9fa51f956", func := "flagstone/flagstonelaw40.WealthFactors", spec := "wealthFactors", named := ["math/bits.divideError", "math/bits.overflowError"], apart := false }
def WealthFactorsSaid : Prop := wealthFactorsRow.holds Try.pinned (OpenSpec.ofChange wealthFactorsSpec)

/-- ITS FALSE NEIGHBOUR: 'it returns false'. Refute it at one input. -/
def wealthFactorsWrong : ChangeSpec := { name := "wealthFactors", fn := fun _ => fun
  | [d1, d2, d3, d4, d5, d6] => { results := [.lit (.bool false)], args := [d1, d2, d3, d4, d5, d6] }
  | _ => none }
def WealthFactorsWrongFalsely : Prop := wealthFactorsRow.holds Try.pinned (OpenSpec.ofChange wealthFactorsWrong)

/-- 'flagstonelaw40.WealthFair': WHATEVER THE INPUT: true; the input reads as it did. -/
def wealthFairSpec : ChangeSpec := { name := "wealthFair", fn := fun _ => fun
  | [d1, d2, d3, d4, d5, d6, d7] => { results := [.lit (.bool true)], args := [d1, d2, d3, d4, d5, d6, d7] }
  | _ => none }
def wealthFairRow : OpenClaim := { program := "ytafcnpfhihnmgaa", sum := "ff6d608883e76d1c2386b7879490e4ef14196170b780ca6f8d39fdb9fa51f956", func := "flagstone/flagstonelaw40.WealthFair", spec := "wealthFair", named := ["math/bits.divideError", "math/bits.overflowError"], apart := false }
def WealthFairSaid : Prop := wealthFairRow.holds Try.pinned (OpenSpec.ofChange wealthFairSpec)

/-- ITS FALSE NEIGHBOUR: 'it returns false'. Refute it at one input. -/
def wealthFairWrong : ChangeSpec := { name := "wealthFair", fn := fun _ => fun
  | [d1, d2, d3, d4, d5, d6, d7] => { results := [.lit (.bool false)], args := [d1, d2, d3, d4, d5, d6, d7] }
  | _ => none }
def WealthFairWrongFalsely : Prop := wealthFairRow.holds Try.pinned (OpenSpec.ofChange wealthFairWrong)

/-- 'flagstonelaw40.WealthThresholds': WHATEVER THE INPUT: true; the input reads as it did. -/
def wealthThresholdsSpec : ChangeSpec := { name := "wealthThresholds", fn := fun _ => fun
  | [d1, d2, d3, d4, d5, d6] => { results := [.lit (.bool true)], args := [d1, d2, d3, d4, d5, d6] }
  | _ => none }
def wealthThresholdsRow : OpenClaim := { program := "ytafcnpfhihnmgaa", sum := "ff6d608883e76d1c2386b7879490e4ef14196170b780ca6f8d39fdb9fa51f956", func := "flagstone/flagstonelaw40.WealthThresholds", spec := "wealthThresholds", named := ["math/bits.divideError", "math/bits.overflowError"], apart := false }
def WealthThresholdsSaid : Prop := wealthThresholdsRow.holds Try.pinned (OpenSpec.ofChange wealthThresholdsSpec)

/-- ITS FALSE NEIGHBOUR: 'it returns false'. Refute it at one input. -/
def wealthThresholdsWrong : ChangeSpec := { name := "wealthThresholds", fn := fun _ => fun
  | [d1, d2, d3, d4, d5, d6] => { results := [.lit (.bool false)], args := [d1, d2, d3, d4, d5, d6] }
  | _ => none }
def WealthThresholdsWrongFalsely : Prop := wealthThresholdsRow.holds Try.pinned (OpenSpec.ofChange wealthThresholdsWrong)

/-- 'flagstonelaw40.WealthPaths': WHATEVER THE INPUT: true; the input reads as it did. -/
def wealthPathsSpec : ChangeSpec := { name := "wealthPaths", fn := fun _ => fun
  | [d1, d2, d3, d4, d5] => { results := [.lit (.bool true)], args := [d1, d2, d3, d4, d5] }
  | _ => none }
def wealthPathsRow : OpenClaim := { program := "ytafcnpfhihnmgaa", sum := "ff6d608883e76d1c2386b7879490e4ef14196170b780ca6f8d39fdb9fa51f956", func := "flagstone/flagstonelaw40.WealthPaths", spec := "wealthPaths", named := ["math/bits.divideError", "math/bits.overflowError"], apart := false }
def WealthPathsSaid : Prop := wealthPathsRow.holds Try.pinned (OpenSpec.ofChange wealthPathsSpec)

/-- ITS FALSE NEIGHBOUR: 'it returns false'. Refute it at one input. -/
def wealthPathsWrong : ChangeSpec := { name := "wealthPaths", fn := fun _ => fun
  | [d1, d2, d3, d4, d5] => { results := [.lit (.bool false)], args := [d1, d2, d3, d4, d5] }
  | _ => none }
def WealthPathsWrongFalsely : Prop := wealthPathsRow.holds Try.pinned (OpenSpec.ofChange wealthPathsWrong)

/-- 'flagstonelaw40.WealthMonotone': WHATEVER THE INPUT: true; the input reads as it did. -/
def wealthMonotoneSpec : ChangeSpec := { name := "wealthMonotone", fn := fun _ => fun
  | [d1, d2, d3] => { results := [.lit (.bool true)], args := [d1, d2, d3] }
  | _ => none }
def wealthMonotoneRow : OpenClaim := { program := "ytafcnpfhihnmgaa", sum := "ff6d608883e76d1c2386b7879490e4ef14196170b780ca6f8d39fdb9fa51f956", func := "flagstone/flagstonelaw40.WealthMonotone", spec := "wealthMonotone", named := ["math/bits.divideError", "math/bits.overflowError"], apart := false }
def WealthMonotoneSaid : Prop := wealthMonotoneRow.holds Try.pinned (OpenSpec.ofChange wealthMonotoneSpec)

/-- ITS FALSE NEIGHBOUR: 'it returns false'. Refute it at one input. -/
def wealthMonotoneWrong : ChangeSpec := { name := "wealthMonotone", fn := fun _ => fun
  | [d1, d2, d3] => { results := [.lit (.bool false)], args := [d1, d2, d3] }
  | _ => none }
def WealthMonotoneWrongFalsely : Prop := wealthMonotoneRow.holds Try.pinned (OpenSpec.ofChange wealthMonotoneWrong)

/-- 'flagstonelaw40.WealthSubjects': WHATEVER THE INPUT: true; the input reads as it did. -/
def wealthSubjectsSpec : ChangeSpec := { name := "wealthSubjects", fn := fun _ => fun
  | [d1, d2, d3, d4, d5, d6, d7, d8] => { results := [.lit (.bool true)], args := [d1, d2, d3, d4, d5, d6, d7, d8] }
  | _ => none }
def wealthSubjectsRow : OpenClaim := { program := "ytafcnpfhihnmgaa", sum := "ff6d608883e76d1c2386b7879490e4ef14196170b780ca6f8d39fdb9fa51f956", func := "flagstone/flagstonelaw40.WealthSubjects", spec := "wealthSubjects", named := ["math/bits.divideError", "math/bits.overflowError"], apart := false }
def WealthSubjectsSaid : Prop := wealthSubjectsRow.holds Try.pinned (OpenSpec.ofChange wealthSubjectsSpec)

/-- ITS FALSE NEIGHBOUR: 'it returns false'. Refute it at one input. -/
def wealthSubjectsWrong : ChangeSpec := { name := "wealthSubjects", fn := fun _ => fun
  | [d1, d2, d3, d4, d5, d6, d7, d8] => { results := [.lit (.bool false)], args := [d1, d2, d3, d4, d5, d6, d7, d8] }
  | _ => none }
def WealthSubjectsWrongFalsely : Prop := wealthSubjectsRow.holds Try.pinned (OpenSpec.ofChange wealthSubjectsWrong)

/- THE SECOND FORM. 'bulk': how many values and letters a reading holds, each counted each time it is reached (what is shared counts as often as it is met; a slice's spare places count too). A statement '..UptoSaid' is the law's where the arguments, and the package variables that the reading takes, are together of bulk at most 1048576: NARROWER than '..Said'. Prove '..Said' where nothing that the law and all that it calls make is longer than what came in: it says more and counts as full. Else prove '..UptoSaid'. A law counts once. -/
mutual
def uptoBulk {H : Type} : DataW H → Nat
  | .lit (.string bytes) => bytes.length + 1
  | .lit _ => 1
  | .nil => 1
  | .ptr d => uptoBulk d + 1
  | .slice elems spare => uptoBulkAll elems + uptoBulkAll spare + 1
  | .agg parts => uptoBulkAll parts + 1
  | .iface _ d => uptoBulk d + 1
  | .map entries => uptoBulkEntries entries + 1
  | .held _ => 1
def uptoBulkAll {H : Type} : List (DataW H) → Nat
  | [] => 0
  | d :: r => uptoBulk d + uptoBulkAll r
def uptoBulkEntries {H : Type} : List (Lit × DataW H) → Nat
  | [] => 0
  | x :: r => uptoBulkEntry x + uptoBulkEntries r
def uptoBulkEntry {H : Type} : Lit × DataW H → Nat
  | (.string bytes, d) => bytes.length + uptoBulk d + 1
  | (_, d) => uptoBulk d + 1
 end
def uptoSmall : (H : Type) → List (DataW H) → Bool := fun _ ds => decide (uptoBulkAll ds ≤ 1048576)
def OpenSpec.upto (s : _root_.Go.ChangeSpec) : _root_.Go.OpenSpec := { _root_.Go.OpenSpec.ofChange s with cond := some uptoSmall }

/-- 'flagstonelaw40.WealthGrows', WHERE WHAT IT READS IS OF BULK AT MOST 1048576: true; the input reads as it did. -/
def wealthGrowsUptoRow : OpenClaim := { program := "ytafcnpfhihnmgaa", sum := "ff6d608883e76d1c2386b7879490e4ef14196170b780ca6f8d39fdb9fa51f956", func := "flagstone/flagstonelaw40.WealthGrows", spec := "wealthGrows", named := ["math/bits.divideError", "math/bits.overflowError"], apart := false, narrowed := true }
def WealthGrowsUptoSaid : Prop := wealthGrowsUptoRow.holds Try.pinned (OpenSpec.upto wealthGrowsSpec)

/-- 'flagstonelaw40.WealthFactors', WHERE WHAT IT READS IS OF BULK AT MOST 1048576: true; the input reads as it did. -/
def wealthFactorsUptoRow : OpenClaim := { program := "ytafcnpfhihnmgaa", sum := "ff6d608883e76d1c2386b7879490e4ef14196170b780ca6f8d39fdb9fa51f956", func := "flagstone/flagstonelaw40.WealthFactors", spec := "wealthFactors", named := ["math/bits.divideError", "math/bits.overflowError"], apart := false, narrowed := true }
def WealthFactorsUptoSaid : Prop := wealthFactorsUptoRow.holds Try.pinned (OpenSpec.upto wealthFactorsSpec)

/-- 'flagstonelaw40.WealthFair', WHERE WHAT IT READS IS OF BULK AT MOST 1048576: true; the input reads as it did. -/
def wealthFairUptoRow : OpenClaim := { program := "ytafcnpfhihnmgaa", sum := "ff6d608883e76d1c2386b7879490e4ef14196170b780ca6f8d39fdb9fa51f956", func := "flagstone/flagstonelaw40.WealthFair", spec := "wealthFair", named := ["math/bits.divideError", "math/bits.overflowError"], apart := false, narrowed := true }
def WealthFairUptoSaid : Prop := wealthFairUptoRow.holds Try.pinned (OpenSpec.upto wealthFairSpec)

/-- 'flagstonelaw40.WealthThresholds', WHERE WHAT IT READS IS OF BULK AT MOST 1048576: true; the input reads as it did. -/
def wealthThresholdsUptoRow : OpenClaim := { program := "ytafcnpfhihnmgaa", sum := "ff6d608883e76d1c2386b7879490e4ef14196170b780ca6f8d39fdb9fa51f956", func := "flagstone/flagstonelaw40.WealthThresholds", spec := "wealthThresholds", named := ["math/bits.divideError", "math/bits.overflowError"], apart := false, narrowed := true }
def WealthThresholdsUptoSaid : Prop := wealthThresholdsUptoRow.holds Try.pinned (OpenSpec.upto wealthThresholdsSpec)

/-- 'flagstonelaw40.WealthPaths', WHERE WHAT IT READS IS OF BULK AT MOST 1048576: true; the input reads as it did. -/
def wealthPathsUptoRow : OpenClaim := { program := "ytafcnpfhihnmgaa", sum := "ff6d608883e76d1c2386b7879490e4ef14196170b780ca6f8d39fdb9fa51f956", func := "flagstone/flagstonelaw40.WealthPaths", spec := "wealthPaths", named := ["math/bits.divideError", "math/bits.overflowError"], apart := false, narrowed := true }
def WealthPathsUptoSaid : Prop := wealthPathsUptoRow.holds Try.pinned (OpenSpec.upto wealthPathsSpec)

/-- 'flagstonelaw40.WealthMonotone', WHERE WHAT IT READS IS OF BULK AT MOST 1048576: true; the input reads as it did. -/
def wealthMonotoneUptoRow : OpenClaim := { program := "ytafcnpfhihnmgaa", sum := "ff6d608883e76d1c2386b7879490e4ef14196170b780ca6f8d39fdb9fa51f956", func := "flagstone/flagstonelaw40.WealthMonotone", spec := "wealthMonotone", named := ["math/bits.divideError", "math/bits.overflowError"], apart := false, narrowed := true }
def WealthMonotoneUptoSaid : Prop := wealthMonotoneUptoRow.holds Try.pinned (OpenSpec.upto wealthMonotoneSpec)

/-- 'flagstonelaw40.WealthSubjects', WHERE WHAT IT READS IS OF BULK AT MOST 1048576: true; the input reads as it did. -/
def wealthSubjectsUptoRow : OpenClaim := { program := "ytafcnpfhihnmgaa", sum := "ff6d608883e76d1c2386b7879490e4ef14196170b780ca6f8d39fdb9fa51f956", func := "flagstone/flagstonelaw40.WealthSubjects", spec := "wealthSubjects", named := ["math/bits.divideError", "math/bits.overflowError"], apart := false, narrowed := true }
def WealthSubjectsUptoSaid : Prop := wealthSubjectsUptoRow.holds Try.pinned (OpenSpec.upto wealthSubjectsSpec)

end Rows
end Go.Proofs.Ytafcnpfhihnmgaa
