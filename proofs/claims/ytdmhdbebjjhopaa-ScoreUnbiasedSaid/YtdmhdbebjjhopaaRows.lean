/-
  No cell of these rows narrows 'for every input' (looked for: loops, veiled, ifaces, maps, wideKeys, modest, calm, conditions, laid).
  DERIVED. THE GIVEN ROWS OF THIS SEAT. 8 by the template 'for every input the law returns true; each argument reads behind the call as it read before'; 0 by the template 'total and deterministic' (their statements: YtdmhdbebjjhopaaTotals.lean).
  GIVEN WITH THE SEED: the statements are not yours to turn. If you find one false, say at which input.
  Laid BY PROGRAM, IN A SANDBOX (cutbox-rows.mjs): the forced cells as the released guide's own fill.sh prints them over the translation cbc8f7c65b80cdb3… (all of the seat's roots in one cut). By AI agents, Wed Nov 11 2026. No macro, syntax, notation, axiom, sorry.
-/
import Derived.Test.YtdmhdbebjjhopaaChecked
import GoSem.Claim
import GoSem.ClaimJoined
import GoSem.ClaimMapViews
import Derived.JoinedTies
import Derived.KernelRfl
namespace Go.Proofs.Ytdmhdbebjjhopaa
/- THE CELL 'sum', in the pinned program and in every row, IS THE sha256 OF THE DUMP (.gsa) THAT YtdmhdbebjjhopaaProg.lean LOADS. Nothing in Lean hashes anything: it is a label: what it is worth is what the hold of that sum in a sandbox is worth. -/
noncomputable def Try.pinned : Pinned := { name := "ytdmhdbebjjhopaa", sum := "cbc8f7c65b80cdb3992a64724f39cf83225f2e4106584f280522a8e98176219d", checked := Try.checked }
namespace Rows
def none {H : Type} : Left H := { results := [], args := [] }

/-- 'flagstonelaw39.ScorePredicts': WHATEVER THE INPUT: true; the input reads as it did. -/
def scorePredictsSpec : ChangeSpec := { name := "scorePredicts", fn := fun _ => fun
  | [d1, d2, d3, d4, d5] => { results := [.lit (.bool true)], args := [d1, d2, d3, d4, d5] }
  | _ => none }
def scorePredictsRow : OpenClaim := { program := "ytdmhdbebjjhopaa", sum := "cbc8f7c65b80cdb3992a64724f39cf83225f2e4106584f280522a8e98176219d", func := "flagstone/flagstonelaw39.ScorePredicts", spec := "scorePredicts", apart := false }
def ScorePredictsSaid : Prop := scorePredictsRow.holds Try.pinned (OpenSpec.ofChange scorePredictsSpec)

/-- ITS FALSE NEIGHBOUR: 'it returns false'. Refute it at one input. -/
def scorePredictsWrong : ChangeSpec := { name := "scorePredicts", fn := fun _ => fun
  | [d1, d2, d3, d4, d5] => { results := [.lit (.bool false)], args := [d1, d2, d3, d4, d5] }
  | _ => none }
def ScorePredictsWrongFalsely : Prop := scorePredictsRow.holds Try.pinned (OpenSpec.ofChange scorePredictsWrong)

/-- 'flagstonelaw39.ScorePredictsAny': WHATEVER THE INPUT: true; the input reads as it did. -/
def scorePredictsAnySpec : ChangeSpec := { name := "scorePredictsAny", fn := fun _ => fun
  | [d1, d2, d3, d4] => { results := [.lit (.bool true)], args := [d1, d2, d3, d4] }
  | _ => none }
def scorePredictsAnyRow : OpenClaim := { program := "ytdmhdbebjjhopaa", sum := "cbc8f7c65b80cdb3992a64724f39cf83225f2e4106584f280522a8e98176219d", func := "flagstone/flagstonelaw39.ScorePredictsAny", spec := "scorePredictsAny", apart := false }
def ScorePredictsAnySaid : Prop := scorePredictsAnyRow.holds Try.pinned (OpenSpec.ofChange scorePredictsAnySpec)

/-- ITS FALSE NEIGHBOUR: 'it returns false'. Refute it at one input. -/
def scorePredictsAnyWrong : ChangeSpec := { name := "scorePredictsAny", fn := fun _ => fun
  | [d1, d2, d3, d4] => { results := [.lit (.bool false)], args := [d1, d2, d3, d4] }
  | _ => none }
def ScorePredictsAnyWrongFalsely : Prop := scorePredictsAnyRow.holds Try.pinned (OpenSpec.ofChange scorePredictsAnyWrong)

/-- 'flagstonelaw39.ScoreValid': WHATEVER THE INPUT: true; the input reads as it did. -/
def scoreValidSpec : ChangeSpec := { name := "scoreValid", fn := fun _ => fun
  | [d1, d2, d3, d4] => { results := [.lit (.bool true)], args := [d1, d2, d3, d4] }
  | _ => none }
def scoreValidRow : OpenClaim := { program := "ytdmhdbebjjhopaa", sum := "cbc8f7c65b80cdb3992a64724f39cf83225f2e4106584f280522a8e98176219d", func := "flagstone/flagstonelaw39.ScoreValid", spec := "scoreValid", apart := false }
def ScoreValidSaid : Prop := scoreValidRow.holds Try.pinned (OpenSpec.ofChange scoreValidSpec)

/-- ITS FALSE NEIGHBOUR: 'it returns false'. Refute it at one input. -/
def scoreValidWrong : ChangeSpec := { name := "scoreValid", fn := fun _ => fun
  | [d1, d2, d3, d4] => { results := [.lit (.bool false)], args := [d1, d2, d3, d4] }
  | _ => none }
def ScoreValidWrongFalsely : Prop := scoreValidRow.holds Try.pinned (OpenSpec.ofChange scoreValidWrong)

/-- 'flagstonelaw39.ScoreTells': WHATEVER THE INPUT: true; the input reads as it did. -/
def scoreTellsSpec : ChangeSpec := { name := "scoreTells", fn := fun _ => fun
  | [d1, d2, d3, d4, d5, d6, d7] => { results := [.lit (.bool true)], args := [d1, d2, d3, d4, d5, d6, d7] }
  | _ => none }
def scoreTellsRow : OpenClaim := { program := "ytdmhdbebjjhopaa", sum := "cbc8f7c65b80cdb3992a64724f39cf83225f2e4106584f280522a8e98176219d", func := "flagstone/flagstonelaw39.ScoreTells", spec := "scoreTells", apart := false }
def ScoreTellsSaid : Prop := scoreTellsRow.holds Try.pinned (OpenSpec.ofChange scoreTellsSpec)

/-- ITS FALSE NEIGHBOUR: 'it returns false'. Refute it at one input. -/
def scoreTellsWrong : ChangeSpec := { name := "scoreTells", fn := fun _ => fun
  | [d1, d2, d3, d4, d5, d6, d7] => { results := [.lit (.bool false)], args := [d1, d2, d3, d4, d5, d6, d7] }
  | _ => none }
def ScoreTellsWrongFalsely : Prop := scoreTellsRow.holds Try.pinned (OpenSpec.ofChange scoreTellsWrong)

/-- 'flagstonelaw39.ScoreUnbiased': WHATEVER THE INPUT: true; the input reads as it did. -/
def scoreUnbiasedSpec : ChangeSpec := { name := "scoreUnbiased", fn := fun _ => fun
  | [d1, d2, d3, d4, d5, d6] => { results := [.lit (.bool true)], args := [d1, d2, d3, d4, d5, d6] }
  | _ => none }
def scoreUnbiasedRow : OpenClaim := { program := "ytdmhdbebjjhopaa", sum := "cbc8f7c65b80cdb3992a64724f39cf83225f2e4106584f280522a8e98176219d", func := "flagstone/flagstonelaw39.ScoreUnbiased", spec := "scoreUnbiased", apart := false }
def ScoreUnbiasedSaid : Prop := scoreUnbiasedRow.holds Try.pinned (OpenSpec.ofChange scoreUnbiasedSpec)

/-- ITS FALSE NEIGHBOUR: 'it returns false'. Refute it at one input. -/
def scoreUnbiasedWrong : ChangeSpec := { name := "scoreUnbiased", fn := fun _ => fun
  | [d1, d2, d3, d4, d5, d6] => { results := [.lit (.bool false)], args := [d1, d2, d3, d4, d5, d6] }
  | _ => none }
def ScoreUnbiasedWrongFalsely : Prop := scoreUnbiasedRow.holds Try.pinned (OpenSpec.ofChange scoreUnbiasedWrong)

/-- 'flagstonelaw39.ScoreLists': WHATEVER THE INPUT: true; the input reads as it did. -/
def scoreListsSpec : ChangeSpec := { name := "scoreLists", fn := fun _ => fun
  | [d1, d2, d3, d4, d5, d6, d7] => { results := [.lit (.bool true)], args := [d1, d2, d3, d4, d5, d6, d7] }
  | _ => none }
def scoreListsRow : OpenClaim := { program := "ytdmhdbebjjhopaa", sum := "cbc8f7c65b80cdb3992a64724f39cf83225f2e4106584f280522a8e98176219d", func := "flagstone/flagstonelaw39.ScoreLists", spec := "scoreLists", apart := false }
def ScoreListsSaid : Prop := scoreListsRow.holds Try.pinned (OpenSpec.ofChange scoreListsSpec)

/-- ITS FALSE NEIGHBOUR: 'it returns false'. Refute it at one input. -/
def scoreListsWrong : ChangeSpec := { name := "scoreLists", fn := fun _ => fun
  | [d1, d2, d3, d4, d5, d6, d7] => { results := [.lit (.bool false)], args := [d1, d2, d3, d4, d5, d6, d7] }
  | _ => none }
def ScoreListsWrongFalsely : Prop := scoreListsRow.holds Try.pinned (OpenSpec.ofChange scoreListsWrong)

/-- 'flagstonelaw39.ScorePast': WHATEVER THE INPUT: true; the input reads as it did. -/
def scorePastSpec : ChangeSpec := { name := "scorePast", fn := fun _ => fun
  | [d1, d2, d3, d4, d5, d6, d7, d8] => { results := [.lit (.bool true)], args := [d1, d2, d3, d4, d5, d6, d7, d8] }
  | _ => none }
def scorePastRow : OpenClaim := { program := "ytdmhdbebjjhopaa", sum := "cbc8f7c65b80cdb3992a64724f39cf83225f2e4106584f280522a8e98176219d", func := "flagstone/flagstonelaw39.ScorePast", spec := "scorePast", apart := false }
def ScorePastSaid : Prop := scorePastRow.holds Try.pinned (OpenSpec.ofChange scorePastSpec)

/-- ITS FALSE NEIGHBOUR: 'it returns false'. Refute it at one input. -/
def scorePastWrong : ChangeSpec := { name := "scorePast", fn := fun _ => fun
  | [d1, d2, d3, d4, d5, d6, d7, d8] => { results := [.lit (.bool false)], args := [d1, d2, d3, d4, d5, d6, d7, d8] }
  | _ => none }
def ScorePastWrongFalsely : Prop := scorePastRow.holds Try.pinned (OpenSpec.ofChange scorePastWrong)

/-- 'flagstonelaw39.ScoreSums': WHATEVER THE INPUT: true; the input reads as it did. -/
def scoreSumsSpec : ChangeSpec := { name := "scoreSums", fn := fun _ => fun
  | [d1, d2, d3] => { results := [.lit (.bool true)], args := [d1, d2, d3] }
  | _ => none }
def scoreSumsRow : OpenClaim := { program := "ytdmhdbebjjhopaa", sum := "cbc8f7c65b80cdb3992a64724f39cf83225f2e4106584f280522a8e98176219d", func := "flagstone/flagstonelaw39.ScoreSums", spec := "scoreSums", apart := false }
def ScoreSumsSaid : Prop := scoreSumsRow.holds Try.pinned (OpenSpec.ofChange scoreSumsSpec)

/-- ITS FALSE NEIGHBOUR: 'it returns false'. Refute it at one input. -/
def scoreSumsWrong : ChangeSpec := { name := "scoreSums", fn := fun _ => fun
  | [d1, d2, d3] => { results := [.lit (.bool false)], args := [d1, d2, d3] }
  | _ => none }
def ScoreSumsWrongFalsely : Prop := scoreSumsRow.holds Try.pinned (OpenSpec.ofChange scoreSumsWrong)

/- THE SECOND FORM. 'bulk': how many values and letters a reading holds, each counted each time it is reached (what is shared counts as often as it is met; a slice's spare places count too). A statement '..UptoSaid' is the law's where the arguments, and the package variables that the reading takes, are together of bulk at most 1048576: NARROWER than '..Said'. Prove '..Said' where nothing that the law and all that it calls make is longer than what came in: it says more and counts as full. Else prove '..UptoSaid'. A law counts once. -/
mutual
def uptoBulk {H : Type} : DataW H → Nat
  | .lit (.string bytes) => bytes.length + 1
  | .lit _ => 1
  | .nil => 1
  | .ptr d => uptoBulk d + 1
  | .slice elems spare => uptoBulkAll elems + uptoBulkAll spare + 1
  | .agg parts => uptoBulkAll parts + 1
  | .iface _ d => uptoBulk d + 1
  | .map entries => uptoBulkEntries entries + 1
  | .held _ => 1
def uptoBulkAll {H : Type} : List (DataW H) → Nat
  | [] => 0
  | d :: r => uptoBulk d + uptoBulkAll r
def uptoBulkEntries {H : Type} : List (Lit × DataW H) → Nat
  | [] => 0
  | x :: r => uptoBulkEntry x + uptoBulkEntries r
def uptoBulkEntry {H : Type} : Lit × DataW H → Nat
  | (.string bytes, d) => bytes.length + uptoBulk d + 1
  | (_, d) => uptoBulk d + 1
 end
def uptoSmall : (H : Type) → List (DataW H) → Bool := fun _ ds => decide (uptoBulkAll ds ≤ 1048576)
def OpenSpec.upto (s : _root_.Go.ChangeSpec) : _root_.Go.OpenSpec := { _root_.Go.OpenSpec.ofChange s with cond := some uptoSmall }

/-- 'flagstonelaw39.ScorePredicts', WHERE WHAT IT READS IS OF BULK AT MOST 1048576: true; the input reads as it did. -/
def scorePredictsUptoRow : OpenClaim := { program := "ytdmhdbebjjhopaa", sum := "cbc8f7c65b80cdb3992a64724f39cf83225f2e4106584f280522a8e98176219d", func := "flagstone/flagstonelaw39.ScorePredicts", spec := "scorePredicts", apart := false, narrowed := true }
def ScorePredictsUptoSaid : Prop := scorePredictsUptoRow.holds Try.pinned (OpenSpec.upto scorePredictsSpec)

/-- 'flagstonelaw39.ScorePredictsAny', WHERE WHAT IT READS IS OF BULK AT MOST 1048576: true; the input reads as it did. -/
def scorePredictsAnyUptoRow : OpenClaim := { program := "ytdmhdbebjjhopaa", sum := "cbc8f7c65b80cdb3992a64724f39cf83225f2e4106584f280522a8e98176219d", func := "flagstone/flagstonelaw39.ScorePredictsAny", spec := "scorePredictsAny", apart := false, narrowed := true }
def ScorePredictsAnyUptoSaid : Prop := scorePredictsAnyUptoRow.holds Try.pinned (OpenSpec.upto scorePredictsAnySpec)

/-- 'flagstonelaw39.ScoreValid', WHERE WHAT IT READS IS OF BULK AT MOST 1048576: true; the input reads as it did. -/
def scoreValidUptoRow : OpenClaim := { program := "ytdmhdbebjjhopaa", sum := "cbc8f7c65b80cdb3992a64724f39cf83225f2e4106584f280522a8e98176219d", func := "flagstone/flagstonelaw39.ScoreValid", spec := "scoreValid", apart := false, narrowed := true }
def ScoreValidUptoSaid : Prop := scoreValidUptoRow.holds Try.pinned (OpenSpec.upto scoreValidSpec)

/-- 'flagstonelaw39.ScoreTells', WHERE WHAT IT READS IS OF BULK AT MOST 1048576: true; the input reads as it did. -/
def scoreTellsUptoRow : OpenClaim := { program := "ytdmhdbebjjhopaa", sum := "cbc8f7c65b80cdb3992a64724f39cf83225f2e4106584f280522a8e98176219d", func := "flagstone/flagstonelaw39.ScoreTells", spec := "scoreTells", apart := false, narrowed := true }
def ScoreTellsUptoSaid : Prop := scoreTellsUptoRow.holds Try.pinned (OpenSpec.upto scoreTellsSpec)

/-- 'flagstonelaw39.ScoreUnbiased', WHERE WHAT IT READS IS OF BULK AT MOST 1048576: true; the input reads as it did. -/
def scoreUnbiasedUptoRow : OpenClaim := { program := "ytdmhdbebjjhopaa", sum := "cbc8f7c65b80cdb3992a64724f39cf83225f2e4106584f280522a8e98176219d", func := "flagstone/flagstonelaw39.ScoreUnbiased", spec := "scoreUnbiased", apart := false, narrowed := true }
def ScoreUnbiasedUptoSaid : Prop := scoreUnbiasedUptoRow.holds Try.pinned (OpenSpec.upto scoreUnbiasedSpec)

/-- 'flagstonelaw39.ScoreLists', WHERE WHAT IT READS IS OF BULK AT MOST 1048576: true; the input reads as it did. -/
def scoreListsUptoRow : OpenClaim := { program := "ytdmhdbebjjhopaa", sum := "cbc8f7c65b80cdb3992a64724f39cf83225f2e4106584f280522a8e98176219d", func := "flagstone/flagstonelaw39.ScoreLists", spec := "scoreLists", apart := false, narrowed := true }
def ScoreListsUptoSaid : Prop := scoreListsUptoRow.holds Try.pinned (OpenSpec.upto scoreListsSpec)

/-- 'flagstonelaw39.ScorePast', WHERE WHAT IT READS IS OF BULK AT MOST 1048576: true; the input reads as it did. -/
def scorePastUptoRow : OpenClaim := { program := "ytdmhdbebjjhopaa", sum := "cbc8f7c65b80cdb3992a64724f39cf83225f2e4106584f280522a8e98176219d", func := "flagstone/flagstonelaw39.ScorePast", spec := "scorePast", apart := false, narrowed := true }
def ScorePastUptoSaid : Prop := scorePastUptoRow.holds Try.pinned (OpenSpec.upto scorePastSpec)

/-- 'flagstonelaw39.ScoreSums', WHERE WHAT IT READS IS OF BULK AT MOST 1048576: true; the input reads as it did. -/
def scoreSumsUptoRow : OpenClaim := { program := "ytdmhdbebjjhopaa", sum := "cbc8f7c65b80cdb3992a64724f39cf83225f2e4106584f280522a8e98176219d", func := "flagstone/flagstonelaw39.ScoreSums", spec := "scoreSums", apart := false, narrowed := true }
def ScoreSumsUptoSaid : Prop := scoreSumsUptoRow.holds Try.pinned (OpenSpec.upto scoreSumsSpec)

end Rows
end Go.Proofs.Ytdmhdbebjjhopaa
