/-
  No cell of these rows narrows 'for every input' (looked for: loops, veiled, ifaces, maps, wideKeys, modest, calm, conditions, laid).
  DERIVED. THE GIVEN ROWS OF THIS SEAT. 5 by the template 'for every input the law returns true; each argument reads behind the call as it read before'; 0 by the template 'total and deterministic' (their statements: YthkgjkmcmkpkcaaTotals.lean).
  GIVEN WITH THE SEED: the statements are not yours to turn. If you find one false, say at which input.
  Laid BY PROGRAM, IN A SANDBOX (cutbox-rows.mjs): the forced cells as the released guide's own fill.sh prints them over the translation 12b7e3b1eebc6d5d… (all of the seat's roots in one cut). By AI agents, Wed Nov 11 2026. No macro, syntax, notation, axiom, sorry.
-/
import Derived.Test.YthkgjkmcmkpkcaaChecked
import GoSem.Claim
import GoSem.ClaimJoined
import GoSem.ClaimMapViews
import Derived.JoinedTies
import Derived.KernelRfl
namespace Go.Proofs.Ythkgjkmcmkpkcaa
/- THE CELL 'sum', in the pinned program and in every row, IS THE sha256 OF THE DUMP (.gsa) THAT YthkgjkmcmkpkcaaProg.lean LOADS. Nothing in Lean hashes anything: it is a label: what it is worth is what the hold of that sum in a sandbox is worth. -/
noncomputable def Try.pinned : Pinned := { name := "ythkgjkmcmkpkcaa", sum := "12b7e3b1eebc6d5d1adcbc06a213c394fb92d1cdd5ea3a0358e3bfce378912ad", checked := Try.checked }
namespace Rows
def none {H : Type} : Left H := { results := [], args := [] }

/-- 'flagstonelaw42.BalanceSteps': WHATEVER THE INPUT: true; the input reads as it did. -/
def balanceStepsSpec : ChangeSpec := { name := "balanceSteps", fn := fun _ => fun
  | [d1, d2, d3, d4, d5, d6, d7] => { results := [.lit (.bool true)], args := [d1, d2, d3, d4, d5, d6, d7] }
  | _ => none }
def balanceStepsRow : OpenClaim := { program := "ythkgjkmcmkpkcaa", sum := "12b7e3b1eebc6d5d1adcbc06a213c394fb92d1cdd5ea3a0358e3bfce378912ad", func := "flagstone/flagstonelaw42.BalanceSteps", spec := "balanceSteps", named := ["math/bits.divideError", "math/bits.overflowError"], apart := false }
def BalanceStepsSaid : Prop := balanceStepsRow.holds Try.pinned (OpenSpec.ofChange balanceStepsSpec)

/-- ITS FALSE NEIGHBOUR: 'it returns false'. Refute it at one input. -/
def balanceStepsWrong : ChangeSpec := { name := "balanceSteps", fn := fun _ => fun
  | [d1, d2, d3, d4, d5, d6, d7] => { results := [.lit (.bool false)], args := [d1, d2, d3, d4, d5, d6, d7] }
  | _ => none }
def BalanceStepsWrongFalsely : Prop := balanceStepsRow.holds Try.pinned (OpenSpec.ofChange balanceStepsWrong)

/-- 'flagstonelaw42.BalanceFair': WHATEVER THE INPUT: true; the input reads as it did. -/
def balanceFairSpec : ChangeSpec := { name := "balanceFair", fn := fun _ => fun
  | [d1, d2, d3, d4] => { results := [.lit (.bool true)], args := [d1, d2, d3, d4] }
  | _ => none }
def balanceFairRow : OpenClaim := { program := "ythkgjkmcmkpkcaa", sum := "12b7e3b1eebc6d5d1adcbc06a213c394fb92d1cdd5ea3a0358e3bfce378912ad", func := "flagstone/flagstonelaw42.BalanceFair", spec := "balanceFair", named := ["math/bits.divideError", "math/bits.overflowError"], apart := false }
def BalanceFairSaid : Prop := balanceFairRow.holds Try.pinned (OpenSpec.ofChange balanceFairSpec)

/-- ITS FALSE NEIGHBOUR: 'it returns false'. Refute it at one input. -/
def balanceFairWrong : ChangeSpec := { name := "balanceFair", fn := fun _ => fun
  | [d1, d2, d3, d4] => { results := [.lit (.bool false)], args := [d1, d2, d3, d4] }
  | _ => none }
def BalanceFairWrongFalsely : Prop := balanceFairRow.holds Try.pinned (OpenSpec.ofChange balanceFairWrong)

/-- 'flagstonelaw42.BalanceLevel': WHATEVER THE INPUT: true; the input reads as it did. -/
def balanceLevelSpec : ChangeSpec := { name := "balanceLevel", fn := fun _ => fun
  | [d1, d2, d3, d4, d5] => { results := [.lit (.bool true)], args := [d1, d2, d3, d4, d5] }
  | _ => none }
def balanceLevelRow : OpenClaim := { program := "ythkgjkmcmkpkcaa", sum := "12b7e3b1eebc6d5d1adcbc06a213c394fb92d1cdd5ea3a0358e3bfce378912ad", func := "flagstone/flagstonelaw42.BalanceLevel", spec := "balanceLevel", recurses := true, named := ["math/bits.divideError", "math/bits.overflowError"], apart := false }
def BalanceLevelSaid : Prop := balanceLevelRow.holds Try.pinned (OpenSpec.ofChange balanceLevelSpec)

/-- ITS FALSE NEIGHBOUR: 'it returns false'. Refute it at one input. -/
def balanceLevelWrong : ChangeSpec := { name := "balanceLevel", fn := fun _ => fun
  | [d1, d2, d3, d4, d5] => { results := [.lit (.bool false)], args := [d1, d2, d3, d4, d5] }
  | _ => none }
def BalanceLevelWrongFalsely : Prop := balanceLevelRow.holds Try.pinned (OpenSpec.ofChange balanceLevelWrong)

/-- 'flagstonelaw42.BalancePaths': WHATEVER THE INPUT: true; the input reads as it did. -/
def balancePathsSpec : ChangeSpec := { name := "balancePaths", fn := fun _ => fun
  | [d1, d2, d3, d4, d5, d6, d7, d8] => { results := [.lit (.bool true)], args := [d1, d2, d3, d4, d5, d6, d7, d8] }
  | _ => none }
def balancePathsRow : OpenClaim := { program := "ythkgjkmcmkpkcaa", sum := "12b7e3b1eebc6d5d1adcbc06a213c394fb92d1cdd5ea3a0358e3bfce378912ad", func := "flagstone/flagstonelaw42.BalancePaths", spec := "balancePaths", unfollowed := true, recurses := true, named := ["math/bits.divideError", "math/bits.overflowError"], apart := false }
def BalancePathsSaid : Prop := balancePathsRow.holds Try.pinned (OpenSpec.ofChange balancePathsSpec)

/-- ITS FALSE NEIGHBOUR: 'it returns false'. Refute it at one input. -/
def balancePathsWrong : ChangeSpec := { name := "balancePaths", fn := fun _ => fun
  | [d1, d2, d3, d4, d5, d6, d7, d8] => { results := [.lit (.bool false)], args := [d1, d2, d3, d4, d5, d6, d7, d8] }
  | _ => none }
def BalancePathsWrongFalsely : Prop := balancePathsRow.holds Try.pinned (OpenSpec.ofChange balancePathsWrong)

/-- 'flagstonelaw42.BalanceFinds': WHATEVER THE INPUT: true; the input reads as it did. -/
def balanceFindsSpec : ChangeSpec := { name := "balanceFinds", fn := fun _ => fun
  | [d1, d2] => { results := [.lit (.bool true)], args := [d1, d2] }
  | _ => none }
def balanceFindsRow : OpenClaim := { program := "ythkgjkmcmkpkcaa", sum := "12b7e3b1eebc6d5d1adcbc06a213c394fb92d1cdd5ea3a0358e3bfce378912ad", func := "flagstone/flagstonelaw42.BalanceFinds", spec := "balanceFinds", unfollowed := true, recurses := true, named := ["math/bits.divideError", "math/bits.overflowError"], apart := false }
def BalanceFindsSaid : Prop := balanceFindsRow.holds Try.pinned (OpenSpec.ofChange balanceFindsSpec)

/-- ITS FALSE NEIGHBOUR: 'it returns false'. Refute it at one input. -/
def balanceFindsWrong : ChangeSpec := { name := "balanceFinds", fn := fun _ => fun
  | [d1, d2] => { results := [.lit (.bool false)], args := [d1, d2] }
  | _ => none }
def BalanceFindsWrongFalsely : Prop := balanceFindsRow.holds Try.pinned (OpenSpec.ofChange balanceFindsWrong)

/- THE SECOND FORM. 'bulk': how many values and letters a reading holds, each counted each time it is reached (what is shared counts as often as it is met; a slice's spare places count too). A statement '..UptoSaid' is the law's where the arguments, and the package variables that the reading takes, are together of bulk at most 1048576: NARROWER than '..Said'. Prove '..Said' where nothing that the law and all that it calls make is longer than what came in: it says more and counts as full. Else prove '..UptoSaid'. A law counts once. -/
mutual
def uptoBulk {H : Type} : DataW H → Nat
  | .lit (.string bytes) => bytes.length + 1
  | .lit _ => 1
  | .nil => 1
  | .ptr d => uptoBulk d + 1
  | .slice elems spare => uptoBulkAll elems + uptoBulkAll spare + 1
  | .agg parts => uptoBulkAll parts + 1
  | .iface _ d => uptoBulk d + 1
  | .map entries => uptoBulkEntries entries + 1
  | .held _ => 1
def uptoBulkAll {H : Type} : List (DataW H) → Nat
  | [] => 0
  | d :: r => uptoBulk d + uptoBulkAll r
def uptoBulkEntries {H : Type} : List (Lit × DataW H) → Nat
  | [] => 0
  | x :: r => uptoBulkEntry x + uptoBulkEntries r
def uptoBulkEntry {H : Type} : Lit × DataW H → Nat
  | (.string bytes, d) => bytes.length + uptoBulk d + 1
  | (_, d) => uptoBulk d + 1
 end
def uptoSmall : (H : Type) → List (DataW H) → Bool := fun _ ds => decide (uptoBulkAll ds ≤ 1048576)
def OpenSpec.upto (s : _root_.Go.ChangeSpec) : _root_.Go.OpenSpec := { _root_.Go.OpenSpec.ofChange s with cond := some uptoSmall }

/-- 'flagstonelaw42.BalanceSteps', WHERE WHAT IT READS IS OF BULK AT MOST 1048576: true; the input reads as it did. -/
def balanceStepsUptoRow : OpenClaim := { program := "ythkgjkmcmkpkcaa", sum := "12b7e3b1eebc6d5d1adcbc06a213c394fb92d1cdd5ea3a0358e3bfce378912ad", func := "flagstone/flagstonelaw42.BalanceSteps", spec := "balanceSteps", named := ["math/bits.divideError", "math/bits.overflowError"], apart := false, narrowed := true }
def BalanceStepsUptoSaid : Prop := balanceStepsUptoRow.holds Try.pinned (OpenSpec.upto balanceStepsSpec)

/-- 'flagstonelaw42.BalanceFair', WHERE WHAT IT READS IS OF BULK AT MOST 1048576: true; the input reads as it did. -/
def balanceFairUptoRow : OpenClaim := { program := "ythkgjkmcmkpkcaa", sum := "12b7e3b1eebc6d5d1adcbc06a213c394fb92d1cdd5ea3a0358e3bfce378912ad", func := "flagstone/flagstonelaw42.BalanceFair", spec := "balanceFair", named := ["math/bits.divideError", "math/bits.overflowError"], apart := false, narrowed := true }
def BalanceFairUptoSaid : Prop := balanceFairUptoRow.holds Try.pinned (OpenSpec.upto balanceFairSpec)

/-- 'flagstonelaw42.BalanceLevel', WHERE WHAT IT READS IS OF BULK AT MOST 1048576: true; the input reads as it did. -/
def balanceLevelUptoRow : OpenClaim := { program := "ythkgjkmcmkpkcaa", sum := "12b7e3b1eebc6d5d1adcbc06a213c394fb92d1cdd5ea3a0358e3bfce378912ad", func := "flagstone/flagstonelaw42.BalanceLevel", spec := "balanceLevel", recurses := true, named := ["math/bits.divideError", "math/bits.overflowError"], apart := false, narrowed := true }
def BalanceLevelUptoSaid : Prop := balanceLevelUptoRow.holds Try.pinned (OpenSpec.upto balanceLevelSpec)

/-- 'flagstonelaw42.BalancePaths', WHERE WHAT IT READS IS OF BULK AT MOST 1048576: true; the input reads as it did. -/
def balancePathsUptoRow : OpenClaim := { program := "ythkgjkmcmkpkcaa", sum := "12b7e3b1eebc6d5d1adcbc06a213c394fb92d1cdd5ea3a0358e3bfce378912ad", func := "flagstone/flagstonelaw42.BalancePaths", spec := "balancePaths", unfollowed := true, recurses := true, named := ["math/bits.divideError", "math/bits.overflowError"], apart := false, narrowed := true }
def BalancePathsUptoSaid : Prop := balancePathsUptoRow.holds Try.pinned (OpenSpec.upto balancePathsSpec)

/-- 'flagstonelaw42.BalanceFinds', WHERE WHAT IT READS IS OF BULK AT MOST 1048576: true; the input reads as it did. -/
def balanceFindsUptoRow : OpenClaim := { program := "ythkgjkmcmkpkcaa", sum := "12b7e3b1eebc6d5d1adcbc06a213c394fb92d1cdd5ea3a0358e3bfce378912ad", func := "flagstone/flagstonelaw42.BalanceFinds", spec := "balanceFinds", unfollowed := true, recurses := true, named := ["math/bits.divideError", "math/bits.overflowError"], apart := false, narrowed := true }
def BalanceFindsUptoSaid : Prop := balanceFindsUptoRow.holds Try.pinned (OpenSpec.upto balanceFindsSpec)

end Rows
end Go.Proofs.Ythkgjkmcmkpkcaa
