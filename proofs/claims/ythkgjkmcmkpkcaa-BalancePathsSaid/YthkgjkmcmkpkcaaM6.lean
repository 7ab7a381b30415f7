/- Equal lists are told to be equal. -/
import Derived.Test.YthkgjkmcmkpkcaaPA4
import Derived.Test.YthkgjkmcmkpkcaaM3
namespace Go.Proofs.Ythkgjkmcmkpkcaa.PA
open Go Go.RowKit Go.Proofs.YthkgjkmcmkpkcaaW.PrintWords Go.Proofs.YthkgjkmcmkpkcaaW.PrintLast Go.Proofs.YthkgjkmcmkpkcaaW.PrintMore Go.Proofs.Ythkgjkmcmkpkcaa.M
set_option linter.unusedVariables false
set_option linter.unusedSimpArgs false

/-! Equal lists are told to be equal. -/
theorem same_self (xs : List Int) (hm : xs.length ≤ 9223372036854775807) : Ev (fun k => flagstoneref30_SameInts.f k xs xs) true := by
  unfold flagstoneref30_SameInts.f
  refine Ev.pos rfl ?_
  have go : ∀ n i, xs.length - i = n → i ≤ xs.length → Ev (fun k => flagstoneref30_SameInts.l0 k xs xs (i : Int)) true := by
    intro n
    induction n with
    | zero =>
      intro i hn hi
      refine Ev.step (f := fun _ => some true) (fun k => ?_) (Ev.now _)
      simp only [flagstoneref30_SameInts.l0]
      rw [if_neg (by omega)]
    | succ n ih =>
      intro i hn hi
      have hw : wrap64 ((i : Int) + 1) = ((i + 1 : Nat) : Int) := by rw [w64_id (by omega) (by omega)]; omega
      refine Ev.step (fun k => ?_) (ih (i + 1) (by omega) (by omega))
      simp only [flagstoneref30_SameInts.l0]
      rw [if_pos (by omega), if_pos (by omega), if_pos (by omega), if_pos trivial, hw]
  exact go xs.length 0 (by omega) (by omega)
end Go.Proofs.Ythkgjkmcmkpkcaa.PA
