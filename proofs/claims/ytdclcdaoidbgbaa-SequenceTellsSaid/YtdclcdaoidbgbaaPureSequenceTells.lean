/- Lower and Upper of the program and of the document's text are the same. No condition. -/
import Derived.Test.YtdclcdaoidbgbaaPA15
import Derived.Test.YtdclcdaoidbgbaaP1
import Derived.Test.YtdclcdaoidbgbaaQ4
namespace Go.Proofs.Ytdclcdaoidbgbaa.Pure
open Go Go.RowKit Go.Proofs.Ytdclcdaoidbgbaa.PA Go.Proofs.YtdclcdaoidbgbaaW.PrintWords Go.Proofs.YtdclcdaoidbgbaaW.PrintLast Go.Proofs.YtdclcdaoidbgbaaW.PrintMore Go.Proofs.Ytdclcdaoidbgbaa.M
set_option linter.unusedVariables false
set_option linter.unusedSimpArgs false

theorem tells_l0 {a b : Int} {S : List S50} (hS : S.length ≤ 30) : ∀ n i : Nat, 3 - i = n → i ≤ 3 → Ev (fun k => flagstonelaw41_SequenceTells.l0 k a b S (i : Int)) true := by
  intro n
  induction n with
  | zero =>
    intro i hn hi
    refine Ev.step (f := fun _ => some true) (fun k => ?_) (Ev.now _)
    simp only [flagstonelaw41_SequenceTells.l0]
    rw [if_neg (by omega)]
  | succ n ih =>
    intro i hn hi
    have hw : wrap64 ((i : Int) + 1) = ((i + 1 : Nat) : Int) := by rw [w64_id (by omega) (by omega)]; omega
    refine Ev.step (fun k => by simp only [flagstonelaw41_SequenceTells.l0]; rfl) ?_
    refine Ev.pos (by omega) (Ev.bind (Ev.now _) (Ev.pos (by omega) (Ev.pos (by simp; omega) (Ev.bind (Lower_is _ (by omega)) (Ev.bind (refLower_is _ (by omega)) (Ev.pos rfl (Ev.bind (Upper_is _ (by omega)) (Ev.bind (refUpper_is _ (by omega)) (Ev.pos rfl ?_)))))))))
    rw [hw]
    exact ih (i + 1) (by omega) (by omega)
theorem SequenceTells : flagstonelaw41_SequenceTells.Pure := by
  intro l0 a1 a2 m0 y0 w0 w1 w2
  apply Ev.rounds
  unfold flagstonelaw41_SequenceTells.f
  refine Ev.bind awake41_is (Ev.pos rfl (Ev.both (fun _ => Ev.now _) (fun hl => ?_)))
  obtain ⟨S, hS, hS30⟩ := scores_are l0 (by omega)
  exact Ev.bind hS (tells_l0 hS30 3 0 rfl (by omega))
end Go.Proofs.Ytdclcdaoidbgbaa.Pure
