/- Of and Settles of the program and of the document's text are the same. No condition. -/
import Derived.Test.YtdclcdaoidbgbaaPA14
import Derived.Test.YtdclcdaoidbgbaaP1
import Derived.Test.YtdclcdaoidbgbaaM6
import Derived.Test.YtdclcdaoidbgbaaQ4
import Derived.Test.YtdclcdaoidbgbaaQ7
namespace Go.Proofs.Ytdclcdaoidbgbaa.Pure
open Go Go.RowKit Go.Proofs.Ytdclcdaoidbgbaa.PA Go.Proofs.YtdclcdaoidbgbaaW.PrintWords Go.Proofs.YtdclcdaoidbgbaaW.PrintLast Go.Proofs.YtdclcdaoidbgbaaW.PrintMore Go.Proofs.Ytdclcdaoidbgbaa.M
set_option linter.unusedVariables false
set_option linter.unusedSimpArgs false

theorem SequenceOf : flagstonelaw41_SequenceOf.Pure := by
  intro l0 a1 a2 L H m0 y0 w0 w1 w2 mL wL mH wH
  apply Ev.rounds
  unfold flagstonelaw41_SequenceOf.f
  have stop : ∀ b, b = true → Ev (fun k => flagstonelaw41_SequenceOf.j0 k l0 a1 a2 b L H) true := fun b hb => by
    subst hb
    exact Ev.step (f := fun _ => some true) (fun k => by simp only [flagstonelaw41_SequenceOf.j0]; rw [if_pos trivial]) (Ev.now _)
  refine Ev.bind awake41_is (Ev.pos rfl (Ev.both (fun _ => stop _ rfl) (fun hl => Ev.both (fun _ => stop _ rfl) (fun hL => ?_))))
  by_cases c : (H.length : Int) > 40
  · exact stop _ (decide_eq_true c)
  · rw [decide_eq_false c]
    obtain ⟨S, hS, hS30⟩ := scores_are l0 (by omega)
    generalize hn : wrap64 (1 + Int.tmod (wrap64 a1) 999) = n
    have l1 := lowsS_length (thresholdS n 2) S S.length 0
    have l2 := highsS_length (thresholdS n 2) S S.length 0
    obtain ⟨r, e1, e2⟩ := settles_same (L := lowsS (thresholdS n 2) S S.length 0) (H := highsS (thresholdS n 2) S S.length 0) (Int.tmod (wrap64 a2) 1100) (by omega) (by omega)
    obtain ⟨r', f1, f2⟩ := settles_same (L := L) (H := H) (wrap64 a2) (by omega) (by omega)
    refine Ev.step (fun k => by simp only [flagstonelaw41_SequenceOf.j0]; rfl) ?_
    rw [hn]
    refine Ev.neg (by decide) (Ev.bind hS (Ev.bind (Of41_is _ (by omega)) (Ev.bind (refOf41_is _ (by omega)) (Ev.bind (same_self _ (by dsimp only; omega)) (Ev.pos rfl (Ev.bind (same_self _ (by dsimp only; omega)) (Ev.pos rfl (Ev.bind e1 (Ev.bind e2 (Ev.pos rfl (Ev.bind f1 (Ev.bind f2 ?_))))))))))))
    rw [show (r' == r') = true by simp]
    exact Ev.now _
end Go.Proofs.Ytdclcdaoidbgbaa.Pure
