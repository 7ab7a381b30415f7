/- Path of the program equals Path of the document's text, for any scores, effect and direction: both are pathS. -/
import Derived.Test.YtafcnpfhihnmgaaPA9
import Derived.Test.YtafcnpfhihnmgaaP1
import Derived.Test.YtafcnpfhihnmgaaP2
import Derived.Test.YtafcnpfhihnmgaaM6
import Derived.Test.YtafcnpfhihnmgaaM7w
namespace Go.Proofs.Ytafcnpfhihnmgaa.Pure
open Go Go.RowKit Go.Proofs.Ytafcnpfhihnmgaa.PA Go.Proofs.YtafcnpfhihnmgaaW.PrintWords Go.Proofs.YtafcnpfhihnmgaaW.PrintLast Go.Proofs.YtafcnpfhihnmgaaW.PrintMore Go.Proofs.Ytafcnpfhihnmgaa.M
set_option linter.unusedVariables false
set_option linter.unusedSimpArgs false

theorem WealthPaths : flagstonelaw40_WealthPaths.Pure := by
  intro l0 l1 a2 a3 a4 m0 y0 w0 m1 w1 w2 w3
  have hmax : maxLen ≤ 9223372036854775807 := by decide
  apply Ev.rounds
  unfold flagstonelaw40_WealthPaths.f
  refine Ev.bind awake_is (Ev.pos rfl (Ev.both (fun _ => ?_) (fun hl => ?_)))
  · exact Ev.step (f := fun _ => some true) (fun k => by simp only [flagstonelaw40_WealthPaths.j0]; rw [if_pos (by trivial)]) (Ev.now _)
  obtain ⟨S, hS, hS30⟩ := scores_are l0 (by omega)
  by_cases h40 : (l1.length : Int) > 40
  · rw [decide_eq_true h40]
    exact Ev.step (f := fun _ => some true) (fun k => by simp only [flagstonelaw40_WealthPaths.j0]; rw [if_pos (by trivial)]) (Ev.now _)
  rw [decide_eq_false h40]
  refine Ev.step (fun k => by simp only [flagstonelaw40_WealthPaths.j0]; rw [if_neg (by decide)]) ?_
  have len : ∀ e (L : List S28), (pathS e a4 4294967296 4294967296 4294967296 L).length = L.length := fun e L => pathS_length _ _ _ _ _ _
  refine Ev.bind hS (Ev.bind (wealth_Path_is _ _ _ (by omega)) (Ev.bind (flagstoneref40_Path_is _ _ _ (by omega)) (Ev.bind (same_self _ (by rw [len]; omega)) (Ev.pos rfl ?_))))
  refine Ev.bind (wealth_Path_is _ _ _ (by omega)) (Ev.bind (flagstoneref40_Path_is _ _ _ (by omega)) (Ev.bind (same_self _ (by rw [len]; omega)) (Ev.pos rfl ?_)))
  refine Ev.bind (wealth_Path_is _ _ _ (by omega)) (Ev.bind (flagstoneref40_Path_is _ _ _ (by omega)) (Ev.bind (same_self _ (by rw [len]; omega)) (Ev.now _)))
end Go.Proofs.Ytafcnpfhihnmgaa.Pure
