/- The sanity check of chapter 40's statements answers true. -/
import Derived.Test.YtafcnpfhihnmgaaPA2
import Derived.Test.YtafcnpfhihnmgaaM4
import Derived.Test.YtafcnpfhihnmgaaM5
namespace Go.Proofs.Ytafcnpfhihnmgaa.PA
open Go Go.RowKit Go.Proofs.YtafcnpfhihnmgaaW.PrintWords Go.Proofs.YtafcnpfhihnmgaaW.PrintLast Go.Proofs.YtafcnpfhihnmgaaW.PrintMore Go.Proofs.Ytafcnpfhihnmgaa.M
set_option linter.unusedVariables false
set_option linter.unusedSimpArgs false

theorem awake_is : Ev (fun k => flagstonelaw40_awake.f k) true := by
  unfold flagstonelaw40_awake.f
  refine Ev.bind (wealth_Factor_is 0 1 1 0 1 true) ?_
  have h1 : factorS 0 1 1 0 1 true = (8000, 8000) := by decide
  rw [h1]
  refine Ev.pos rfl (Ev.pos rfl (Ev.bind (wealth_Threshold_is 50 2) ?_))
  have h2 : thresholdS 50 2 = 171798691840 := by decide
  rw [h2]
  refine Ev.pos rfl (Ev.bind (wealth_Grow_is (by omega)) ?_)
  have h3 : growS 3 2 4 = 1 := by decide
  rw [h3]
  exact Ev.now _
end Go.Proofs.Ytafcnpfhihnmgaa.PA
