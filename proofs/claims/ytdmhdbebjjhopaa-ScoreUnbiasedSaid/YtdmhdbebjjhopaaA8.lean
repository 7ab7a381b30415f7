/- A score that there is is valid. -/
import Derived.Test.YtdmhdbebjjhopaaPA6
import Derived.Test.YtdmhdbebjjhopaaA6
namespace Go.Proofs.Ytdmhdbebjjhopaa.PA
open Go Go.RowKit Go.Proofs.YtdmhdbebjjhopaaW.PrintWords Go.Proofs.YtdmhdbebjjhopaaW.PrintLast Go.Proofs.YtdmhdbebjjhopaaW.PrintMore Go.Proofs.Ytdmhdbebjjhopaa.M
set_option linter.unusedVariables false
set_option linter.unusedSimpArgs false

theorem valid_true {n u r : Int} (h1 : 1 ≤ u) (h2 : u ≤ r) (h3 : r ≤ 562949953421312) (h4 : u - r ≤ n) (h5 : n ≤ r - u) : score_Valid.f n u r = some true := by
  unfold score_Valid.f
  rw [if_pos h1, if_pos h2, if_pos h3, w64_id (x := u - r) (by omega) (by omega), w64_id (x := r - u) (by omega) (by omega), if_pos h4, decide_eq_true h5]
theorem of_valid {s : List S34} {i c t cap : Int} {adj : Bool} (hl : s.length ≤ 1000000) (h : okS s i c t cap = true) : score_Valid.f (ofS s i c t cap adj).1 (ofS s i c t cap adj).2.1 (ofS s i c t cap adj).2.2.1 = some true := by
  obtain ⟨p1, p2, _, _, _, _, _, _, _, h1, h2, h3, h4, h5⟩ := of_good (adj := adj) hl h
  exact valid_true h1 h2 h3 h4 h5
theorem of_flag {s : List S34} {i c t cap : Int} {adj : Bool} : (ofS s i c t cap adj).2.2.2 = okS s i c t cap := by
  unfold ofS
  by_cases h : okS s i c t cap = true
  · rw [if_pos h, h]
  · rw [if_neg h, Bool.eq_false_iff.mpr h]
end Go.Proofs.Ytdmhdbebjjhopaa.PA
