/- The sanity check of chapter 41: by evaluation. -/
import Derived.Test.YtdclcdaoidbgbaaQ2
import Derived.Test.YtdclcdaoidbgbaaPA4
namespace Go.Proofs.Ytdclcdaoidbgbaa.PA
open Go Go.RowKit Go.Proofs.YtdclcdaoidbgbaaW.PrintWords Go.Proofs.YtdclcdaoidbgbaaW.PrintLast Go.Proofs.YtdclcdaoidbgbaaW.PrintMore Go.Proofs.Ytdclcdaoidbgbaa.M
set_option linter.unusedVariables false
set_option linter.unusedSimpArgs false

def ten : List S50 := List.replicate 30 ⟨10, 10, 20⟩
theorem aw1 : lowS (thresholdS 50 2) ([] : List S50) (([] : List S50).length : Int) = -1000 := by decide +kernel
theorem aw2 : highS (thresholdS 50 2) ([] : List S50) (([] : List S50).length : Int) = 1000 := by decide +kernel
theorem aw3 : lowS (thresholdS 50 2) ten (ten.length : Int) > 0 := by decide +kernel
theorem aw4 : highS (thresholdS 50 2) ten (ten.length : Int) = 1000 := by decide +kernel
theorem aw5 : lowS (thresholdS 1000 2) ten (ten.length : Int) = -1000 := by decide +kernel
theorem awake_l0 : ∀ n i : Nat, 30 - i = n → i ≤ 30 → Ev (fun k => flagstonelaw41_awake.l0 k (List.replicate i (⟨10, 10, 20⟩ : S50)) (i : Int)) true := by
  intro n
  induction n with
  | zero =>
    intro i hn hi
    obtain rfl : i = 30 := by omega
    refine Ev.step (fun k => by simp only [flagstonelaw41_awake.l0]; rfl) ?_
    refine Ev.neg (by decide) ?_
    refine Ev.bind (Lower_is 50 (by decide)) (Ev.pos aw1 (Ev.bind (Upper_is 50 (by decide)) (Ev.pos aw2 (Ev.bind (Lower_is (l := ten) 50 (by decide)) (Ev.pos aw3 (Ev.bind (Upper_is (l := ten) 50 (by decide)) (Ev.pos aw4 (Ev.bind (Lower_is (l := ten) 1000 (by decide)) ?_))))))))
    rw [aw5]
    exact Ev.now _
  | succ n ih =>
    intro i hn hi
    have hw : wrap64 ((i : Int) + 1) = ((i + 1 : Nat) : Int) := by rw [w64_id (by omega) (by omega)]; omega
    refine Ev.step (fun k => ?_) (ih (i + 1) (by omega) (by omega))
    simp only [flagstonelaw41_awake.l0]
    rw [if_pos (by omega), if_pos (by simp; omega), hw, List.replicate_succ']
theorem awake41_is : Ev (fun k => flagstonelaw41_awake.f k) true := by
  unfold flagstonelaw41_awake.f
  exact awake_l0 30 0 rfl (by omega)
end Go.Proofs.Ytdclcdaoidbgbaa.PA
