/- Valid of the program and of the document's text are the same. No condition. -/
import Derived.Test.YtdmhdbebjjhopaaPA10
import Derived.Test.YtdmhdbebjjhopaaA7
namespace Go.Proofs.Ytdmhdbebjjhopaa.Pure
open Go Go.RowKit Go.Proofs.Ytdmhdbebjjhopaa.PA Go.Proofs.YtdmhdbebjjhopaaW.PrintWords Go.Proofs.YtdmhdbebjjhopaaW.PrintLast Go.Proofs.YtdmhdbebjjhopaaW.PrintMore Go.Proofs.Ytdmhdbebjjhopaa.M
set_option linter.unusedVariables false
set_option linter.unusedSimpArgs false

theorem valid_some (n u r : Int) : ∃ b, score_Valid.f n u r = some b := by
  unfold score_Valid.f
  split
  · split
    · split
      · split
        · exact ⟨_, rfl⟩
        · exact ⟨_, rfl⟩
      · exact ⟨_, rfl⟩
    · exact ⟨_, rfl⟩
  · exact ⟨_, rfl⟩
theorem valid_same (n u r : Int) : flagstoneref39_Valid.f n u r = score_Valid.f n u r := rfl
theorem valid_l0 {L : List S37} (hL : L.length ≤ 10) : ∀ m i : Nat, L.length - i = m → i ≤ L.length → Ev (fun k => flagstonelaw39_ScoreValid.l0 k L (i : Int)) true := by
  intro m
  induction m with
  | zero =>
    intro i hm hi
    refine Ev.step (fun k => by simp only [flagstonelaw39_ScoreValid.l0]; rfl) ?_
    exact Ev.neg (by omega) (Ev.now _)
  | succ m ih =>
    intro i hm hi
    have hw : wrap64 ((i : Int) + 1) = ((i + 1 : Nat) : Int) := by rw [w64_id (by omega) (by omega)]; omega
    refine Ev.step (fun k => by simp only [flagstonelaw39_ScoreValid.l0]; rfl) ?_
    simp only [valid_same]
    obtain ⟨b, hb⟩ := valid_some (rd_T37 L (i : Int)).f0 (rd_T37 L (i : Int)).f1 (rd_T37 L (i : Int)).f2
    rw [hb, hw]
    refine Ev.pos (by omega) (Ev.pos (by omega) (Ev.bind (Ev.now _) (Ev.bind (Ev.now _) (Ev.neg (by simp) (ih (i + 1) (by omega) (by omega))))))
theorem ScoreValid : flagstonelaw39_ScoreValid.Pure := by
  intro n u r a b c w0 w1 w2 w3 w4 w5
  apply Ev.rounds
  unfold flagstonelaw39_ScoreValid.f
  exact Ev.bind awake39_is (Ev.pos rfl (valid_l0 (by simp) _ 0 rfl (by omega)))
end Go.Proofs.Ytdmhdbebjjhopaa.Pure
