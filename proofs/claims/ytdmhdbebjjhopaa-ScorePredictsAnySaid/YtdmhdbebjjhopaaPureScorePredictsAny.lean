/- Predict of the program and of the document's text are the same, for samples with any Values. No condition. -/
import Derived.Test.YtdmhdbebjjhopaaPA17
import Derived.Test.YtdmhdbebjjhopaaA2
import Derived.Test.YtdmhdbebjjhopaaA7
namespace Go.Proofs.Ytdmhdbebjjhopaa.Pure
open Go Go.RowKit Go.Proofs.Ytdmhdbebjjhopaa.PA Go.Proofs.YtdmhdbebjjhopaaW.PrintWords Go.Proofs.YtdmhdbebjjhopaaW.PrintLast Go.Proofs.YtdmhdbebjjhopaaW.PrintMore Go.Proofs.Ytdmhdbebjjhopaa.M
set_option linter.unusedVariables false
set_option linter.unusedSimpArgs false

theorem any_l0 {S : List S34} {k arm cap : Int} (hk : 0 ≤ k ∧ k ≤ 255) (hS : S.length ≤ 60) (hc : ∀ x ∈ S, x.f3 ≤ 9223372036854775807) : ∀ m i : Nat, S.length - i = m → i ≤ S.length → ∀ X : List S34, X.length = i → (∀ x ∈ X, x.f3 ≤ 9223372036854775807) →
    Ev (fun n => flagstonelaw39_ScorePredictsAny.l0 n S k arm cap X (i : Int)) true := by
  intro m
  induction m with
  | zero =>
    intro i hm hi X hX hx
    refine Ev.step (fun n => by simp only [flagstonelaw39_ScorePredictsAny.l0]; rfl) ?_
    refine Ev.neg (by omega) (Ev.neg (by rw [w64_id (by omega) (by omega)]; omega) (Ev.bind (Predict_is _ _ _ _ (by omega)) (Ev.bind (refPredict_is _ _ _ _ (by omega) hx) ?_)))
    rw [show ∀ z : Int, (z == z) = true from fun z => by simp]
    exact Ev.now _
  | succ m ih =>
    intro i hm hi X hX hx
    have hl : i < S.length := by omega
    have hw : wrap64 ((i : Int) + 1) = ((i + 1 : Nat) : Int) := by rw [w64_id (by omega) (by omega)]; omega
    refine Ev.step (fun n => by simp only [flagstonelaw39_ScorePredictsAny.l0]; rfl) ?_
    refine Ev.pos (by omega) (Ev.pos (by omega) ?_)
    refine Ev.step (fun n => by simp only [flagstonelaw39_ScorePredictsAny.j1]; rfl) ?_
    refine Ev.step (fun n => by simp only [flagstonelaw39_ScorePredictsAny.j2]; rfl) ?_
    rw [hw]
    refine Ev.pos (by omega) (ih (i + 1) (by omega) (by omega) _ (by simp; omega) (fun x h => ?_))
    rcases List.mem_append.mp h with h | h
    · exact hx x h
    · rw [List.mem_singleton] at h
      subst h
      rw [rd_T hl]
      exact hc S[i] (List.getElem_mem hl)
theorem ScorePredictsAny : flagstonelaw39_ScorePredictsAny.Pure := by
  intro l0 k arm cap m0 w0 w1 w2 w3
  apply Ev.rounds
  unfold flagstonelaw39_ScorePredictsAny.f
  refine Ev.bind awake39_is (Ev.pos rfl (Ev.both (fun _ => Ev.now _) (fun hl => ?_)))
  exact any_l0 (u8_of w1) (by omega) (fun x hx => (i64_of (w0 x hx).2.2.2.1).2) _ 0 rfl (by omega) [] rfl (fun x hx => by cases hx)
end Go.Proofs.Ytdmhdbebjjhopaa.Pure
