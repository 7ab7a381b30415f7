/- Scores with the opposite sign give the opposite interval. No condition. -/
import Derived.Test.YtdclcdaoidbgbaaPA16
import Derived.Test.YtdclcdaoidbgbaaP1
import Derived.Test.YtdclcdaoidbgbaaQ4
import Derived.Test.YtdclcdaoidbgbaaQ5
namespace Go.Proofs.Ytdclcdaoidbgbaa.Pure
open Go Go.RowKit Go.Proofs.Ytdclcdaoidbgbaa.PA Go.Proofs.YtdclcdaoidbgbaaW.PrintWords Go.Proofs.YtdclcdaoidbgbaaW.PrintLast Go.Proofs.YtdclcdaoidbgbaaW.PrintMore Go.Proofs.Ytdclcdaoidbgbaa.M
set_option linter.unusedVariables false
set_option linter.unusedSimpArgs false

theorem mir_l0 {a : Int} {S : List S50} (hS : S.length ≤ 30) (hb : ∀ s ∈ S, -2000 ≤ s.f0 ∧ s.f0 ≤ 2000) : ∀ m i : Nat, S.length - i = m → i ≤ S.length → Ev (fun k => flagstonelaw41_SequenceMirrors.l0 k a S ((S.take i).map flipS) (i : Int)) true := by
  intro m
  induction m with
  | zero =>
    intro i hm hi
    rw [List.take_of_length_le (by omega)]
    refine Ev.step (fun k => by simp only [flagstonelaw41_SequenceMirrors.l0]; rfl) ?_
    generalize wrap64 (1 + Int.tmod (wrap64 a) 999) = n
    have lo := lowS_spec (thr := thresholdS n 2) (l := S) (kk := S.length) (by omega) (by omega)
    have hi := highS_spec (thr := thresholdS n 2) (l := S) (kk := S.length) (by omega) (by omega)
    have hlen : ((S.map flipS).length : Int) = S.length := by rw [List.length_map]
    refine Ev.neg (by omega) (Ev.bind (Lower_is _ (by rw [List.length_map]; omega)) (Ev.bind (Upper_is _ (by omega)) (Ev.pos ?_ (Ev.bind (Upper_is _ (by rw [List.length_map]; omega)) (Ev.bind (Lower_is _ (by omega)) ?_)))))
    · rw [hlen, low_flip, w64_id (by omega) (by omega)]
    · rw [hlen, high_flip, w64_id (by omega) (by omega), show (-lowS (thresholdS n 2) S (S.length : Int) == -lowS (thresholdS n 2) S (S.length : Int)) = true by simp]
      exact Ev.now _
  | succ m ih =>
    intro i hm hi
    have hl : i < S.length := by omega
    have hw : wrap64 ((i : Int) + 1) = ((i + 1 : Nat) : Int) := by rw [w64_id (by omega) (by omega)]; omega
    refine Ev.step (fun k => by simp only [flagstonelaw41_SequenceMirrors.l0]; rfl) ?_
    rw [hw]
    have next := ih (i + 1) (by omega) (by omega)
    have hx := hb _ (List.getElem_mem hl)
    have e : (S.take i).map flipS ++ [(⟨wrap64 (-((rd_T50 S (i : Int)).f0)), (rd_T50 S (i : Int)).f1, (rd_T50 S (i : Int)).f2⟩ : S50)] = (S.take (i + 1)).map flipS := by
      rw [rd_S hl, w64_id (by omega) (by omega), List.take_succ_eq_append_getElem hl, List.map_append]
      rfl
    rw [e]
    exact Ev.pos (by omega) (Ev.pos (by omega) (Ev.pos (by rw [List.length_map, List.length_take]; omega) next))
theorem SequenceMirrors : flagstonelaw41_SequenceMirrors.Pure := by
  intro l0 a1 m0 y0 w0 w1
  apply Ev.rounds
  unfold flagstonelaw41_SequenceMirrors.f
  refine Ev.bind awake41_is (Ev.pos rfl (Ev.both (fun _ => Ev.now _) (fun hl => ?_)))
  obtain ⟨S, hS, hS30, hb⟩ := scores_fine l0 (by omega)
  exact Ev.bind hS (mir_l0 hS30 hb _ 0 rfl (by omega))
end Go.Proofs.Ytdclcdaoidbgbaa.Pure
