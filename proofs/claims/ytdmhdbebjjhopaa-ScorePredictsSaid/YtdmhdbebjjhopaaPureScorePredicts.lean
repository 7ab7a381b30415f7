/- Class and Predict of the program and of the document's text are the same. No condition. -/
import Derived.Test.YtdmhdbebjjhopaaPA8
import Derived.Test.YtdmhdbebjjhopaaA2
import Derived.Test.YtdmhdbebjjhopaaA3
import Derived.Test.YtdmhdbebjjhopaaA7
namespace Go.Proofs.Ytdmhdbebjjhopaa.Pure
open Go Go.RowKit Go.Proofs.Ytdmhdbebjjhopaa.PA Go.Proofs.YtdmhdbebjjhopaaW.PrintWords Go.Proofs.YtdmhdbebjjhopaaW.PrintLast Go.Proofs.YtdmhdbebjjhopaaW.PrintMore Go.Proofs.Ytdmhdbebjjhopaa.M
set_option linter.unusedVariables false
set_option linter.unusedSimpArgs false

theorem preds_l1 {cap i : Int} {S : List S34} (hS : S.length ≤ 40) (hc : ∀ x ∈ S, x.f3 ≤ 9223372036854775807) (h : Ev (fun k => flagstonelaw39_ScorePredicts.l0 k cap S (wrap64 (i + 1))) true) :
    ∀ m a : Nat, 4 - a = m → a ≤ 4 → Ev (fun k => flagstonelaw39_ScorePredicts.l1 k cap S i (a : Int)) true := by
  intro m
  induction m with
  | zero =>
    intro a hm ha
    refine Ev.step (fun k => by simp only [flagstonelaw39_ScorePredicts.l1]; rfl) ?_
    exact Ev.neg (by omega) h
  | succ m ih =>
    intro a hm ha
    have hw : wrap64 ((a : Int) + 1) = ((a + 1 : Nat) : Int) := by rw [w64_id (by omega) (by omega)]; omega
    refine Ev.step (fun k => by simp only [flagstonelaw39_ScorePredicts.l1]; rfl) ?_
    rw [hw]
    exact Ev.pos (by omega) (Ev.bind (Predict_is _ _ _ _ (by omega)) (Ev.bind (refPredict_is _ _ _ _ (by omega) hc) (Ev.pos rfl (ih (a + 1) (by omega) (by omega)))))
theorem preds_l0 {cap : Int} {S : List S34} (hS : S.length ≤ 40) (hc : ∀ x ∈ S, x.f3 ≤ 9223372036854775807) :
    ∀ (m : Nat) (i : Int), -1 ≤ i → (S.length : Int) + 1 - i = m → Ev (fun k => flagstonelaw39_ScorePredicts.l0 k cap S i) true := by
  intro m
  induction m with
  | zero =>
    intro i h0 hm
    refine Ev.step (fun k => by simp only [flagstonelaw39_ScorePredicts.l0]; rfl) ?_
    exact Ev.neg (by omega) (Ev.now _)
  | succ m ih =>
    intro i h0 hm
    refine Ev.step (fun k => by simp only [flagstonelaw39_ScorePredicts.l0]; rfl) ?_
    refine Ev.pos (by omega) (preds_l1 hS hc ?_ 4 0 rfl (by omega))
    rw [w64_id (by omega) (by omega)]
    exact ih (i + 1) (by omega) (by omega)
theorem ScorePredicts : flagstonelaw39_ScorePredicts.Pure := by
  intro l0 a1 a2 a3 a4 m0 y0 w0 w1 w2 w3 w4
  apply Ev.rounds
  unfold flagstonelaw39_ScorePredicts.f
  obtain ⟨c0, c1⟩ := u16_of w4
  obtain ⟨b0, b1⟩ := i64_of w1
  have e4 : wrap64 a4 = a4 := w64_id (by omega) (by omega)
  refine Ev.bind awake39_is (Ev.pos rfl (Ev.both (fun _ => Ev.now _) (fun hl => ?_)))
  rw [e4]
  obtain ⟨S, hS, hS40, hin⟩ := samples_are l0 (u8s w0) (by omega) a4 c0 (by omega)
  have hc : ∀ x ∈ S, x.f3 ≤ 9223372036854775807 := fun x hx => by have := (hin x hx).2.2.2.2.2; omega
  refine Ev.bind hS (Ev.bind (Class_is _) (Ev.bind (refClass_is b1) (Ev.pos rfl (Ev.bind (Class_is _) (Ev.bind (refClass_is (by omega)) (Ev.pos rfl (Ev.bind (Predict_is _ _ _ _ (by omega)) (Ev.bind (refPredict_is _ _ _ _ (by omega) hc) ?_))))))))
  rw [show (predictS S a2 a3 a4 != predictS S a2 a3 a4) = false by simp]
  refine Ev.step (fun k => by simp only [flagstonelaw39_ScorePredicts.j0]; rfl) ?_
  exact Ev.neg (by decide) (preds_l0 hS40 hc (S.length + 2) (-1) (by omega) (by omega))
end Go.Proofs.Ytdmhdbebjjhopaa.Pure
