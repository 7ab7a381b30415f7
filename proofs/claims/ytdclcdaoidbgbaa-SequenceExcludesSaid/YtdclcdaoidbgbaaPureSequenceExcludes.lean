/- The excluded effects are half-lines that end at Lower and at Upper. No condition. -/
import Derived.Test.YtdclcdaoidbgbaaPA15
import Derived.Test.YtdclcdaoidbgbaaP1
import Derived.Test.YtdclcdaoidbgbaaQ4
namespace Go.Proofs.Ytdclcdaoidbgbaa.Pure
open Go Go.RowKit Go.Proofs.Ytdclcdaoidbgbaa.PA Go.Proofs.YtdclcdaoidbgbaaW.PrintWords Go.Proofs.YtdclcdaoidbgbaaW.PrintLast Go.Proofs.YtdclcdaoidbgbaaW.PrintMore Go.Proofs.Ytdclcdaoidbgbaa.M
set_option linter.unusedVariables false
set_option linter.unusedSimpArgs false

theorem excl_j3 {x2 : List Int} {S : List S50} {n x11 e : Int} (b : Bool) (hS : S.length ≤ 30) (hb : b = false → -1000 ≤ e ∧ e ≤ 1000)
    (h : Ev (fun k => flagstonelaw41_SequenceExcludes.l0 k x2 S n (lowS (thresholdS n 2) S S.length) (highS (thresholdS n 2) S S.length) (wrap64 (x11 + 1))) true) :
    Ev (fun k => flagstonelaw41_SequenceExcludes.j3 k x2 S n (lowS (thresholdS n 2) S S.length) (highS (thresholdS n 2) S S.length) x11 e b) true := by
  have hl : S.length < 5864062014805 := by omega
  refine Ev.step (fun k => by simp only [flagstonelaw41_SequenceExcludes.j3]; rfl) ?_
  cases b with
  | true => exact Ev.pos rfl h
  | false =>
    obtain ⟨he0, he1⟩ := hb rfl
    refine Ev.neg (by decide) (Ev.bind (flagstoneref40_Path_is _ _ _ hl) (Ev.bind (flagstoneref40_Threshold_is _ _) (Ev.bind (flagstoneref40_First_is _ _ (by rw [pathS_length]; omega)) (Ev.bind (flagstoneref40_Path_is _ _ _ hl) (Ev.bind (flagstoneref40_Threshold_is _ _) (Ev.bind (flagstoneref40_First_is _ _ (by rw [pathS_length]; omega)) (Ev.neg ?_ (Ev.neg ?_ h))))))))
    · have q := first_above (thr := thresholdS n 2) (up := true) (e := e) hl
      have s := (lowS_spec (thr := thresholdS n 2) (l := S) (kk := S.length) (by omega) hl).2.2 e he0 he1
      unfold wealthS at q
      rw [q, show exB (thresholdS n 2) true S S.length e = decide (e < lowS (thresholdS n 2) S S.length) from Bool.eq_iff_iff.mpr (s.trans decide_eq_true_iff.symm)]
      simp
    · have q := first_above (thr := thresholdS n 2) (up := false) (e := e) hl
      have s := (highS_spec (thr := thresholdS n 2) (l := S) (kk := S.length) (by omega) hl).2.2 e he0 he1
      unfold wealthS at q
      rw [q, show exB (thresholdS n 2) false S S.length e = decide (e > highS (thresholdS n 2) S S.length) from Bool.eq_iff_iff.mpr (s.trans decide_eq_true_iff.symm)]
      simp
theorem excl_j2 {x2 : List Int} {S : List S50} {n x11 e : Int} (hS : S.length ≤ 30)
    (h : Ev (fun k => flagstonelaw41_SequenceExcludes.l0 k x2 S n (lowS (thresholdS n 2) S S.length) (highS (thresholdS n 2) S S.length) (wrap64 (x11 + 1))) true) :
    Ev (fun k => flagstonelaw41_SequenceExcludes.j2 k x2 S n (lowS (thresholdS n 2) S S.length) (highS (thresholdS n 2) S S.length) x11 e) true := by
  refine Ev.step (fun k => by simp only [flagstonelaw41_SequenceExcludes.j2]; rfl) ?_
  refine Ev.both (fun _ => excl_j3 true hS (fun c => by cases c) h) (fun h1 => excl_j3 _ hS (fun c => ⟨by omega, ?_⟩) h)
  have := of_decide_eq_false c
  omega
theorem excl_l0 {x2 : List Int} {S : List S50} {n : Int} (hS : S.length ≤ 30) (hx : x2.length ≤ 20) : ∀ m i : Nat, x2.length + 4 - i = m → i ≤ x2.length + 4 →
    Ev (fun k => flagstonelaw41_SequenceExcludes.l0 k x2 S n (lowS (thresholdS n 2) S S.length) (highS (thresholdS n 2) S S.length) (i : Int)) true := by
  intro m
  induction m with
  | zero =>
    intro i hn hi
    refine Ev.step (f := fun _ => some true) (fun k => ?_) (Ev.now _)
    simp only [flagstonelaw41_SequenceExcludes.l0]
    rw [if_neg (by rw [w64_id (by omega) (by omega)]; omega)]
  | succ m ih =>
    intro i hn hi
    have hw : wrap64 ((i : Int) + 1) = ((i + 1 : Nat) : Int) := by rw [w64_id (by omega) (by omega)]; omega
    have next := ih (i + 1) (by omega) (by omega)
    rw [← hw] at next
    have t4 : Int.tmod (i : Int) 4 = (i : Int) % 4 := Int.tmod_eq_emod_of_nonneg (by omega)
    refine Ev.step (fun k => by simp only [flagstonelaw41_SequenceExcludes.l0]; rfl) ?_
    rw [t4]
    refine Ev.pos (by rw [w64_id (by omega) (by omega)]; omega) (Ev.bind (Ev.now _) (Ev.pos (by omega) (Ev.pos (by simp; omega) (Ev.both (fun h4 => ?_) (fun _ => excl_j2 hS next)))))
    have hw4 : wrap64 ((i : Int) - 4) = (i : Int) - 4 := w64_id (by omega) (by omega)
    exact Ev.pos (by omega) (Ev.pos (by omega) (excl_j2 hS next))
theorem SequenceExcludes : flagstonelaw41_SequenceExcludes.Pure := by
  intro l0 a1 l2 m0 y0 w0 w1 m2 y2 w2
  apply Ev.rounds
  unfold flagstonelaw41_SequenceExcludes.f
  have stop : ∀ b, b = true → Ev (fun k => flagstonelaw41_SequenceExcludes.j0 k l0 a1 l2 b) true := fun b hb => by
    subst hb
    exact Ev.step (f := fun _ => some true) (fun k => by simp only [flagstonelaw41_SequenceExcludes.j0]; rw [if_pos trivial]) (Ev.now _)
  refine Ev.bind awake41_is (Ev.pos rfl (Ev.both (fun _ => stop _ rfl) (fun hl => ?_)))
  by_cases c : (l2.length : Int) > 20
  · exact stop _ (decide_eq_true c)
  · rw [decide_eq_false c]
    obtain ⟨S, hS, hS30⟩ := scores_are l0 (by omega)
    refine Ev.step (fun k => by simp only [flagstonelaw41_SequenceExcludes.j0]; rfl) ?_
    exact Ev.neg (by decide) (Ev.bind hS (Ev.bind (Lower_is _ (by omega)) (Ev.bind (Upper_is _ (by omega)) (excl_l0 hS30 (by omega) _ 0 rfl (by omega)))))
end Go.Proofs.Ytdclcdaoidbgbaa.Pure
