/- Factor of the program equals Factor of the document's text, for any arguments; and for all of the scores it is between a half and one and a half. -/
import Derived.Test.YtafcnpfhihnmgaaPA4
import Derived.Test.YtafcnpfhihnmgaaP1
import Derived.Test.YtafcnpfhihnmgaaP2
import Derived.Test.YtafcnpfhihnmgaaM7w
namespace Go.Proofs.Ytafcnpfhihnmgaa.Pure
open Go Go.RowKit Go.Proofs.Ytafcnpfhihnmgaa.PA Go.Proofs.YtafcnpfhihnmgaaW.PrintWords Go.Proofs.YtafcnpfhihnmgaaW.PrintLast Go.Proofs.YtafcnpfhihnmgaaW.PrintMore Go.Proofs.Ytafcnpfhihnmgaa.M
set_option linter.unusedVariables false
set_option linter.unusedSimpArgs false

theorem factor_range (n u r e b : Int) (up : Bool) : (factorS n u r e b up).2 ≤ 4503599627370496000 ∧ 1 ≤ (factorS n u r e b up).2 ∧
    (factorS n u r e b up).2 / 2 ≤ (factorS n u r e b up).1 ∧ (factorS n u r e b up).1 - (factorS n u r e b up).2 ≤ (factorS n u r e b up).2 / 2 := by
  by_cases h : validS n u r = true ∧ -1000 ≤ e ∧ e ≤ 1000 ∧ 0 ≤ b ∧ b ≤ 4
  · obtain ⟨g1, g2, g3, g4, g5, g6⟩ := gain_bound h.1 h.2.1 h.2.2.1 h.2.2.2.1 h.2.2.2.2
    unfold factorS
    rw [if_pos h]
    generalize b * (1000 * n - u * e) = x at *
    clear g1 g2 h
    split <;> simp only <;> omega
  · unfold factorS
    rw [if_neg h]
    decide
theorem facts_l1 {x : Int} {up : Bool} {S : List S28} {i : Int} (hi : 0 ≤ i) (hi1 : i < S.length) (done : Ev (fun k => flagstonelaw40_WealthFactors.l0 k x up S (wrap64 (i + 1))) true) :
    ∀ n b, (6 - b).toNat = n → -1 ≤ b → b ≤ 6 → Ev (fun k => flagstonelaw40_WealthFactors.l1 k x up S i b) true := by
  intro n
  induction n with
  | zero =>
    intro b hn h0 h1
    refine Ev.step (fun k => ?_) done
    simp only [flagstonelaw40_WealthFactors.l1]
    rw [if_neg (by omega)]
  | succ n ih =>
    intro b hn h0 h1
    have hw : wrap64 (b + 1) = b + 1 := w64_id (by omega) (by omega)
    refine Ev.step (fun k => by simp only [flagstonelaw40_WealthFactors.l1]; rfl) ?_
    refine Ev.pos (by omega) (Ev.pos hi (Ev.pos hi1 (Ev.bind (wealth_Factor_is _ _ _ _ _ _) (Ev.bind (flagstoneref40_Factor_is _ _ _ _ _ _) ?_))))
    obtain ⟨r1, r2, r3, r4⟩ := factor_range ((rd_T28 S i).f0) ((rd_T28 S i).f1) ((rd_T28 S i).f2) (Int.tmod (wrap64 x) 1002) b up
    have e1 : wrap64 (Int.tdiv (factorS ((rd_T28 S i).f0) ((rd_T28 S i).f1) ((rd_T28 S i).f2) (Int.tmod (wrap64 x) 1002) b up).2 2) = (factorS ((rd_T28 S i).f0) ((rd_T28 S i).f1) ((rd_T28 S i).f2) (Int.tmod (wrap64 x) 1002) b up).2 / 2 := by
      rw [Int.tdiv_eq_ediv_of_nonneg (by omega)]
      exact w64_id (by omega) (by omega)
    have e2 : wrap64 ((factorS ((rd_T28 S i).f0) ((rd_T28 S i).f1) ((rd_T28 S i).f2) (Int.tmod (wrap64 x) 1002) b up).1 - (factorS ((rd_T28 S i).f0) ((rd_T28 S i).f1) ((rd_T28 S i).f2) (Int.tmod (wrap64 x) 1002) b up).2) = (factorS ((rd_T28 S i).f0) ((rd_T28 S i).f1) ((rd_T28 S i).f2) (Int.tmod (wrap64 x) 1002) b up).1 - (factorS ((rd_T28 S i).f0) ((rd_T28 S i).f1) ((rd_T28 S i).f2) (Int.tmod (wrap64 x) 1002) b up).2 := w64_id (by omega) (by omega)
    rw [e1, e2]
    refine Ev.pos rfl (Ev.pos rfl (Ev.neg (by omega) ?_))
    rw [decide_eq_false (by omega)]
    refine Ev.step (fun k => ?_) (ih (b + 1) (by omega) (by omega) (by omega))
    simp only [flagstonelaw40_WealthFactors.j3]
    rw [if_neg (by decide), hw]
theorem facts_l0 {x : Int} {up : Bool} {S : List S28} (hS : S.length ≤ 1000) : ∀ n i, S.length - i = n → i ≤ S.length → Ev (fun k => flagstonelaw40_WealthFactors.l0 k x up S (i : Int)) true := by
  intro n
  induction n with
  | zero =>
    intro i hn hi
    refine Ev.step (f := fun _ => some true) (fun k => ?_) (Ev.now _)
    simp only [flagstonelaw40_WealthFactors.l0]
    rw [if_neg (by omega)]
  | succ n ih =>
    intro i hn hi
    have hw : wrap64 ((i : Int) + 1) = ((i + 1 : Nat) : Int) := by rw [w64_id (by omega) (by omega)]; omega
    refine Ev.step (fun k => ?_) (facts_l1 (x := x) (up := up) (S := S) (i := (i : Int)) (by omega) (by omega) (by rw [hw]; exact ih (i + 1) (by omega) (by omega)) 7 (-1) (by decide) (by decide) (by decide))
    simp only [flagstonelaw40_WealthFactors.l0]
    rw [if_pos (by omega)]
theorem WealthFactors : flagstonelaw40_WealthFactors.Pure := by
  intro a0 a1 a2 a3 a4 l5 a6 a7 w0 w1 w2 w3 w4 m5 y5 w5 w6
  apply Ev.rounds
  unfold flagstonelaw40_WealthFactors.f
  refine Ev.bind awake_is (Ev.pos rfl (Ev.both (fun _ => Ev.now _) (fun hl => ?_)))
  obtain ⟨S, hS, hS30⟩ := scores_are l5 (by omega)
  refine Ev.bind (wealth_Factor_is _ _ _ _ _ _) (Ev.bind (flagstoneref40_Factor_is _ _ _ _ _ _) (Ev.pos rfl ?_))
  refine Ev.step (fun k => by simp only [flagstonelaw40_WealthFactors.j0]; rw [if_neg (by simp)]) ?_
  refine Ev.bind hS (Ev.bind (Ev.now _) (Ev.pos (by simp; omega) ?_))
  exact facts_l0 (by simp; omega) _ 0 rfl (by omega)
end Go.Proofs.Ytafcnpfhihnmgaa.Pure
