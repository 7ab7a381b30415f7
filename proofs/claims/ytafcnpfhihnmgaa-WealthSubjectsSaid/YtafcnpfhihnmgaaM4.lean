/- Which scores are valid, of the program and of the document's text; what the factor of a bet is. -/
import Derived.Test.YtafcnpfhihnmgaaPA2
import Derived.Test.YtafcnpfhihnmgaaM3
namespace Go.Proofs.Ytafcnpfhihnmgaa.PA
open Go Go.RowKit Go.Proofs.YtafcnpfhihnmgaaW.PrintWords Go.Proofs.YtafcnpfhihnmgaaW.PrintLast Go.Proofs.YtafcnpfhihnmgaaW.PrintMore Go.Proofs.Ytafcnpfhihnmgaa.M
set_option linter.unusedVariables false
set_option linter.unusedSimpArgs false

/-! The valid scores. -/
def validS (num unit range : Int) : Bool := decide (1 ≤ unit ∧ unit ≤ range ∧ range ≤ 562949953421312 ∧ unit - range ≤ num ∧ num ≤ range - unit)
theorem score_Valid_is (n u r : Int) : score_Valid.f n u r = some (validS n u r) := by
  unfold score_Valid.f validS
  by_cases h1 : 1 ≤ u
  · rw [if_pos h1]
    by_cases h2 : u ≤ r
    · rw [if_pos h2]
      by_cases h3 : r ≤ 562949953421312
      · rw [if_pos h3, w64_id (x := u - r) (by omega) (by omega), w64_id (x := r - u) (by omega) (by omega)]
        by_cases h4 : u - r ≤ n
        · rw [if_pos h4]; congr 1; simp [h1, h2, h3, h4]
        · rw [if_neg h4]; congr 1; simp [h4]
      · rw [if_neg h3]; congr 1; simp [h3]
    · rw [if_neg h2]; congr 1; simp [h2]
  · rw [if_neg h1]; congr 1; simp [h1]
theorem validS_iff {n u r : Int} : validS n u r = true ↔ (1 ≤ u ∧ u ≤ r ∧ r ≤ 562949953421312 ∧ u - r ≤ n ∧ n ≤ r - u) := by unfold validS; simp

/-! The factor of a bet. -/
def factorS (n u r e b : Int) (up : Bool) : Int × Int :=
  if validS n u r = true ∧ -1000 ≤ e ∧ e ≤ 1000 ∧ 0 ≤ b ∧ b ≤ 4 then (if up = true then (8000 * r + b * (1000 * n - u * e), 8000 * r) else (8000 * r - b * (1000 * n - u * e), 8000 * r)) else (1, 1)
/-- What a bet can gain. -/
theorem gain_bound {n u r e b : Int} (hv : validS n u r = true) (he0 : -1000 ≤ e) (he1 : e ≤ 1000) (hb0 : 0 ≤ b) (hb1 : b ≤ 4) :
    -1000 * u ≤ u * e ∧ u * e ≤ 1000 * u ∧ -4000 * r ≤ b * (1000 * n - u * e) ∧ b * (1000 * n - u * e) ≤ 4000 * r ∧ 8 ≤ 8 * r ∧ r ≤ 562949953421312 := by
  obtain ⟨h1, h2, h3, h4, h5⟩ := validS_iff.mp hv
  have k1 : u * e ≤ u * 1000 := Int.mul_le_mul_of_nonneg_left he1 (by omega)
  have k2 : u * (-1000) ≤ u * e := Int.mul_le_mul_of_nonneg_left he0 (by omega)
  generalize u * e = ue at *
  have k3 : b * (1000 * n - ue) ≤ b * (1000 * r) := Int.mul_le_mul_of_nonneg_left (by omega) hb0
  have k4 : b * (-(1000 * r)) ≤ b * (1000 * n - ue) := Int.mul_le_mul_of_nonneg_left (by omega) hb0
  have k5 : b * (1000 * r) ≤ 4 * (1000 * r) := Int.mul_le_mul_of_nonneg_right hb1 (by omega)
  rw [Int.mul_neg] at k4
  omega
theorem wealth_Factor_bad (e b : Int) (up : Bool) (n u r : Int) : Ev (fun k => wealth_Factor.j0 k e b up true n u r) (1, 1) := Ev.step (f := fun _ => some (1, 1)) (fun k => by simp only [wealth_Factor.j0]; rw [if_pos (by trivial)]) (Ev.now _)
theorem wealth_Factor_is (n u r e b : Int) (up : Bool) : Ev (fun k => wealth_Factor.f k n u r e b up) (factorS n u r e b up) := by
  unfold wealth_Factor.f
  rw [score_Valid_is]
  simp only [Option.bind_some]
  unfold factorS
  by_cases hv : validS n u r = true
  · refine Ev.pos hv ?_
    by_cases h : -1000 ≤ e ∧ e ≤ 1000 ∧ 0 ≤ b ∧ b ≤ 4
    · rw [if_pos ⟨hv, h⟩]
      refine Ev.neg (by omega) (Ev.neg (by omega) (Ev.neg (by omega) ?_))
      rw [decide_eq_false (show ¬ b > 4 by omega)]
      obtain ⟨v1, v2, v3, v4, v5⟩ := validS_iff.mp hv
      obtain ⟨g1, g2, g3, g4, g5, g6⟩ := gain_bound hv h.1 h.2.1 h.2.2.1 h.2.2.2
      have e1 : wrap64 (8 * r) = 8 * r := w64_id (by omega) (by omega)
      have e2 : wrap64 (8 * r * 1000) = 8000 * r := by rw [w64_id (by omega) (by omega)]; omega
      have e3 : wrap64 (n * 1000) = 1000 * n := by rw [w64_id (by omega) (by omega)]; omega
      have e4 : wrap64 (u * e) = u * e := w64_id (by omega) (by omega)
      have e5 : wrap64 (1000 * n - u * e) = 1000 * n - u * e := w64_id (by omega) (by omega)
      have e6 : wrap64 (b * (1000 * n - u * e)) = b * (1000 * n - u * e) := w64_id (by omega) (by omega)
      refine Ev.step (f := fun _ => some _) (fun k => ?_) (Ev.now _)
      simp only [wealth_Factor.j0]
      rw [if_neg (by decide), e1, e2, e3, e4, e5, e6, w64_id (by omega) (by omega), w64_id (by omega) (by omega)]
      cases up <;> rfl
    · rw [if_neg (fun c => h c.2)]
      refine Ev.both (fun _ => wealth_Factor_bad e b up n u r) (fun h1 => Ev.both (fun _ => wealth_Factor_bad e b up n u r) (fun h2 => Ev.both (fun _ => wealth_Factor_bad e b up n u r) (fun h3 => ?_)))
      rw [decide_eq_true (show b > 4 by omega)]
      exact wealth_Factor_bad e b up n u r
  · rw [if_neg (fun c => hv c.1)]
    exact Ev.neg hv (wealth_Factor_bad e b up n u r)

end Go.Proofs.Ytafcnpfhihnmgaa.PA
