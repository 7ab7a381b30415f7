/- Thresholds, and the first element of a path that reaches one. -/
import Derived.Test.YtafcnpfhihnmgaaPA2
import Derived.Test.YtafcnpfhihnmgaaM3
namespace Go.Proofs.Ytafcnpfhihnmgaa.PA
open Go Go.RowKit Go.Proofs.YtafcnpfhihnmgaaW.PrintWords Go.Proofs.YtafcnpfhihnmgaaW.PrintLast Go.Proofs.YtafcnpfhihnmgaaW.PrintMore Go.Proofs.Ytafcnpfhihnmgaa.M
set_option linter.unusedVariables false
set_option linter.unusedSimpArgs false

/-! Thresholds. -/
def thresholdS (level sides : Int) : Int := if 1 ≤ level ∧ level ≤ 999 ∧ 1 ≤ sides ∧ sides ≤ 1000 then (sides * 4294967296000 + level - 1) / level else 2305843009213693953
theorem wealth_Threshold_bad (a b : Int) : Ev (fun k => wealth_Threshold.j0 k a b true) 2305843009213693953 := Ev.step (f := fun _ => some _) (fun k => by simp only [wealth_Threshold.j0]; rw [if_pos (by trivial)]) (Ev.now _)
theorem wealth_Threshold_is (a b : Int) : Ev (fun k => wealth_Threshold.f k a b) (thresholdS a b) := by
  unfold wealth_Threshold.f thresholdS
  by_cases h : 1 ≤ a ∧ a ≤ 999 ∧ 1 ≤ b ∧ b ≤ 1000
  · rw [if_pos h]
    refine Ev.neg (by omega) (Ev.neg (by omega) (Ev.neg (by omega) ?_))
    rw [decide_eq_false (show ¬ b > 1000 by omega)]
    refine Ev.step (f := fun _ => some _) (fun k => ?_) (Ev.now _)
    simp only [wealth_Threshold.j0]
    rw [if_neg (by decide), if_neg (by omega)]
    have e1 : wrap64 (b * 1000) = b * 1000 := w64_id (by omega) (by omega)
    have e2 : wrap64 (b * 1000 * 4294967296) = b * 4294967296000 := by rw [w64_id (by omega) (by omega)]; omega
    have e3 : wrap64 (b * 4294967296000 + a) = b * 4294967296000 + a := w64_id (by omega) (by omega)
    have e4 : wrap64 (b * 4294967296000 + a - 1) = b * 4294967296000 + a - 1 := w64_id (by omega) (by omega)
    have e5 : 0 ≤ (b * 4294967296000 + a - 1) / a := Int.ediv_nonneg (by omega) (by omega)
    have e6 : (b * 4294967296000 + a - 1) / a ≤ b * 4294967296000 + a - 1 := Int.ediv_le_self _ (by omega)
    rw [e1, e2, e3, e4, Int.tdiv_eq_ediv_of_nonneg (by omega), w64_id (by omega) (by omega)]
  · rw [if_neg h]
    refine Ev.both (fun _ => wealth_Threshold_bad a b) (fun h1 => Ev.both (fun _ => wealth_Threshold_bad a b) (fun h2 => Ev.both (fun _ => wealth_Threshold_bad a b) (fun h3 => ?_)))
    rw [decide_eq_true (show b > 1000 by omega)]
    exact wealth_Threshold_bad a b

/-! The first element that is at least the threshold. -/
def firstS (t : Int) : Nat → List Int → Int
  | _, [] => 0
  | i, x :: xs => if x ≥ t then (i : Int) + 1 else firstS t (i + 1) xs
theorem rd_at {xs : List Int} {i : Nat} (h : i < xs.length) : rd xs (i : Int) = xs[i] := by
  unfold rd
  simp [h]
theorem first_drop (t : Int) (xs : List Int) (i : Nat) (h : i < xs.length) : firstS t i (xs.drop i) = if xs[i] ≥ t then (i : Int) + 1 else firstS t (i + 1) (xs.drop (i + 1)) := by
  rw [List.drop_eq_getElem_cons h]; rfl
theorem first_pos (t : Int) (xs : List Int) : ∀ i x, x ∈ xs → x ≥ t → 0 < firstS t i xs := by
  induction xs with
  | nil => intro i x h; cases h
  | cons y ys ih =>
    intro i x h hx
    unfold firstS
    by_cases c : y ≥ t
    · rw [if_pos c]; omega
    · rw [if_neg c]
      rcases List.mem_cons.mp h with rfl | h
      · exact absurd hx c
      · exact ih (i + 1) x h hx


end Go.Proofs.Ytafcnpfhihnmgaa.PA
