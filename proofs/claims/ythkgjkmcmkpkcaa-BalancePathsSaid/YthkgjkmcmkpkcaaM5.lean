/- Thresholds, and the first element of a path that reaches one. -/
import Derived.Test.YthkgjkmcmkpkcaaPA9
import Derived.Test.YthkgjkmcmkpkcaaM3
namespace Go.Proofs.Ythkgjkmcmkpkcaa.PA
open Go Go.RowKit Go.Proofs.YthkgjkmcmkpkcaaW.PrintWords Go.Proofs.YthkgjkmcmkpkcaaW.PrintLast Go.Proofs.YthkgjkmcmkpkcaaW.PrintMore Go.Proofs.Ythkgjkmcmkpkcaa.M
set_option linter.unusedVariables false
set_option linter.unusedSimpArgs false

/-! Thresholds. -/
def thresholdS (level sides : Int) : Int := if 1 ≤ level ∧ level ≤ 999 ∧ 1 ≤ sides ∧ sides ≤ 1000 then (sides * 4294967296000 + level - 1) / level else 2305843009213693953
theorem wealth_Threshold_bad (a b : Int) : Ev (fun k => wealth_Threshold.j0 k a b true) 2305843009213693953 := Ev.step (f := fun _ => some _) (fun k => by simp only [wealth_Threshold.j0]; rw [if_pos (by trivial)]) (Ev.now _)
theorem wealth_Threshold_is (a b : Int) : Ev (fun k => wealth_Threshold.f k a b) (thresholdS a b) := by
  unfold wealth_Threshold.f thresholdS
  by_cases h : 1 ≤ a ∧ a ≤ 999 ∧ 1 ≤ b ∧ b ≤ 1000
  · rw [if_pos h]
    refine Ev.neg (by omega) (Ev.neg (by omega) (Ev.neg (by omega) ?_))
    rw [decide_eq_false (show ¬ b > 1000 by omega)]
    refine Ev.step (f := fun _ => some _) (fun k => ?_) (Ev.now _)
    simp only [wealth_Threshold.j0]
    rw [if_neg (by decide), if_neg (by omega)]
    have e1 : wrap64 (b * 1000) = b * 1000 := w64_id (by omega) (by omega)
    have e2 : wrap64 (b * 1000 * 4294967296) = b * 4294967296000 := by rw [w64_id (by omega) (by omega)]; omega
    have e3 : wrap64 (b * 4294967296000 + a) = b * 4294967296000 + a := w64_id (by omega) (by omega)
    have e4 : wrap64 (b * 4294967296000 + a - 1) = b * 4294967296000 + a - 1 := w64_id (by omega) (by omega)
    have e5 : 0 ≤ (b * 4294967296000 + a - 1) / a := Int.ediv_nonneg (by omega) (by omega)
    have e6 : (b * 4294967296000 + a - 1) / a ≤ b * 4294967296000 + a - 1 := Int.ediv_le_self _ (by omega)
    rw [e1, e2, e3, e4, Int.tdiv_eq_ediv_of_nonneg (by omega), w64_id (by omega) (by omega)]
  · rw [if_neg h]
    refine Ev.both (fun _ => wealth_Threshold_bad a b) (fun h1 => Ev.both (fun _ => wealth_Threshold_bad a b) (fun h2 => Ev.both (fun _ => wealth_Threshold_bad a b) (fun h3 => ?_)))
    rw [decide_eq_true (show b > 1000 by omega)]
    exact wealth_Threshold_bad a b
theorem flagstoneref40_Threshold_bad (a b : Int) : Ev (fun k => flagstoneref40_Threshold.j0 k a b true) 2305843009213693953 := Ev.step (f := fun _ => some _) (fun k => by simp only [flagstoneref40_Threshold.j0]; rw [if_pos (by trivial)]) (Ev.now _)
theorem flagstoneref40_Threshold_is (a b : Int) : Ev (fun k => flagstoneref40_Threshold.f k a b) (thresholdS a b) := by
  unfold flagstoneref40_Threshold.f thresholdS
  by_cases h : 1 ≤ a ∧ a ≤ 999 ∧ 1 ≤ b ∧ b ≤ 1000
  · rw [if_pos h]
    refine Ev.neg (by omega) (Ev.neg (by omega) (Ev.neg (by omega) ?_))
    rw [decide_eq_false (show ¬ b > 1000 by omega)]
    refine Ev.step (f := fun _ => some _) (fun k => ?_) (Ev.now _)
    simp only [flagstoneref40_Threshold.j0]
    rw [if_neg (by decide), if_neg (by omega)]
    have e1 : wrap64 (b * 1000) = b * 1000 := w64_id (by omega) (by omega)
    have e2 : wrap64 (b * 1000 * 4294967296) = b * 4294967296000 := by rw [w64_id (by omega) (by omega)]; omega
    have e3 : wrap64 (b * 4294967296000 + a) = b * 4294967296000 + a := w64_id (by omega) (by omega)
    have e4 : wrap64 (b * 4294967296000 + a - 1) = b * 4294967296000 + a - 1 := w64_id (by omega) (by omega)
    have e5 : 0 ≤ (b * 4294967296000 + a - 1) / a := Int.ediv_nonneg (by omega) (by omega)
    have e6 : (b * 4294967296000 + a - 1) / a ≤ b * 4294967296000 + a - 1 := Int.ediv_le_self _ (by omega)
    rw [e1, e2, e3, e4, Int.tdiv_eq_ediv_of_nonneg (by omega), w64_id (by omega) (by omega)]
  · rw [if_neg h]
    refine Ev.both (fun _ => flagstoneref40_Threshold_bad a b) (fun h1 => Ev.both (fun _ => flagstoneref40_Threshold_bad a b) (fun h2 => Ev.both (fun _ => flagstoneref40_Threshold_bad a b) (fun h3 => ?_)))
    rw [decide_eq_true (show b > 1000 by omega)]
    exact flagstoneref40_Threshold_bad a b

/-! The first element that is at least the threshold. -/
def firstS (t : Int) : Nat → List Int → Int
  | _, [] => 0
  | i, x :: xs => if x ≥ t then (i : Int) + 1 else firstS t (i + 1) xs
theorem rd_at {xs : List Int} {i : Nat} (h : i < xs.length) : rd xs (i : Int) = xs[i] := by
  unfold rd
  simp [h]
theorem first_drop (t : Int) (xs : List Int) (i : Nat) (h : i < xs.length) : firstS t i (xs.drop i) = if xs[i] ≥ t then (i : Int) + 1 else firstS t (i + 1) (xs.drop (i + 1)) := by
  rw [List.drop_eq_getElem_cons h]; rfl
theorem wealth_First_is (xs : List Int) (t : Int) (hm : xs.length ≤ 9223372036854775807) : Ev (fun k => wealth_First.f k xs t) (firstS t 0 xs) := by
  unfold wealth_First.f
  have go : ∀ n i, xs.length - i = n → i ≤ xs.length → Ev (fun k => wealth_First.l0 k t xs (xs.length : Int) (i : Int)) (firstS t i (xs.drop i)) := by
    intro n
    induction n with
    | zero =>
      intro i hn hi
      rw [List.drop_of_length_le (by omega)]
      refine Ev.step (f := fun _ => some 0) (fun k => ?_) (Ev.now _)
      simp only [wealth_First.l0]
      rw [if_neg (by omega)]
    | succ n ih =>
      intro i hn hi
      have hl : i < xs.length := by omega
      rw [first_drop t xs i hl]
      have hw : wrap64 ((i : Int) + 1) = ((i + 1 : Nat) : Int) := by rw [w64_id (by omega) (by omega)]; omega
      refine Ev.step (f := fun k => if rd xs (i : Int) ≥ t then (some (wrap64 ((i : Int) + 1))) else (wealth_First.l0 k t xs (xs.length : Int) (wrap64 ((i : Int) + 1)))) (fun k => ?_) ?_
      · simp only [wealth_First.l0]
        rw [if_pos (by omega), if_pos (by omega), if_pos (by omega)]
      · rw [rd_at hl, hw]
        by_cases c : xs[i] ≥ t
        · rw [if_pos c]; exact Ev.pos c (by rw [show ((i + 1 : Nat) : Int) = (i : Int) + 1 by omega]; exact Ev.now _)
        · rw [if_neg c]; exact Ev.neg c (ih (i + 1) (by omega) (by omega))
  have h := go xs.length 0 (by omega) (by omega)
  simpa using h
theorem flagstoneref40_First_is (xs : List Int) (t : Int) (hm : xs.length ≤ 9223372036854775807) : Ev (fun k => flagstoneref40_First.f k xs t) (firstS t 0 xs) := by
  unfold flagstoneref40_First.f
  have go : ∀ n i, xs.length - i = n → i ≤ xs.length → Ev (fun k => flagstoneref40_First.l0 k xs t (i : Int)) (firstS t i (xs.drop i)) := by
    intro n
    induction n with
    | zero =>
      intro i hn hi
      rw [List.drop_of_length_le (by omega)]
      refine Ev.step (f := fun _ => some 0) (fun k => ?_) (Ev.now _)
      simp only [flagstoneref40_First.l0]
      rw [if_neg (by omega)]
    | succ n ih =>
      intro i hn hi
      have hl : i < xs.length := by omega
      rw [first_drop t xs i hl]
      have hw : wrap64 ((i : Int) + 1) = ((i + 1 : Nat) : Int) := by rw [w64_id (by omega) (by omega)]; omega
      refine Ev.step (f := fun k => if rd xs (i : Int) ≥ t then (some (wrap64 ((i : Int) + 1))) else (flagstoneref40_First.l0 k xs t (wrap64 ((i : Int) + 1)))) (fun k => ?_) ?_
      · simp only [flagstoneref40_First.l0]
        rw [if_pos (by omega), if_pos (by omega)]
      · rw [rd_at hl, hw]
        by_cases c : xs[i] ≥ t
        · rw [if_pos c]; exact Ev.pos c (by rw [show ((i + 1 : Nat) : Int) = (i : Int) + 1 by omega]; exact Ev.now _)
        · rw [if_neg c]; exact Ev.neg c (ih (i + 1) (by omega) (by omega))
  have h := go xs.length 0 (by omega) (by omega)
  simpa using h
theorem first_pos (t : Int) (xs : List Int) : ∀ i x, x ∈ xs → x ≥ t → 0 < firstS t i xs := by
  induction xs with
  | nil => intro i x h; cases h
  | cons y ys ih =>
    intro i x h hx
    unfold firstS
    by_cases c : y ≥ t
    · rw [if_pos c]; omega
    · rw [if_neg c]
      rcases List.mem_cons.mp h with rfl | h
      · exact absurd hx c
      · exact ih (i + 1) x h hx


end Go.Proofs.Ythkgjkmcmkpkcaa.PA
