/- What Grow, Factor, Valid, Threshold and First answer, of the program and of the document's text: one plain function each. -/
import Derived.Test.YtafcnpfhihnmgaaPA3
import Derived.Test.YtafcnpfhihnmgaaPA7
import Derived.Test.YtafcnpfhihnmgaaM2
namespace Go.Proofs.Ytafcnpfhihnmgaa.PA
open Go Go.RowKit Go.Proofs.YtafcnpfhihnmgaaW.PrintWords Go.Proofs.YtafcnpfhihnmgaaW.PrintLast Go.Proofs.YtafcnpfhihnmgaaW.PrintMore Go.Proofs.Ytafcnpfhihnmgaa.M

theorem Ev.pos {α : Type} {c : Prop} [Decidable c] {g f : Nat → Option α} {r : α} (hc : c) (h : Ev g r) : Ev (fun k => if c then g k else f k) r := by
  obtain ⟨K, h⟩ := h
  exact ⟨K, fun k hk => (if_pos hc).trans (h k hk)⟩
theorem Ev.neg {α : Type} {c : Prop} [Decidable c] {g f : Nat → Option α} {r : α} (hc : ¬ c) (h : Ev f r) : Ev (fun k => if c then g k else f k) r := by
  obtain ⟨K, h⟩ := h
  exact ⟨K, fun k hk => (if_neg hc).trans (h k hk)⟩
/-- Either way. -/
theorem Ev.both {α : Type} {c : Prop} [Decidable c] {g f : Nat → Option α} {r : α} (h1 : c → Ev g r) (h2 : ¬ c → Ev f r) : Ev (fun k => if c then g k else f k) r := by
  by_cases hc : c
  · exact Ev.pos hc (h1 hc)
  · exact Ev.neg hc (h2 hc)

/-- min (w num / den, MaxFixed), 0 outside of what is expected. -/
def growS (w num den : Int) : Int :=
  if w < 0 ∨ 2305843009213693952 < w ∨ den < 1 ∨ 4611686018427387904 < den ∨ num < 0 then 0 else if w * num / den ≤ 2305843009213693952 then w * num / den else 2305843009213693952

theorem wealth_Grow_bad (a b c : Int) : Ev (fun k => wealth_Grow.j0 k a b c true) 0 := Ev.step (f := fun _ => some 0) (fun k => by simp only [wealth_Grow.j0]; rw [if_pos (by trivial)]) (Ev.now _)
theorem wealth_Grow_good {a b c : Int} (a0 : 0 ≤ a) (a1 : a ≤ 2305843009213693952) (c0 : 1 ≤ c) (c1 : c ≤ 4611686018427387904) (b0 : 0 ≤ b) (b1 : b ≤ 9223372036854775807) :
    Ev (fun k => wealth_Grow.j0 k a b c false) (if a * b / c ≤ 2305843009213693952 then a * b / c else 2305843009213693952) := by
  refine Ev.step (f := fun k => (bits_Mul64.f (IntKind.u64.wrap a) (IntKind.u64.wrap b)).bind fun bt => (if bt.1 ≥ (IntKind.u64.wrap c) then (some 2305843009213693952) else ((bits_Div64.f k bt.1 bt.2 (IntKind.u64.wrap c)).bind fun bt2 => (some (wrap64 (mn bt2.1 2305843009213693952)))))) (fun k => by simp only [wealth_Grow.j0]; rw [if_neg (by decide)]) ?_
  rw [u64_id a0 (by omega), u64_id b0 (by omega), u64_id (x := c) (by omega) (by omega), mul64 a0 (by omega) b0 (by omega)]
  have hp : 0 ≤ a * b := Int.mul_nonneg a0 b0
  have hlo : 0 ≤ a * b % 18446744073709551616 ∧ a * b % 18446744073709551616 < 18446744073709551616 := by omega
  have hhi : 0 ≤ a * b / 18446744073709551616 := by omega
  simp only [Option.bind_some]
  by_cases hc : a * b / 18446744073709551616 ≥ c
  · refine Ev.pos hc ?_
    have : 18446744073709551616 ≤ a * b / c := by
      apply Int.le_ediv_of_mul_le (by omega)
      omega
    rw [if_neg (by omega)]
    exact Ev.now _
  · refine Ev.neg hc ?_
    obtain ⟨z, hz⟩ := div64 hhi (by omega) hlo.1 hlo.2 (y := c) (by omega)
    rw [show 18446744073709551616 * (a * b / 18446744073709551616) + a * b % 18446744073709551616 = a * b by omega] at hz
    refine Ev.bind hz ?_
    have hq : 0 ≤ a * b / c := Int.ediv_nonneg hp (by omega)
    have : wrap64 (mn (a * b / c) 2305843009213693952) = if a * b / c ≤ 2305843009213693952 then a * b / c else 2305843009213693952 := by
      unfold mn
      by_cases h : a * b / c ≤ 2305843009213693952
      · rw [if_neg (by omega), if_pos h]; exact w64_id (by omega) (by omega)
      · rw [if_pos (by omega), if_neg h]; exact w64_id (by omega) (by omega)
    simp only [this]
    exact Ev.now _
theorem wealth_Grow_is {a b c : Int} (b1 : b ≤ 9223372036854775807) : Ev (fun k => wealth_Grow.f k a b c) (growS a b c) := by
  unfold wealth_Grow.f growS
  by_cases h : a < 0 ∨ 2305843009213693952 < a ∨ c < 1 ∨ 4611686018427387904 < c ∨ b < 0
  · rw [if_pos h]
    refine Ev.both (fun _ => wealth_Grow_bad a b c) (fun h1 => Ev.both (fun _ => wealth_Grow_bad a b c) (fun h2 => Ev.both (fun _ => wealth_Grow_bad a b c) (fun h3 => Ev.both (fun _ => wealth_Grow_bad a b c) (fun h4 => ?_))))
    rw [decide_eq_true (show b < 0 by omega)]
    exact wealth_Grow_bad a b c
  · rw [if_neg h]
    refine Ev.neg (by omega) (Ev.neg (by omega) (Ev.neg (by omega) (Ev.neg (by omega) ?_)))
    rw [decide_eq_false (show ¬ b < 0 by omega)]
    exact wealth_Grow_good (by omega) (by omega) (by omega) (by omega) (by omega) b1
theorem flagstoneref40_Grow_bad (a b c : Int) : Ev (fun k => flagstoneref40_Grow.j0 k a b c true) 0 := Ev.step (f := fun _ => some 0) (fun k => by simp only [flagstoneref40_Grow.j0]; rw [if_pos (by trivial)]) (Ev.now _)
theorem flagstoneref40_Grow_good {a b c : Int} (a0 : 0 ≤ a) (a1 : a ≤ 2305843009213693952) (c0 : 1 ≤ c) (c1 : c ≤ 4611686018427387904) (b0 : 0 ≤ b) (b1 : b ≤ 9223372036854775807) :
    Ev (fun k => flagstoneref40_Grow.j0 k a b c false) (if a * b / c ≤ 2305843009213693952 then a * b / c else 2305843009213693952) := by
  refine Ev.step (f := fun k => (bits_Mul64.f (IntKind.u64.wrap a) (IntKind.u64.wrap b)).bind fun bt => (if bt.1 ≥ (IntKind.u64.wrap c) then (some 2305843009213693952) else ((bits_Div64.f k bt.1 bt.2 (IntKind.u64.wrap c)).bind fun bt2 => (some (wrap64 (mn bt2.1 2305843009213693952)))))) (fun k => by simp only [flagstoneref40_Grow.j0]; rw [if_neg (by decide)]) ?_
  rw [u64_id a0 (by omega), u64_id b0 (by omega), u64_id (x := c) (by omega) (by omega), mul64 a0 (by omega) b0 (by omega)]
  have hp : 0 ≤ a * b := Int.mul_nonneg a0 b0
  have hlo : 0 ≤ a * b % 18446744073709551616 ∧ a * b % 18446744073709551616 < 18446744073709551616 := by omega
  have hhi : 0 ≤ a * b / 18446744073709551616 := by omega
  simp only [Option.bind_some]
  by_cases hc : a * b / 18446744073709551616 ≥ c
  · refine Ev.pos hc ?_
    have : 18446744073709551616 ≤ a * b / c := by
      apply Int.le_ediv_of_mul_le (by omega)
      omega
    rw [if_neg (by omega)]
    exact Ev.now _
  · refine Ev.neg hc ?_
    obtain ⟨z, hz⟩ := div64 hhi (by omega) hlo.1 hlo.2 (y := c) (by omega)
    rw [show 18446744073709551616 * (a * b / 18446744073709551616) + a * b % 18446744073709551616 = a * b by omega] at hz
    refine Ev.bind hz ?_
    have hq : 0 ≤ a * b / c := Int.ediv_nonneg hp (by omega)
    have : wrap64 (mn (a * b / c) 2305843009213693952) = if a * b / c ≤ 2305843009213693952 then a * b / c else 2305843009213693952 := by
      unfold mn
      by_cases h : a * b / c ≤ 2305843009213693952
      · rw [if_neg (by omega), if_pos h]; exact w64_id (by omega) (by omega)
      · rw [if_pos (by omega), if_neg h]; exact w64_id (by omega) (by omega)
    simp only [this]
    exact Ev.now _
theorem flagstoneref40_Grow_is {a b c : Int} (b1 : b ≤ 9223372036854775807) : Ev (fun k => flagstoneref40_Grow.f k a b c) (growS a b c) := by
  unfold flagstoneref40_Grow.f growS
  by_cases h : a < 0 ∨ 2305843009213693952 < a ∨ c < 1 ∨ 4611686018427387904 < c ∨ b < 0
  · rw [if_pos h]
    refine Ev.both (fun _ => flagstoneref40_Grow_bad a b c) (fun h1 => Ev.both (fun _ => flagstoneref40_Grow_bad a b c) (fun h2 => Ev.both (fun _ => flagstoneref40_Grow_bad a b c) (fun h3 => Ev.both (fun _ => flagstoneref40_Grow_bad a b c) (fun h4 => ?_))))
    rw [decide_eq_true (show b < 0 by omega)]
    exact flagstoneref40_Grow_bad a b c
  · rw [if_neg h]
    refine Ev.neg (by omega) (Ev.neg (by omega) (Ev.neg (by omega) (Ev.neg (by omega) ?_)))
    rw [decide_eq_false (show ¬ b < 0 by omega)]
    exact flagstoneref40_Grow_good (by omega) (by omega) (by omega) (by omega) (by omega) b1

/-! The valid scores. -/
def validS (num unit range : Int) : Bool := decide (1 ≤ unit ∧ unit ≤ range ∧ range ≤ 562949953421312 ∧ unit - range ≤ num ∧ num ≤ range - unit)
theorem score_Valid_is (n u r : Int) : score_Valid.f n u r = some (validS n u r) := by
  unfold score_Valid.f validS
  by_cases h1 : 1 ≤ u
  · rw [if_pos h1]
    by_cases h2 : u ≤ r
    · rw [if_pos h2]
      by_cases h3 : r ≤ 562949953421312
      · rw [if_pos h3, w64_id (x := u - r) (by omega) (by omega), w64_id (x := r - u) (by omega) (by omega)]
        by_cases h4 : u - r ≤ n
        · rw [if_pos h4]; congr 1; simp [h1, h2, h3, h4]
        · rw [if_neg h4]; congr 1; simp [h4]
      · rw [if_neg h3]; congr 1; simp [h3]
    · rw [if_neg h2]; congr 1; simp [h2]
  · rw [if_neg h1]; congr 1; simp [h1]
theorem flagstoneref39_Valid_is (n u r : Int) : flagstoneref39_Valid.f n u r = some (validS n u r) := by
  unfold flagstoneref39_Valid.f validS
  by_cases h1 : 1 ≤ u
  · rw [if_pos h1]
    by_cases h2 : u ≤ r
    · rw [if_pos h2]
      by_cases h3 : r ≤ 562949953421312
      · rw [if_pos h3, w64_id (x := u - r) (by omega) (by omega), w64_id (x := r - u) (by omega) (by omega)]
        by_cases h4 : u - r ≤ n
        · rw [if_pos h4]; congr 1; simp [h1, h2, h3, h4]
        · rw [if_neg h4]; congr 1; simp [h4]
      · rw [if_neg h3]; congr 1; simp [h3]
    · rw [if_neg h2]; congr 1; simp [h2]
  · rw [if_neg h1]; congr 1; simp [h1]
theorem validS_iff {n u r : Int} : validS n u r = true ↔ (1 ≤ u ∧ u ≤ r ∧ r ≤ 562949953421312 ∧ u - r ≤ n ∧ n ≤ r - u) := by unfold validS; simp

/-! The factor of a bet. -/
def factorS (n u r e b : Int) (up : Bool) : Int × Int :=
  if validS n u r = true ∧ -1000 ≤ e ∧ e ≤ 1000 ∧ 0 ≤ b ∧ b ≤ 4 then (if up = true then (8000 * r + b * (1000 * n - u * e), 8000 * r) else (8000 * r - b * (1000 * n - u * e), 8000 * r)) else (1, 1)
/-- What a bet can gain. -/
theorem gain_bound {n u r e b : Int} (hv : validS n u r = true) (he0 : -1000 ≤ e) (he1 : e ≤ 1000) (hb0 : 0 ≤ b) (hb1 : b ≤ 4) :
    -1000 * u ≤ u * e ∧ u * e ≤ 1000 * u ∧ -4000 * r ≤ b * (1000 * n - u * e) ∧ b * (1000 * n - u * e) ≤ 4000 * r ∧ 8 ≤ 8 * r ∧ r ≤ 562949953421312 := by
  obtain ⟨h1, h2, h3, h4, h5⟩ := validS_iff.mp hv
  have k1 : u * e ≤ u * 1000 := Int.mul_le_mul_of_nonneg_left he1 (by omega)
  have k2 : u * (-1000) ≤ u * e := Int.mul_le_mul_of_nonneg_left he0 (by omega)
  generalize u * e = ue at *
  have k3 : b * (1000 * n - ue) ≤ b * (1000 * r) := Int.mul_le_mul_of_nonneg_left (by omega) hb0
  have k4 : b * (-(1000 * r)) ≤ b * (1000 * n - ue) := Int.mul_le_mul_of_nonneg_left (by omega) hb0
  have k5 : b * (1000 * r) ≤ 4 * (1000 * r) := Int.mul_le_mul_of_nonneg_right hb1 (by omega)
  rw [Int.mul_neg] at k4
  omega
theorem wealth_Factor_bad (e b : Int) (up : Bool) (n u r : Int) : Ev (fun k => wealth_Factor.j0 k e b up true n u r) (1, 1) := Ev.step (f := fun _ => some (1, 1)) (fun k => by simp only [wealth_Factor.j0]; rw [if_pos (by trivial)]) (Ev.now _)
theorem wealth_Factor_is (n u r e b : Int) (up : Bool) : Ev (fun k => wealth_Factor.f k n u r e b up) (factorS n u r e b up) := by
  unfold wealth_Factor.f
  rw [score_Valid_is]
  simp only [Option.bind_some]
  unfold factorS
  by_cases hv : validS n u r = true
  · refine Ev.pos hv ?_
    by_cases h : -1000 ≤ e ∧ e ≤ 1000 ∧ 0 ≤ b ∧ b ≤ 4
    · rw [if_pos ⟨hv, h⟩]
      refine Ev.neg (by omega) (Ev.neg (by omega) (Ev.neg (by omega) ?_))
      rw [decide_eq_false (show ¬ b > 4 by omega)]
      obtain ⟨v1, v2, v3, v4, v5⟩ := validS_iff.mp hv
      obtain ⟨g1, g2, g3, g4, g5, g6⟩ := gain_bound hv h.1 h.2.1 h.2.2.1 h.2.2.2
      have e1 : wrap64 (8 * r) = 8 * r := w64_id (by omega) (by omega)
      have e2 : wrap64 (8 * r * 1000) = 8000 * r := by rw [w64_id (by omega) (by omega)]; omega
      have e3 : wrap64 (n * 1000) = 1000 * n := by rw [w64_id (by omega) (by omega)]; omega
      have e4 : wrap64 (u * e) = u * e := w64_id (by omega) (by omega)
      have e5 : wrap64 (1000 * n - u * e) = 1000 * n - u * e := w64_id (by omega) (by omega)
      have e6 : wrap64 (b * (1000 * n - u * e)) = b * (1000 * n - u * e) := w64_id (by omega) (by omega)
      refine Ev.step (f := fun _ => some _) (fun k => ?_) (Ev.now _)
      simp only [wealth_Factor.j0]
      rw [if_neg (by decide), e1, e2, e3, e4, e5, e6, w64_id (by omega) (by omega), w64_id (by omega) (by omega)]
      cases up <;> rfl
    · rw [if_neg (fun c => h c.2)]
      refine Ev.both (fun _ => wealth_Factor_bad e b up n u r) (fun h1 => Ev.both (fun _ => wealth_Factor_bad e b up n u r) (fun h2 => Ev.both (fun _ => wealth_Factor_bad e b up n u r) (fun h3 => ?_)))
      rw [decide_eq_true (show b > 4 by omega)]
      exact wealth_Factor_bad e b up n u r
  · rw [if_neg (fun c => hv c.1)]
    exact Ev.neg hv (wealth_Factor_bad e b up n u r)
theorem flagstoneref40_Factor_bad (e b : Int) (up : Bool) (n u r : Int) : Ev (fun k => flagstoneref40_Factor.j0 k e b up true n u r) (1, 1) := Ev.step (f := fun _ => some (1, 1)) (fun k => by simp only [flagstoneref40_Factor.j0]; rw [if_pos (by trivial)]) (Ev.now _)
theorem flagstoneref40_Factor_is (n u r e b : Int) (up : Bool) : Ev (fun k => flagstoneref40_Factor.f k n u r e b up) (factorS n u r e b up) := by
  unfold flagstoneref40_Factor.f
  rw [flagstoneref39_Valid_is]
  simp only [Option.bind_some]
  unfold factorS
  by_cases hv : validS n u r = true
  · refine Ev.pos hv ?_
    by_cases h : -1000 ≤ e ∧ e ≤ 1000 ∧ 0 ≤ b ∧ b ≤ 4
    · rw [if_pos ⟨hv, h⟩]
      refine Ev.neg (by omega) (Ev.neg (by omega) (Ev.neg (by omega) ?_))
      rw [decide_eq_false (show ¬ b > 4 by omega)]
      obtain ⟨v1, v2, v3, v4, v5⟩ := validS_iff.mp hv
      obtain ⟨g1, g2, g3, g4, g5, g6⟩ := gain_bound hv h.1 h.2.1 h.2.2.1 h.2.2.2
      have e1 : wrap64 (8 * r) = 8 * r := w64_id (by omega) (by omega)
      have e2 : wrap64 (8 * r * 1000) = 8000 * r := by rw [w64_id (by omega) (by omega)]; omega
      have e3 : wrap64 (n * 1000) = 1000 * n := by rw [w64_id (by omega) (by omega)]; omega
      have e4 : wrap64 (u * e) = u * e := w64_id (by omega) (by omega)
      have e5 : wrap64 (1000 * n - u * e) = 1000 * n - u * e := w64_id (by omega) (by omega)
      have e6 : wrap64 (b * (1000 * n - u * e)) = b * (1000 * n - u * e) := w64_id (by omega) (by omega)
      refine Ev.step (f := fun _ => some _) (fun k => ?_) (Ev.now _)
      simp only [flagstoneref40_Factor.j0]
      rw [if_neg (by decide), e1, e2, e3, e4, e5, e6, w64_id (by omega) (by omega), w64_id (by omega) (by omega)]
      cases up <;> rfl
    · rw [if_neg (fun c => h c.2)]
      refine Ev.both (fun _ => flagstoneref40_Factor_bad e b up n u r) (fun h1 => Ev.both (fun _ => flagstoneref40_Factor_bad e b up n u r) (fun h2 => Ev.both (fun _ => flagstoneref40_Factor_bad e b up n u r) (fun h3 => ?_)))
      rw [decide_eq_true (show b > 4 by omega)]
      exact flagstoneref40_Factor_bad e b up n u r
  · rw [if_neg (fun c => hv c.1)]
    exact Ev.neg hv (flagstoneref40_Factor_bad e b up n u r)

/-! Thresholds. -/
def thresholdS (level sides : Int) : Int := if 1 ≤ level ∧ level ≤ 999 ∧ 1 ≤ sides ∧ sides ≤ 1000 then (sides * 4294967296000 + level - 1) / level else 2305843009213693953
theorem wealth_Threshold_bad (a b : Int) : Ev (fun k => wealth_Threshold.j0 k a b true) 2305843009213693953 := Ev.step (f := fun _ => some _) (fun k => by simp only [wealth_Threshold.j0]; rw [if_pos (by trivial)]) (Ev.now _)
theorem wealth_Threshold_is (a b : Int) : Ev (fun k => wealth_Threshold.f k a b) (thresholdS a b) := by
  unfold wealth_Threshold.f thresholdS
  by_cases h : 1 ≤ a ∧ a ≤ 999 ∧ 1 ≤ b ∧ b ≤ 1000
  · rw [if_pos h]
    refine Ev.neg (by omega) (Ev.neg (by omega) (Ev.neg (by omega) ?_))
    rw [decide_eq_false (show ¬ b > 1000 by omega)]
    refine Ev.step (f := fun _ => some _) (fun k => ?_) (Ev.now _)
    simp only [wealth_Threshold.j0]
    rw [if_neg (by decide), if_neg (by omega)]
    have e1 : wrap64 (b * 1000) = b * 1000 := w64_id (by omega) (by omega)
    have e2 : wrap64 (b * 1000 * 4294967296) = b * 4294967296000 := by rw [w64_id (by omega) (by omega)]; omega
    have e3 : wrap64 (b * 4294967296000 + a) = b * 4294967296000 + a := w64_id (by omega) (by omega)
    have e4 : wrap64 (b * 4294967296000 + a - 1) = b * 4294967296000 + a - 1 := w64_id (by omega) (by omega)
    have e5 : 0 ≤ (b * 4294967296000 + a - 1) / a := Int.ediv_nonneg (by omega) (by omega)
    have e6 : (b * 4294967296000 + a - 1) / a ≤ b * 4294967296000 + a - 1 := Int.ediv_le_self _ (by omega)
    rw [e1, e2, e3, e4, Int.tdiv_eq_ediv_of_nonneg (by omega), w64_id (by omega) (by omega)]
  · rw [if_neg h]
    refine Ev.both (fun _ => wealth_Threshold_bad a b) (fun h1 => Ev.both (fun _ => wealth_Threshold_bad a b) (fun h2 => Ev.both (fun _ => wealth_Threshold_bad a b) (fun h3 => ?_)))
    rw [decide_eq_true (show b > 1000 by omega)]
    exact wealth_Threshold_bad a b
theorem flagstoneref40_Threshold_bad (a b : Int) : Ev (fun k => flagstoneref40_Threshold.j0 k a b true) 2305843009213693953 := Ev.step (f := fun _ => some _) (fun k => by simp only [flagstoneref40_Threshold.j0]; rw [if_pos (by trivial)]) (Ev.now _)
theorem flagstoneref40_Threshold_is (a b : Int) : Ev (fun k => flagstoneref40_Threshold.f k a b) (thresholdS a b) := by
  unfold flagstoneref40_Threshold.f thresholdS
  by_cases h : 1 ≤ a ∧ a ≤ 999 ∧ 1 ≤ b ∧ b ≤ 1000
  · rw [if_pos h]
    refine Ev.neg (by omega) (Ev.neg (by omega) (Ev.neg (by omega) ?_))
    rw [decide_eq_false (show ¬ b > 1000 by omega)]
    refine Ev.step (f := fun _ => some _) (fun k => ?_) (Ev.now _)
    simp only [flagstoneref40_Threshold.j0]
    rw [if_neg (by decide), if_neg (by omega)]
    have e1 : wrap64 (b * 1000) = b * 1000 := w64_id (by omega) (by omega)
    have e2 : wrap64 (b * 1000 * 4294967296) = b * 4294967296000 := by rw [w64_id (by omega) (by omega)]; omega
    have e3 : wrap64 (b * 4294967296000 + a) = b * 4294967296000 + a := w64_id (by omega) (by omega)
    have e4 : wrap64 (b * 4294967296000 + a - 1) = b * 4294967296000 + a - 1 := w64_id (by omega) (by omega)
    have e5 : 0 ≤ (b * 4294967296000 + a - 1) / a := Int.ediv_nonneg (by omega) (by omega)
    have e6 : (b * 4294967296000 + a - 1) / a ≤ b * 4294967296000 + a - 1 := Int.ediv_le_self _ (by omega)
    rw [e1, e2, e3, e4, Int.tdiv_eq_ediv_of_nonneg (by omega), w64_id (by omega) (by omega)]
  · rw [if_neg h]
    refine Ev.both (fun _ => flagstoneref40_Threshold_bad a b) (fun h1 => Ev.both (fun _ => flagstoneref40_Threshold_bad a b) (fun h2 => Ev.both (fun _ => flagstoneref40_Threshold_bad a b) (fun h3 => ?_)))
    rw [decide_eq_true (show b > 1000 by omega)]
    exact flagstoneref40_Threshold_bad a b

/-! The first element that is at least the threshold. -/
def firstS (t : Int) : Nat → List Int → Int
  | _, [] => 0
  | i, x :: xs => if x ≥ t then (i : Int) + 1 else firstS t (i + 1) xs
theorem rd_at {xs : List Int} {i : Nat} (h : i < xs.length) : rd xs (i : Int) = xs[i] := by
  unfold rd
  simp [h]
theorem first_drop (t : Int) (xs : List Int) (i : Nat) (h : i < xs.length) : firstS t i (xs.drop i) = if xs[i] ≥ t then (i : Int) + 1 else firstS t (i + 1) (xs.drop (i + 1)) := by
  rw [List.drop_eq_getElem_cons h]; rfl
theorem wealth_First_is (xs : List Int) (t : Int) (hm : xs.length ≤ 9223372036854775807) : Ev (fun k => wealth_First.f k xs t) (firstS t 0 xs) := by
  unfold wealth_First.f
  have go : ∀ n i, xs.length - i = n → i ≤ xs.length → Ev (fun k => wealth_First.l0 k t xs (xs.length : Int) (i : Int)) (firstS t i (xs.drop i)) := by
    intro n
    induction n with
    | zero =>
      intro i hn hi
      rw [List.drop_of_length_le (by omega)]
      refine Ev.step (f := fun _ => some 0) (fun k => ?_) (Ev.now _)
      simp only [wealth_First.l0]
      rw [if_neg (by omega)]
    | succ n ih =>
      intro i hn hi
      have hl : i < xs.length := by omega
      rw [first_drop t xs i hl]
      have hw : wrap64 ((i : Int) + 1) = ((i + 1 : Nat) : Int) := by rw [w64_id (by omega) (by omega)]; omega
      refine Ev.step (f := fun k => if rd xs (i : Int) ≥ t then (some (wrap64 ((i : Int) + 1))) else (wealth_First.l0 k t xs (xs.length : Int) (wrap64 ((i : Int) + 1)))) (fun k => ?_) ?_
      · simp only [wealth_First.l0]
        rw [if_pos (by omega), if_pos (by omega), if_pos (by omega)]
      · rw [rd_at hl, hw]
        by_cases c : xs[i] ≥ t
        · rw [if_pos c]; exact Ev.pos c (by rw [show ((i + 1 : Nat) : Int) = (i : Int) + 1 by omega]; exact Ev.now _)
        · rw [if_neg c]; exact Ev.neg c (ih (i + 1) (by omega) (by omega))
  have h := go xs.length 0 (by omega) (by omega)
  simpa using h
theorem flagstoneref40_First_is (xs : List Int) (t : Int) (hm : xs.length ≤ 9223372036854775807) : Ev (fun k => flagstoneref40_First.f k xs t) (firstS t 0 xs) := by
  unfold flagstoneref40_First.f
  have go : ∀ n i, xs.length - i = n → i ≤ xs.length → Ev (fun k => flagstoneref40_First.l0 k xs t (i : Int)) (firstS t i (xs.drop i)) := by
    intro n
    induction n with
    | zero =>
      intro i hn hi
      rw [List.drop_of_length_le (by omega)]
      refine Ev.step (f := fun _ => some 0) (fun k => ?_) (Ev.now _)
      simp only [flagstoneref40_First.l0]
      rw [if_neg (by omega)]
    | succ n ih =>
      intro i hn hi
      have hl : i < xs.length := by omega
      rw [first_drop t xs i hl]
      have hw : wrap64 ((i : Int) + 1) = ((i + 1 : Nat) : Int) := by rw [w64_id (by omega) (by omega)]; omega
      refine Ev.step (f := fun k => if rd xs (i : Int) ≥ t then (some (wrap64 ((i : Int) + 1))) else (flagstoneref40_First.l0 k xs t (wrap64 ((i : Int) + 1)))) (fun k => ?_) ?_
      · simp only [flagstoneref40_First.l0]
        rw [if_pos (by omega), if_pos (by omega)]
      · rw [rd_at hl, hw]
        by_cases c : xs[i] ≥ t
        · rw [if_pos c]; exact Ev.pos c (by rw [show ((i + 1 : Nat) : Int) = (i : Int) + 1 by omega]; exact Ev.now _)
        · rw [if_neg c]; exact Ev.neg c (ih (i + 1) (by omega) (by omega))
  have h := go xs.length 0 (by omega) (by omega)
  simpa using h
theorem first_pos (t : Int) (xs : List Int) : ∀ i x, x ∈ xs → x ≥ t → 0 < firstS t i xs := by
  induction xs with
  | nil => intro i x h; cases h
  | cons y ys ih =>
    intro i x h hx
    unfold firstS
    by_cases c : y ≥ t
    · rw [if_pos c]; omega
    · rw [if_neg c]
      rcases List.mem_cons.mp h with rfl | h
      · exact absurd hx c
      · exact ih (i + 1) x h hx

theorem awake_is : Ev (fun k => flagstonelaw40_awake.f k) true := by
  unfold flagstonelaw40_awake.f
  refine Ev.bind (wealth_Factor_is 0 1 1 0 1 true) ?_
  have h1 : factorS 0 1 1 0 1 true = (8000, 8000) := by decide
  rw [h1]
  refine Ev.pos rfl (Ev.pos rfl (Ev.bind (wealth_Threshold_is 50 2) ?_))
  have h2 : thresholdS 50 2 = 171798691840 := by decide
  rw [h2]
  refine Ev.pos rfl (Ev.bind (wealth_Grow_is (by omega)) ?_)
  have h3 : growS 3 2 4 = 1 := by decide
  rw [h3]
  exact Ev.now _
end Go.Proofs.Ytafcnpfhihnmgaa.PA
