-- Written by a program of this seat's session (wip/tools/ownprint.py, over the kit's printer) out of the translation: functions and their contracts.
import Derived.Test.YtafcnpfhihnmgaaPA0
import Derived.Test.YtafcnpfhihnmgaaPA2
import Derived.Test.YtafcnpfhihnmgaaPA5
namespace Go.Proofs.Ytafcnpfhihnmgaa.PA
open Go.RowKit Go.Proofs.YtafcnpfhihnmgaaW.PrintWords Go.Proofs.YtafcnpfhihnmgaaW.PrintLast Go.Proofs.YtafcnpfhihnmgaaW.PrintMore
attribute [local go_sem] max2_int min2_int max_two min_two max_three min_three max_four min_four   -- for this text's walks alone
set_option linter.unusedVariables false
set_option linter.unusedSimpArgs false

/-! ### flagstonelaw40_WealthFair: function 5 -/
mutual
def flagstonelaw40_WealthFair.j0 : Nat → List (S38) → Int → Int → Int → Int → Int → Int → Bool → Option (Bool)
  | 0, _, _, _, _, _, _, _, _ => none
  | k + 1, x0, x1, x2, x3, x4, x5, x6, x45 => if x45 = true then (some true) else (flagstonelaw40_WealthFair.l0 k x0 x3 x4 x5 x6 (wrap64 (1 + (Int.tmod (wrap64 (x1)) 30))) (wrap64 (1 + (wrap64 (x2)))) 0 0 0)
def flagstonelaw40_WealthFair.l0 : Nat → List (S38) → Int → Int → Int → Int → Int → Int → Int → Int → Int → Option (Bool)
  | 0, _, _, _, _, _, _, _, _, _, _ => none
  | k + 1, x0, x3, x4, x5, x6, x15, x16, x17, x18, x19 => if x19 < (x0.length : Int) then (if 0 ≤ x19 then (if (wrap64 ((wrap64 (2 * x16)) + 1)) = 0 then (none) else (flagstonelaw40_WealthFair.l0 k x0 x3 x4 x5 x6 x15 x16 (wrap64 (x17 + (wrap64 (1 + (wrap64 ((rd_T38 x0 x19).f1)))))) (wrap64 (x18 + (wrap64 ((wrap64 (1 + (wrap64 ((rd_T38 x0 x19).f1)))) * (wrap64 ((Int.tmod (wrap64 ((rd_T38 x0 x19).f0)) (wrap64 ((wrap64 (2 * x16)) + 1))) - x16)))))) (wrap64 (x19 + 1)))) else (none)) else ((flagstonelaw40_floor.f (wrap64 (x18 * 1000)) (wrap64 (x17 * x15))).bind fun t169 => ((flagstonelaw40_floor.f (wrap64 ((wrap64 (-x18)) * 1000)) (wrap64 (x17 * x15))).bind fun t170 => (if 0 ≤ (Int.tmod x4 62) then (flagstonelaw40_WealthFair.l1 k x0 x5 x6 x15 x16 x17 t169 (wrap64 (-t170)) (mn (shr .i64 (wrap64 ((IntKind.u64.wrap (x3)) / 2)) (Int.tmod x4 62)) 2305843009213693952) 0) else (none))))
def flagstonelaw40_WealthFair.l1 : Nat → List (S38) → Int → Int → Int → Int → Int → Int → Int → Int → Int → Option (Bool)
  | 0, _, _, _, _, _, _, _, _, _, _ => none
  | k + 1, x0, x5, x6, x15, x16, x17, x20, x21, x22, x23 => if x23 < 2 then (if x23 = 1 then (flagstonelaw40_WealthFair.j3 k x0 x5 x6 x15 x16 x17 x20 x21 x22 x23 (wrap64 (x20 - (wrap64 (x6)))) false) else (flagstonelaw40_WealthFair.j3 k x0 x5 x6 x15 x16 x17 x20 x21 x22 x23 (wrap64 (x21 + (wrap64 (x6)))) true)) else (some true)
def flagstonelaw40_WealthFair.j3 : Nat → List (S38) → Int → Int → Int → Int → Int → Int → Int → Int → Int → Int → Bool → Option (Bool)
  | 0, _, _, _, _, _, _, _, _, _, _, _, _ => none
  | k + 1, x0, x5, x6, x15, x16, x17, x20, x21, x22, x23, x24, x25 => if x25 = true then (if (mx (-1000) (mn x24 1000)) < x21 then (flagstonelaw40_WealthFair.j4 k x0 x5 x6 x15 x16 x17 x20 x21 x22 x23 (mx (-1000) (mn x24 1000)) x25 true) else (flagstonelaw40_WealthFair.j4 k x0 x5 x6 x15 x16 x17 x20 x21 x22 x23 (mx (-1000) (mn x24 1000)) x25 false)) else (flagstonelaw40_WealthFair.j4 k x0 x5 x6 x15 x16 x17 x20 x21 x22 x23 (mx (-1000) (mn x24 1000)) x25 (decide ((mx (-1000) (mn x24 1000)) > x20)))
def flagstonelaw40_WealthFair.j4 : Nat → List (S38) → Int → Int → Int → Int → Int → Int → Int → Int → Int → Int → Bool → Bool → Option (Bool)
  | 0, _, _, _, _, _, _, _, _, _, _, _, _, _ => none
  | k + 1, x0, x5, x6, x15, x16, x17, x20, x21, x22, x23, x24, x25, x143 => if x143 = true then (flagstonelaw40_WealthFair.l1 k x0 x5 x6 x15 x16 x17 x20 x21 x22 (wrap64 (x23 + 1))) else (flagstonelaw40_WealthFair.l2 k x0 x5 x6 x15 x16 x17 x20 x21 x22 x23 x24 x25 0 0 0)
def flagstonelaw40_WealthFair.l2 : Nat → List (S38) → Int → Int → Int → Int → Int → Int → Int → Int → Int → Int → Bool → Int → Int → Int → Option (Bool)
  | 0, _, _, _, _, _, _, _, _, _, _, _, _, _, _, _ => none
  | k + 1, x0, x5, x6, x15, x16, x17, x20, x21, x22, x23, x24, x25, x26, x27, x28 => if x28 < (x0.length : Int) then (if 0 ≤ x28 then (if (wrap64 ((wrap64 (2 * x16)) + 1)) = 0 then (none) else ((wealth_Factor.f k (wrap64 ((Int.tmod (wrap64 ((rd_T38 x0 x28).f0)) (wrap64 ((wrap64 (2 * x16)) + 1))) - x16)) x15 (wrap64 (x15 + x16)) x24 (Int.tmod (wrap64 (x5)) 5) x25).bind fun bt173 => ((wealth_Grow.f k x22 bt173.1 bt173.2).bind fun t175 => (flagstonelaw40_WealthFair.l2 k x0 x5 x6 x15 x16 x17 x20 x21 x22 x23 x24 x25 (wrap64 (x26 + (wrap64 ((wrap64 (1 + (wrap64 ((rd_T38 x0 x28).f1)))) * (t175 / 1073741824))))) (wrap64 (x27 + (wrap64 ((wrap64 (1 + (wrap64 ((rd_T38 x0 x28).f1)))) * (Go.bits .and .i64 t175 1073741823))))) (wrap64 (x28 + 1)))))) else (none)) else (if (wrap64 (x26 + (x27 / 1073741824))) > (wrap64 ((wrap64 (x17 * (x22 / 1073741824))) + ((wrap64 (x17 * (Go.bits .and .i64 x22 1073741823))) / 1073741824))) then (flagstonelaw40_WealthFair.j6 k x0 x5 x6 x15 x16 x17 x20 x21 x22 x23 true) else (if (wrap64 (x26 + (x27 / 1073741824))) = (wrap64 ((wrap64 (x17 * (x22 / 1073741824))) + ((wrap64 (x17 * (Go.bits .and .i64 x22 1073741823))) / 1073741824))) then (flagstonelaw40_WealthFair.j6 k x0 x5 x6 x15 x16 x17 x20 x21 x22 x23 (decide ((Go.bits .and .i64 x27 1073741823) > (Go.bits .and .i64 (wrap64 (x17 * (Go.bits .and .i64 x22 1073741823))) 1073741823)))) else (flagstonelaw40_WealthFair.j6 k x0 x5 x6 x15 x16 x17 x20 x21 x22 x23 false)))
def flagstonelaw40_WealthFair.j6 : Nat → List (S38) → Int → Int → Int → Int → Int → Int → Int → Int → Int → Bool → Option (Bool)
  | 0, _, _, _, _, _, _, _, _, _, _, _ => none
  | k + 1, x0, x5, x6, x15, x16, x17, x20, x21, x22, x23, x232 => if x232 = true then (some false) else (flagstonelaw40_WealthFair.l1 k x0 x5 x6 x15 x16 x17 x20 x21 x22 (wrap64 (x23 + 1)))
end
def flagstonelaw40_WealthFair.f (k : Nat) (l0 : List (S38)) (a1 : Int) (a2 : Int) (a3 : Int) (a4 : Int) (a5 : Int) (a6 : Int) : Option (Bool) := (flagstonelaw40_awake.f k).bind fun t165 => (if t165 = true then (if (l0.length : Int) = 0 then (flagstonelaw40_WealthFair.j0 k l0 a1 a2 a3 a4 a5 a6 true) else (flagstonelaw40_WealthFair.j0 k l0 a1 a2 a3 a4 a5 a6 (decide ((l0.length : Int) > 12)))) else (some false))
theorem flagstonelaw40_WealthFair.mono_l : ∀ k, (∀ y0 y1 y2 y3 y4 y5 y6 y7, LeO (flagstonelaw40_WealthFair.j0 k y0 y1 y2 y3 y4 y5 y6 y7) (flagstonelaw40_WealthFair.j0 (k + 1) y0 y1 y2 y3 y4 y5 y6 y7)) ∧ (∀ y0 y1 y2 y3 y4 y5 y6 y7 y8 y9, LeO (flagstonelaw40_WealthFair.l0 k y0 y1 y2 y3 y4 y5 y6 y7 y8 y9) (flagstonelaw40_WealthFair.l0 (k + 1) y0 y1 y2 y3 y4 y5 y6 y7 y8 y9)) ∧ (∀ y0 y1 y2 y3 y4 y5 y6 y7 y8 y9, LeO (flagstonelaw40_WealthFair.l1 k y0 y1 y2 y3 y4 y5 y6 y7 y8 y9) (flagstonelaw40_WealthFair.l1 (k + 1) y0 y1 y2 y3 y4 y5 y6 y7 y8 y9)) ∧ (∀ y0 y1 y2 y3 y4 y5 y6 y7 y8 y9 y10 y11, LeO (flagstonelaw40_WealthFair.j3 k y0 y1 y2 y3 y4 y5 y6 y7 y8 y9 y10 y11) (flagstonelaw40_WealthFair.j3 (k + 1) y0 y1 y2 y3 y4 y5 y6 y7 y8 y9 y10 y11)) ∧ (∀ y0 y1 y2 y3 y4 y5 y6 y7 y8 y9 y10 y11 y12, LeO (flagstonelaw40_WealthFair.j4 k y0 y1 y2 y3 y4 y5 y6 y7 y8 y9 y10 y11 y12) (flagstonelaw40_WealthFair.j4 (k + 1) y0 y1 y2 y3 y4 y5 y6 y7 y8 y9 y10 y11 y12)) ∧ (∀ y0 y1 y2 y3 y4 y5 y6 y7 y8 y9 y10 y11 y12 y13 y14, LeO (flagstonelaw40_WealthFair.l2 k y0 y1 y2 y3 y4 y5 y6 y7 y8 y9 y10 y11 y12 y13 y14) (flagstonelaw40_WealthFair.l2 (k + 1) y0 y1 y2 y3 y4 y5 y6 y7 y8 y9 y10 y11 y12 y13 y14)) ∧ (∀ y0 y1 y2 y3 y4 y5 y6 y7 y8 y9 y10, LeO (flagstonelaw40_WealthFair.j6 k y0 y1 y2 y3 y4 y5 y6 y7 y8 y9 y10) (flagstonelaw40_WealthFair.j6 (k + 1) y0 y1 y2 y3 y4 y5 y6 y7 y8 y9 y10))
  | 0 => ⟨fun _ _ _ _ _ _ _ _ r h => by simp [flagstonelaw40_WealthFair.j0] at h, fun _ _ _ _ _ _ _ _ _ _ r h => by simp [flagstonelaw40_WealthFair.l0] at h, fun _ _ _ _ _ _ _ _ _ _ r h => by simp [flagstonelaw40_WealthFair.l1] at h, fun _ _ _ _ _ _ _ _ _ _ _ _ r h => by simp [flagstonelaw40_WealthFair.j3] at h, fun _ _ _ _ _ _ _ _ _ _ _ _ _ r h => by simp [flagstonelaw40_WealthFair.j4] at h, fun _ _ _ _ _ _ _ _ _ _ _ _ _ _ _ r h => by simp [flagstonelaw40_WealthFair.l2] at h, fun _ _ _ _ _ _ _ _ _ _ _ r h => by simp [flagstonelaw40_WealthFair.j6] at h⟩
  | k + 1 => by
    obtain ⟨ih0, ih1, ih2, ih3, ih4, ih5, ih6⟩ := flagstonelaw40_WealthFair.mono_l k
    refine ⟨?_, ?_, ?_, ?_, ?_, ?_, ?_⟩
    · intro y0 y1 y2 y3 y4 y5 y6 y7
      unfold flagstonelaw40_WealthFair.j0
      repeat' first
      | (with_reducible exact ih0 _ _ _ _ _ _ _ _)
      | (with_reducible exact ih1 _ _ _ _ _ _ _ _ _ _)
      | (with_reducible exact ih2 _ _ _ _ _ _ _ _ _ _)
      | (with_reducible exact ih3 _ _ _ _ _ _ _ _ _ _ _ _)
      | (with_reducible exact ih4 _ _ _ _ _ _ _ _ _ _ _ _ _)
      | (with_reducible exact ih5 _ _ _ _ _ _ _ _ _ _ _ _ _ _ _)
      | (with_reducible exact ih6 _ _ _ _ _ _ _ _ _ _ _)
      | (with_reducible exact flagstonelaw40_awake.mono _)
      | (with_reducible exact wealth_Factor.mono _ _ _ _ _ _ _)
      | (with_reducible exact wealth_Grow.mono _ _ _ _)
      | (with_reducible exact LeO.refl _)
      | (with_reducible exact LeO.none _)
      | (with_reducible refine LeO.ite ?_ ?_)
      | (with_reducible refine LeO.bind ?_ (fun _ => ?_))
      | exact ih0 _ _ _ _ _ _ _ _
      | exact ih1 _ _ _ _ _ _ _ _ _ _
      | exact ih2 _ _ _ _ _ _ _ _ _ _
      | exact ih3 _ _ _ _ _ _ _ _ _ _ _ _
      | exact ih4 _ _ _ _ _ _ _ _ _ _ _ _ _
      | exact ih5 _ _ _ _ _ _ _ _ _ _ _ _ _ _ _
      | exact ih6 _ _ _ _ _ _ _ _ _ _ _
      | exact flagstonelaw40_awake.mono _
      | exact wealth_Factor.mono _ _ _ _ _ _ _
      | exact wealth_Grow.mono _ _ _ _
      | exact LeO.none _
      | refine LeO.ite ?_ ?_
      | refine LeO.bind ?_ (fun _ => ?_)
    · intro y0 y1 y2 y3 y4 y5 y6 y7 y8 y9
      unfold flagstonelaw40_WealthFair.l0
      repeat' first
      | (with_reducible exact ih0 _ _ _ _ _ _ _ _)
      | (with_reducible exact ih1 _ _ _ _ _ _ _ _ _ _)
      | (with_reducible exact ih2 _ _ _ _ _ _ _ _ _ _)
      | (with_reducible exact ih3 _ _ _ _ _ _ _ _ _ _ _ _)
      | (with_reducible exact ih4 _ _ _ _ _ _ _ _ _ _ _ _ _)
      | (with_reducible exact ih5 _ _ _ _ _ _ _ _ _ _ _ _ _ _ _)
      | (with_reducible exact ih6 _ _ _ _ _ _ _ _ _ _ _)
      | (with_reducible exact flagstonelaw40_awake.mono _)
      | (with_reducible exact wealth_Factor.mono _ _ _ _ _ _ _)
      | (with_reducible exact wealth_Grow.mono _ _ _ _)
      | (with_reducible exact LeO.refl _)
      | (with_reducible exact LeO.none _)
      | (with_reducible refine LeO.ite ?_ ?_)
      | (with_reducible refine LeO.bind ?_ (fun _ => ?_))
      | exact ih0 _ _ _ _ _ _ _ _
      | exact ih1 _ _ _ _ _ _ _ _ _ _
      | exact ih2 _ _ _ _ _ _ _ _ _ _
      | exact ih3 _ _ _ _ _ _ _ _ _ _ _ _
      | exact ih4 _ _ _ _ _ _ _ _ _ _ _ _ _
      | exact ih5 _ _ _ _ _ _ _ _ _ _ _ _ _ _ _
      | exact ih6 _ _ _ _ _ _ _ _ _ _ _
      | exact flagstonelaw40_awake.mono _
      | exact wealth_Factor.mono _ _ _ _ _ _ _
      | exact wealth_Grow.mono _ _ _ _
      | exact LeO.none _
      | refine LeO.ite ?_ ?_
      | refine LeO.bind ?_ (fun _ => ?_)
    · intro y0 y1 y2 y3 y4 y5 y6 y7 y8 y9
      unfold flagstonelaw40_WealthFair.l1
      repeat' first
      | (with_reducible exact ih0 _ _ _ _ _ _ _ _)
      | (with_reducible exact ih1 _ _ _ _ _ _ _ _ _ _)
      | (with_reducible exact ih2 _ _ _ _ _ _ _ _ _ _)
      | (with_reducible exact ih3 _ _ _ _ _ _ _ _ _ _ _ _)
      | (with_reducible exact ih4 _ _ _ _ _ _ _ _ _ _ _ _ _)
      | (with_reducible exact ih5 _ _ _ _ _ _ _ _ _ _ _ _ _ _ _)
      | (with_reducible exact ih6 _ _ _ _ _ _ _ _ _ _ _)
      | (with_reducible exact flagstonelaw40_awake.mono _)
      | (with_reducible exact wealth_Factor.mono _ _ _ _ _ _ _)
      | (with_reducible exact wealth_Grow.mono _ _ _ _)
      | (with_reducible exact LeO.refl _)
      | (with_reducible exact LeO.none _)
      | (with_reducible refine LeO.ite ?_ ?_)
      | (with_reducible refine LeO.bind ?_ (fun _ => ?_))
      | exact ih0 _ _ _ _ _ _ _ _
      | exact ih1 _ _ _ _ _ _ _ _ _ _
      | exact ih2 _ _ _ _ _ _ _ _ _ _
      | exact ih3 _ _ _ _ _ _ _ _ _ _ _ _
      | exact ih4 _ _ _ _ _ _ _ _ _ _ _ _ _
      | exact ih5 _ _ _ _ _ _ _ _ _ _ _ _ _ _ _
      | exact ih6 _ _ _ _ _ _ _ _ _ _ _
      | exact flagstonelaw40_awake.mono _
      | exact wealth_Factor.mono _ _ _ _ _ _ _
      | exact wealth_Grow.mono _ _ _ _
      | exact LeO.none _
      | refine LeO.ite ?_ ?_
      | refine LeO.bind ?_ (fun _ => ?_)
    · intro y0 y1 y2 y3 y4 y5 y6 y7 y8 y9 y10 y11
      unfold flagstonelaw40_WealthFair.j3
      repeat' first
      | (with_reducible exact ih0 _ _ _ _ _ _ _ _)
      | (with_reducible exact ih1 _ _ _ _ _ _ _ _ _ _)
      | (with_reducible exact ih2 _ _ _ _ _ _ _ _ _ _)
      | (with_reducible exact ih3 _ _ _ _ _ _ _ _ _ _ _ _)
      | (with_reducible exact ih4 _ _ _ _ _ _ _ _ _ _ _ _ _)
      | (with_reducible exact ih5 _ _ _ _ _ _ _ _ _ _ _ _ _ _ _)
      | (with_reducible exact ih6 _ _ _ _ _ _ _ _ _ _ _)
      | (with_reducible exact flagstonelaw40_awake.mono _)
      | (with_reducible exact wealth_Factor.mono _ _ _ _ _ _ _)
      | (with_reducible exact wealth_Grow.mono _ _ _ _)
      | (with_reducible exact LeO.refl _)
      | (with_reducible exact LeO.none _)
      | (with_reducible refine LeO.ite ?_ ?_)
      | (with_reducible refine LeO.bind ?_ (fun _ => ?_))
      | exact ih0 _ _ _ _ _ _ _ _
      | exact ih1 _ _ _ _ _ _ _ _ _ _
      | exact ih2 _ _ _ _ _ _ _ _ _ _
      | exact ih3 _ _ _ _ _ _ _ _ _ _ _ _
      | exact ih4 _ _ _ _ _ _ _ _ _ _ _ _ _
      | exact ih5 _ _ _ _ _ _ _ _ _ _ _ _ _ _ _
      | exact ih6 _ _ _ _ _ _ _ _ _ _ _
      | exact flagstonelaw40_awake.mono _
      | exact wealth_Factor.mono _ _ _ _ _ _ _
      | exact wealth_Grow.mono _ _ _ _
      | exact LeO.none _
      | refine LeO.ite ?_ ?_
      | refine LeO.bind ?_ (fun _ => ?_)
    · intro y0 y1 y2 y3 y4 y5 y6 y7 y8 y9 y10 y11 y12
      unfold flagstonelaw40_WealthFair.j4
      repeat' first
      | (with_reducible exact ih0 _ _ _ _ _ _ _ _)
      | (with_reducible exact ih1 _ _ _ _ _ _ _ _ _ _)
      | (with_reducible exact ih2 _ _ _ _ _ _ _ _ _ _)
      | (with_reducible exact ih3 _ _ _ _ _ _ _ _ _ _ _ _)
      | (with_reducible exact ih4 _ _ _ _ _ _ _ _ _ _ _ _ _)
      | (with_reducible exact ih5 _ _ _ _ _ _ _ _ _ _ _ _ _ _ _)
      | (with_reducible exact ih6 _ _ _ _ _ _ _ _ _ _ _)
      | (with_reducible exact flagstonelaw40_awake.mono _)
      | (with_reducible exact wealth_Factor.mono _ _ _ _ _ _ _)
      | (with_reducible exact wealth_Grow.mono _ _ _ _)
      | (with_reducible exact LeO.refl _)
      | (with_reducible exact LeO.none _)
      | (with_reducible refine LeO.ite ?_ ?_)
      | (with_reducible refine LeO.bind ?_ (fun _ => ?_))
      | exact ih0 _ _ _ _ _ _ _ _
      | exact ih1 _ _ _ _ _ _ _ _ _ _
      | exact ih2 _ _ _ _ _ _ _ _ _ _
      | exact ih3 _ _ _ _ _ _ _ _ _ _ _ _
      | exact ih4 _ _ _ _ _ _ _ _ _ _ _ _ _
      | exact ih5 _ _ _ _ _ _ _ _ _ _ _ _ _ _ _
      | exact ih6 _ _ _ _ _ _ _ _ _ _ _
      | exact flagstonelaw40_awake.mono _
      | exact wealth_Factor.mono _ _ _ _ _ _ _
      | exact wealth_Grow.mono _ _ _ _
      | exact LeO.none _
      | refine LeO.ite ?_ ?_
      | refine LeO.bind ?_ (fun _ => ?_)
    · intro y0 y1 y2 y3 y4 y5 y6 y7 y8 y9 y10 y11 y12 y13 y14
      unfold flagstonelaw40_WealthFair.l2
      repeat' first
      | (with_reducible exact ih0 _ _ _ _ _ _ _ _)
      | (with_reducible exact ih1 _ _ _ _ _ _ _ _ _ _)
      | (with_reducible exact ih2 _ _ _ _ _ _ _ _ _ _)
      | (with_reducible exact ih3 _ _ _ _ _ _ _ _ _ _ _ _)
      | (with_reducible exact ih4 _ _ _ _ _ _ _ _ _ _ _ _ _)
      | (with_reducible exact ih5 _ _ _ _ _ _ _ _ _ _ _ _ _ _ _)
      | (with_reducible exact ih6 _ _ _ _ _ _ _ _ _ _ _)
      | (with_reducible exact flagstonelaw40_awake.mono _)
      | (with_reducible exact wealth_Factor.mono _ _ _ _ _ _ _)
      | (with_reducible exact wealth_Grow.mono _ _ _ _)
      | (with_reducible exact LeO.refl _)
      | (with_reducible exact LeO.none _)
      | (with_reducible refine LeO.ite ?_ ?_)
      | (with_reducible refine LeO.bind ?_ (fun _ => ?_))
      | exact ih0 _ _ _ _ _ _ _ _
      | exact ih1 _ _ _ _ _ _ _ _ _ _
      | exact ih2 _ _ _ _ _ _ _ _ _ _
      | exact ih3 _ _ _ _ _ _ _ _ _ _ _ _
      | exact ih4 _ _ _ _ _ _ _ _ _ _ _ _ _
      | exact ih5 _ _ _ _ _ _ _ _ _ _ _ _ _ _ _
      | exact ih6 _ _ _ _ _ _ _ _ _ _ _
      | exact flagstonelaw40_awake.mono _
      | exact wealth_Factor.mono _ _ _ _ _ _ _
      | exact wealth_Grow.mono _ _ _ _
      | exact LeO.none _
      | refine LeO.ite ?_ ?_
      | refine LeO.bind ?_ (fun _ => ?_)
    · intro y0 y1 y2 y3 y4 y5 y6 y7 y8 y9 y10
      unfold flagstonelaw40_WealthFair.j6
      repeat' first
      | (with_reducible exact ih0 _ _ _ _ _ _ _ _)
      | (with_reducible exact ih1 _ _ _ _ _ _ _ _ _ _)
      | (with_reducible exact ih2 _ _ _ _ _ _ _ _ _ _)
      | (with_reducible exact ih3 _ _ _ _ _ _ _ _ _ _ _ _)
      | (with_reducible exact ih4 _ _ _ _ _ _ _ _ _ _ _ _ _)
      | (with_reducible exact ih5 _ _ _ _ _ _ _ _ _ _ _ _ _ _ _)
      | (with_reducible exact ih6 _ _ _ _ _ _ _ _ _ _ _)
      | (with_reducible exact flagstonelaw40_awake.mono _)
      | (with_reducible exact wealth_Factor.mono _ _ _ _ _ _ _)
      | (with_reducible exact wealth_Grow.mono _ _ _ _)
      | (with_reducible exact LeO.refl _)
      | (with_reducible exact LeO.none _)
      | (with_reducible refine LeO.ite ?_ ?_)
      | (with_reducible refine LeO.bind ?_ (fun _ => ?_))
      | exact ih0 _ _ _ _ _ _ _ _
      | exact ih1 _ _ _ _ _ _ _ _ _ _
      | exact ih2 _ _ _ _ _ _ _ _ _ _
      | exact ih3 _ _ _ _ _ _ _ _ _ _ _ _
      | exact ih4 _ _ _ _ _ _ _ _ _ _ _ _ _
      | exact ih5 _ _ _ _ _ _ _ _ _ _ _ _ _ _ _
      | exact ih6 _ _ _ _ _ _ _ _ _ _ _
      | exact flagstonelaw40_awake.mono _
      | exact wealth_Factor.mono _ _ _ _ _ _ _
      | exact wealth_Grow.mono _ _ _ _
      | exact LeO.none _
      | refine LeO.ite ?_ ?_
      | refine LeO.bind ?_ (fun _ => ?_)
theorem flagstonelaw40_WealthFair.mono : ∀ a0 a1 a2 a3 a4 a5 a6 k, LeO (flagstonelaw40_WealthFair.f k a0 a1 a2 a3 a4 a5 a6) (flagstonelaw40_WealthFair.f (k + 1) a0 a1 a2 a3 a4 a5 a6) := by
  intro a0 a1 a2 a3 a4 a5 a6 k
  obtain ⟨ih0, ih1, ih2, ih3, ih4, ih5, ih6⟩ := flagstonelaw40_WealthFair.mono_l k
  unfold flagstonelaw40_WealthFair.f
  repeat' first
      | (with_reducible exact ih0 _ _ _ _ _ _ _ _)
      | (with_reducible exact ih1 _ _ _ _ _ _ _ _ _ _)
      | (with_reducible exact ih2 _ _ _ _ _ _ _ _ _ _)
      | (with_reducible exact ih3 _ _ _ _ _ _ _ _ _ _ _ _)
      | (with_reducible exact ih4 _ _ _ _ _ _ _ _ _ _ _ _ _)
      | (with_reducible exact ih5 _ _ _ _ _ _ _ _ _ _ _ _ _ _ _)
      | (with_reducible exact ih6 _ _ _ _ _ _ _ _ _ _ _)
      | (with_reducible exact flagstonelaw40_awake.mono _)
      | (with_reducible exact wealth_Factor.mono _ _ _ _ _ _ _)
      | (with_reducible exact wealth_Grow.mono _ _ _ _)
      | (with_reducible exact LeO.refl _)
      | (with_reducible exact LeO.none _)
      | (with_reducible refine LeO.ite ?_ ?_)
      | (with_reducible refine LeO.bind ?_ (fun _ => ?_))
      | exact ih0 _ _ _ _ _ _ _ _
      | exact ih1 _ _ _ _ _ _ _ _ _ _
      | exact ih2 _ _ _ _ _ _ _ _ _ _
      | exact ih3 _ _ _ _ _ _ _ _ _ _ _ _
      | exact ih4 _ _ _ _ _ _ _ _ _ _ _ _ _
      | exact ih5 _ _ _ _ _ _ _ _ _ _ _ _ _ _ _
      | exact ih6 _ _ _ _ _ _ _ _ _ _ _
      | exact flagstonelaw40_awake.mono _
      | exact wealth_Factor.mono _ _ _ _ _ _ _
      | exact wealth_Grow.mono _ _ _ _
      | exact LeO.none _
      | refine LeO.ite ?_ ?_
      | refine LeO.bind ?_ (fun _ => ?_)
set_option maxHeartbeats 8000000 in
set_option maxRecDepth 100000 in
theorem flagstonelaw40_WealthFair.calls (k : Nat) (A0 : Option Addr) (c0 : Nat) (l0 : List (S38)) (a1 : Int) (a2 : Int) (a3 : Int) (a4 : Int) (a5 : Int) (a6 : Int) (r : Bool) (w : World) (hr0 : Kd.C k38 w A0 l0.length l0) (hc0 : l0.length ≤ c0) (h : flagstonelaw40_WealthFair.f k l0 a1 a2 a3 a4 a5 a6 = some r) :
    Calls Try.prog 5 #[.slice A0 l0.length c0, .int .u8 a1, .int .u8 a2, .int .i64 a3, .int .u8 a4, .int .u8 a5, .int .u8 a6] w fun e w' => e = .returned (.bool r) ∧ Below w.heap.size w w' := by
  have hu28 := Try.underlying28
  have HR0 := Aside0.mk hr0
  have HC0 := Aside0.mk hc0
  clear hr0 hc0
  have HB := Aside0.mk (Below.refl w.heap.size w)
  have H : ((flagstonelaw40_awake.f k).bind fun t165 => (if t165 = true then (if (l0.length : Int) = 0 then (flagstonelaw40_WealthFair.j0 k l0 a1 a2 a3 a4 a5 a6 true) else (flagstonelaw40_WealthFair.j0 k l0 a1 a2 a3 a4 a5 a6 (decide ((l0.length : Int) > 12)))) else (some false))) = some r := h
  clear h
  replace H := Option.bind_eq_some_iff.mp H
  obtain ⟨t165, A80, H⟩ := H
  replace H : (if t165 = true then (if (l0.length : Int) = 0 then (flagstonelaw40_WealthFair.j0 k l0 a1 a2 a3 a4 a5 a6 true) else (flagstonelaw40_WealthFair.j0 k l0 a1 a2 a3 a4 a5 a6 (decide ((l0.length : Int) > 12)))) else (some false)) = some r := H
  have A8 := Aside0.mk A80
  clear A80
  by_cases c9 : t165 = true
  · subst c9
    have H1 : (if (l0.length : Int) = 0 then (flagstonelaw40_WealthFair.j0 k l0 a1 a2 a3 a4 a5 a6 true) else (flagstonelaw40_WealthFair.j0 k l0 a1 a2 a3 a4 a5 a6 (decide ((l0.length : Int) > 12)))) = some r := by rw [if_pos rfl] at H; exact H
    clear H
    have H := H1
    clear H1
    have HC10 := Aside0.mk H
    clear H
    go_enter Try.func5, Try.ntmps5
    go_upto_region 3 with (first | (go_at_call 10; (with_reducible refine (flagstonelaw40_awake.calls k  true _ A8.out).mono ?_); rintro e w11 ⟨rfl, hb⟩; have n0_ := Aside0.mk (below_step (by repeat (first | (with_reducible first | exact HB.out | apply below_alloc | apply pw_below_drewN | apply below_drew1) | exact HB.out)) hb); clear HB; have HB := n0_; clear n0_; (try clear hb); (try clear hb2); (try clear hk); (try clear hi)))
    repeat (go_quiet (first | (go_at_call 10; (with_reducible refine (flagstonelaw40_awake.calls k  true _ A8.out).mono ?_); rintro e w11 ⟨rfl, hb⟩; have n0_ := Aside0.mk (below_step (by repeat (first | (with_reducible first | exact HB.out | apply below_alloc | apply pw_below_drewN | apply below_drew1) | exact HB.out)) hb); clear HB; have HB := n0_; clear n0_; (try clear hb); (try clear hb2); (try clear hk); (try clear hi))); go_upto_region 3 with (first | (go_at_call 10; (with_reducible refine (flagstonelaw40_awake.calls k  true _ A8.out).mono ?_); rintro e w11 ⟨rfl, hb⟩; have n0_ := Aside0.mk (below_step (by repeat (first | (with_reducible first | exact HB.out | apply below_alloc | apply pw_below_drewN | apply below_drew1) | exact HB.out)) hb); clear HB; have HB := n0_; clear n0_; (try clear hb); (try clear hb2); (try clear hk); (try clear hi))))
    (try simp only [Act.put, List.setIfInBounds_toArray, List.set_cons_zero, List.set_cons_succ])
    go_cut [45] (fun v45 wc => ∃ (kq : Nat) (x45_9 : Bool), v45 = .bool x45_9 ∧ Aside0 (flagstonelaw40_WealthFair.j0 kq l0 a1 a2 a3 a4 a5 a6 x45_9 = some r) ∧ Aside0 (kq ≤ k) ∧ Aside0 (Below w.heap.size w wc))
    case first =>
      have H := HC10.out
      clear HC10
      by_cases c12 : (l0.length : Int) = 0
      · rw [if_pos c12] at H
        have c12b0 : ((l0.length : Int) == 0) = true := beq_iff_eq.mpr c12
        have c12b1 : ((l0.length : Int) != 0) = false := bne_eq_false_iff_eq.mpr c12
        clear c12
        (first | rw [c12b0] | (simp only [i64_w, i32_w]; rw [c12b0]) | skip)
        have H' := Aside0.mk H
        clear H
        go_wp2
        repeat (go_quiet (fail); try go_wp2)
        go_meet
        case rel => exact ⟨_, (true), (by first | rfl | (simp; done) | (simp [*]; done) | exact congrArg (Value.int _) (by unfold wrap64; omega)), H', ⟨by first | omega | exact Nat.le_refl _⟩, ⟨by repeat (first | (with_reducible first | exact HB.out | apply below_alloc | apply pw_below_drewN | apply below_drew1) | exact HB.out)⟩⟩
      · rw [if_neg c12] at H
        have c12b0 : ((l0.length : Int) == 0) = false := beq_eq_false_iff_ne.mpr c12
        have c12b1 : ((l0.length : Int) != 0) = true := bne_iff_ne.mpr c12
        have c12b2 : ¬ (l0 = []) := fun h_ => c12 (by rw [h_]; rfl)
        (first | rw [c12b0] | (simp only [i64_w, i32_w]; rw [c12b0]) | skip)
        have H' := Aside0.mk H
        clear H
        go_wp2
        repeat (go_quiet (fail); try go_wp2)
        go_meet
        case rel => exact ⟨_, (decide ((l0.length : Int) > 12)), (by first | rfl | (simp; done) | (simp [*]; done) | exact congrArg (Value.int _) (by unfold wrap64; omega)), H', ⟨by first | omega | exact Nat.le_refl _⟩, ⟨by repeat (first | (with_reducible first | exact HB.out | apply below_alloc | apply pw_below_drewN | apply below_drew1) | exact HB.out)⟩⟩
    case rest =>
      clear HC10
      try clear c1
      try clear p2
      try clear c5
      try clear p6
      try clear c9
      try clear c12
      try clear c12b0
      try clear c12b1
      try clear c12b2
      obtain ⟨kq, x45_9, rfl, HA, HJ9, HB⟩ := hcut
      cases kq with
      | zero => exact absurd HA.out (by simp [flagstonelaw40_WealthFair.j0])
      | succ kj9 =>
        have H := HA.out
        clear HA
        simp only [flagstonelaw40_WealthFair.j0] at H
        by_cases c13 : x45_9 = true
        · subst c13
          have H1 : (some true) = some r := by rw [if_pos rfl] at H; exact H
          clear H
          have H := H1
          clear H1
          obtain rfl := Option.some.inj H
          go_wp2
          repeat (go_quiet (fail); try go_wp2)
          go_ret
          exact ⟨by first | rfl | (simp [errW_none, errW_some] <;> rfl) | (simp [*, errW_none, errW_some] <;> rfl), by repeat (first | (with_reducible first | exact HB.out | apply below_alloc | apply pw_below_drewN | apply below_drew1) | exact HB.out)⟩
        · replace c13 := Bool.eq_false_iff.mpr c13
          subst c13
          have H1 : (flagstonelaw40_WealthFair.l0 kj9 l0 a3 a4 a5 a6 (wrap64 (1 + (Int.tmod (wrap64 (a1)) 30))) (wrap64 (1 + (wrap64 (a2)))) 0 0 0) = some r := by rw [if_neg (show ¬ (false = true) by decide)] at H; exact H
          clear H
          have H := H1
          clear H1
          have H' := Aside0.mk H
          clear H
          go_wp2
          repeat (go_quiet (fail); try go_wp2)
          go_loopg [17, 18, 19] kj9 (fun kq v17 v18 v19 w' => ∃ (x17_2 : Int) (x18_2 : Int) (x19_2 : Int), v17 = .int .i64 x17_2 ∧ v18 = .int .i64 x18_2 ∧ v19 = .int .i64 x19_2 ∧ Aside0 (flagstonelaw40_WealthFair.l0 kq l0 a3 a4 a5 a6 (wrap64 (1 + (Int.tmod (wrap64 (a1)) 30))) (wrap64 (1 + (wrap64 (a2)))) x17_2 x18_2 x19_2 = some r) ∧ Aside0 (kq ≤ kj9) ∧ Aside0 (Below w.heap.size w w'))
          case atStart => exact ⟨(0), (0), (0), (by first | rfl | (simp; done) | (simp [*]; done) | exact congrArg (Value.int _) (by unfold wrap64; omega)), (by first | rfl | (simp; done) | (simp [*]; done) | exact congrArg (Value.int _) (by unfold wrap64; omega)), (by first | rfl | (simp; done) | (simp [*]; done) | exact congrArg (Value.int _) (by unfold wrap64; omega)), H', ⟨Nat.le_refl _⟩, ⟨by repeat (first | (with_reducible first | exact HB.out | apply below_alloc | apply pw_below_drewN | apply below_drew1) | exact HB.out)⟩⟩
          case round =>
            clear H'
            try clear c1
            try clear p2
            try clear c5
            try clear p6
            try clear c9
            try clear c12
            try clear c12b0
            try clear c12b1
            try clear c12b2
            try clear c13
            try clear p2
            try clear p6
            obtain ⟨x17_2, x18_2, x19_2, rfl, rfl, rfl, HA, HK2, HB⟩ := hrel
            cases gk with
            | zero => exact absurd HA.out (by simp [flagstonelaw40_WealthFair.l0])
            | succ k2 =>
              have H := HA.out
              clear HA
              simp only [flagstonelaw40_WealthFair.l0] at H
              by_cases c14 : x19_2 < (l0.length : Int)
              · rw [if_pos c14] at H
                have c14b0 : decide (x19_2 < (l0.length : Int)) = true := decide_eq_true c14
                clear c14
                by_cases c15 : 0 ≤ x19_2
                · rw [if_pos c15] at H
                  have c15b0 : decide (0 ≤ x19_2) = true := decide_eq_true c15
                  clear c15
                  by_cases c16 : (wrap64 ((wrap64 (2 * (wrap64 (1 + (wrap64 (a2)))))) + 1)) = 0
                  · rw [if_pos c16] at H
                    exact absurd H (by simp)
                  · rw [if_neg c16] at H
                    have c16b0 : ((wrap64 ((wrap64 (2 * (wrap64 (1 + (wrap64 (a2)))))) + 1)) == 0) = false := beq_eq_false_iff_ne.mpr c16
                    have c16b1 : ((wrap64 ((wrap64 (2 * (wrap64 (1 + (wrap64 (a2)))))) + 1)) != 0) = true := bne_iff_ne.mpr c16
                    have H' := Aside0.mk H
                    clear H
                    have p166 : 0 ≤ (x19_2 : Int) := of_decide_eq_true (by first | (with_reducible assumption) | assumption)
                    have q166 : x19_2 < (l0.length : Int) := of_decide_eq_true (by first | (with_reducible assumption) | assumption)
                    obtain ⟨ad166, e166, hx166_0, hx166_1⟩ := at_T38 HR0.out x19_2 p166 q166
                    cases e166
                    replace hx166_0 := (HB.out.cell (World.block_lt_of_cell? w _ hx166_0)).trans hx166_0
                    replace hx166_1 := (HB.out.cell (World.block_lt_of_cell? w _ hx166_1)).trans hx166_1
                    replace p166 := eq_true p166
                    replace q166 := eq_true q166
                    have p167 : 0 ≤ (x19_2 : Int) := of_decide_eq_true (by first | (with_reducible assumption) | assumption)
                    have q167 : x19_2 < (l0.length : Int) := of_decide_eq_true (by first | (with_reducible assumption) | assumption)
                    obtain ⟨ad167, e167, hx167_0, hx167_1⟩ := at_T38 HR0.out x19_2 p167 q167
                    obtain rfl : ad166 = ad167 := (by injection e167)
                    replace hx167_0 := (HB.out.cell (World.block_lt_of_cell? w _ hx167_0)).trans hx167_0
                    replace hx167_1 := (HB.out.cell (World.block_lt_of_cell? w _ hx167_1)).trans hx167_1
                    replace p167 := eq_true p167
                    replace q167 := eq_true q167
                    have p168 : 0 ≤ (x19_2 : Int) := of_decide_eq_true (by first | (with_reducible assumption) | assumption)
                    have q168 : x19_2 < (l0.length : Int) := of_decide_eq_true (by first | (with_reducible assumption) | assumption)
                    obtain ⟨ad168, e168, hx168_0, hx168_1⟩ := at_T38 HR0.out x19_2 p168 q168
                    obtain rfl : ad166 = ad168 := (by injection e168)
                    replace hx168_0 := (HB.out.cell (World.block_lt_of_cell? w _ hx168_0)).trans hx168_0
                    replace hx168_1 := (HB.out.cell (World.block_lt_of_cell? w _ hx168_1)).trans hx168_1
                    replace p168 := eq_true p168
                    replace q168 := eq_true q168
                    go_wp2
                    repeat (go_quiet (fail); try go_wp2)
                    go_roundg k2
                    case measure => have := HJ9.out; have := HK2.out; omega
                    case rel => exact ⟨(wrap64 (x17_2 + (wrap64 (1 + (wrap64 ((rd_T38 l0 x19_2).f1)))))), (wrap64 (x18_2 + (wrap64 ((wrap64 (1 + (wrap64 ((rd_T38 l0 x19_2).f1)))) * (wrap64 ((Int.tmod (wrap64 ((rd_T38 l0 x19_2).f0)) (wrap64 ((wrap64 (2 * (wrap64 (1 + (wrap64 (a2)))))) + 1))) - (wrap64 (1 + (wrap64 (a2)))))))))), (wrap64 (x19_2 + 1)), (by first | rfl | (simp; done) | (simp [*]; done) | exact congrArg (Value.int _) (by unfold wrap64; omega)), (by first | rfl | (simp; done) | (simp [*]; done) | exact congrArg (Value.int _) (by unfold wrap64; omega)), (by first | rfl | (simp; done) | (simp [*]; done) | exact congrArg (Value.int _) (by unfold wrap64; omega)), H', ⟨by have := HJ9.out; have := HK2.out; omega⟩, ⟨by repeat (first | (with_reducible first | exact HB.out | apply below_alloc | apply pw_below_drewN | apply below_drew1) | exact HB.out)⟩⟩
                · rw [if_neg c15] at H
                  exact absurd H (by simp)
              · rw [if_neg c14] at H
                have c14b0 : decide (x19_2 < (l0.length : Int)) = false := decide_eq_false c14
                clear c14
                replace H := Option.bind_eq_some_iff.mp H
                obtain ⟨t169, A170, H⟩ := H
                replace H : ((flagstonelaw40_floor.f (wrap64 ((wrap64 (-x18_2)) * 1000)) (wrap64 (x17_2 * (wrap64 (1 + (Int.tmod (wrap64 (a1)) 30)))))).bind fun t170 => (if 0 ≤ (Int.tmod a4 62) then (flagstonelaw40_WealthFair.l1 k2 l0 a5 a6 (wrap64 (1 + (Int.tmod (wrap64 (a1)) 30))) (wrap64 (1 + (wrap64 (a2)))) x17_2 t169 (wrap64 (-t170)) (mn (shr .i64 (wrap64 ((IntKind.u64.wrap (a3)) / 2)) (Int.tmod a4 62)) 2305843009213693952) 0) else (none))) = some r := H
                have A17 := Aside0.mk A170
                clear A170
                replace H := Option.bind_eq_some_iff.mp H
                obtain ⟨t170, A180, H⟩ := H
                replace H : (if 0 ≤ (Int.tmod a4 62) then (flagstonelaw40_WealthFair.l1 k2 l0 a5 a6 (wrap64 (1 + (Int.tmod (wrap64 (a1)) 30))) (wrap64 (1 + (wrap64 (a2)))) x17_2 t169 (wrap64 (-t170)) (mn (shr .i64 (wrap64 ((IntKind.u64.wrap (a3)) / 2)) (Int.tmod a4 62)) 2305843009213693952) 0) else (none)) = some r := H
                have A18 := Aside0.mk A180
                clear A180
                obtain ⟨ji19, hji19⟩ : ∃ j_ : Int, (Int.tmod a4 62) = j_ := ⟨_, rfl⟩
                replace H : (if 0 ≤ (ji19) then (flagstonelaw40_WealthFair.l1 k2 l0 a5 a6 (wrap64 (1 + (Int.tmod (wrap64 (a1)) 30))) (wrap64 (1 + (wrap64 (a2)))) x17_2 t169 (wrap64 (-t170)) (mn (shr .i64 (wrap64 ((IntKind.u64.wrap (a3)) / 2)) (ji19)) 2305843009213693952) 0) else (none)) = some r := by first | (rw [hji19] at H; exact H) | (simp only [hji19] at H ⊢; exact H)
                (try rw [hji19] at A17)
                (try rw [hji19] at A18)
                by_cases c20 : 0 ≤ (ji19)
                · rw [if_pos c20] at H
                  have c20b0 := eq_true c20
                  have c20b1 : decide (0 ≤ (ji19)) = true := decide_eq_true c20
                  clear c20
                  obtain ⟨ji21, hji21⟩ : ∃ j_ : Int, (shr .i64 (wrap64 ((IntKind.u64.wrap (a3)) / 2)) (ji19)) = j_ := ⟨_, rfl⟩
                  replace H : (flagstonelaw40_WealthFair.l1 k2 l0 a5 a6 (wrap64 (1 + (Int.tmod (wrap64 (a1)) 30))) (wrap64 (1 + (wrap64 (a2)))) x17_2 t169 (wrap64 (-t170)) (mn (ji21) 2305843009213693952) 0) = some r := by first | (rw [hji21] at H; exact H) | (simp only [hji21] at H ⊢; exact H)
                  (try rw [hji21] at A17)
                  (try rw [hji21] at A18)
                  have hji21_ : ((wrap64 ((IntKind.u64.wrap (a3)) / 2)) / 2 ^ min (ji19).toNat 64) = ji21 := hji21
                  have hji21z : (ji19) ≤ 64 → ((wrap64 ((IntKind.u64.wrap (a3)) / 2)) / 2 ^ (ji19).toNat) = ji21 := shr_small hji21
                  obtain ⟨ji22, hji22⟩ : ∃ j_ : Int, (mn (ji21) 2305843009213693952) = j_ := ⟨_, rfl⟩
                  replace H : (flagstonelaw40_WealthFair.l1 k2 l0 a5 a6 (wrap64 (1 + (Int.tmod (wrap64 (a1)) 30))) (wrap64 (1 + (wrap64 (a2)))) x17_2 t169 (wrap64 (-t170)) ji22 0) = some r := by first | (rw [hji22] at H; exact H) | (simp only [hji22] at H ⊢; exact H)
                  (try rw [hji22] at A17)
                  (try rw [hji22] at A18)
                  have hji22_ : (if 2305843009213693952 < (ji21) then 2305843009213693952 else (ji21)) = ji22 := hji22
                  have H' := Aside0.mk H
                  clear H
                  go_wp2_with (first | (go_at_call 16; (with_reducible refine (flagstonelaw40_floor.calls (wrap64 (x18_2 * 1000)) (wrap64 (x17_2 * (wrap64 (1 + (Int.tmod (wrap64 (a1)) 30))))) t169 _ A17.out).mono ?_); rintro e w' ⟨rfl, ⟨nd, rfl⟩⟩; (try first | exact ⟨rfl, _, World.drewN_drewN _ _ _⟩ | exact ⟨rfl, _, Eq.trans (World.drewN_drewN _ _ _) (congrArg (World.drewN _) (Nat.add_assoc _ _ _))⟩)) | (go_at_call 16; (with_reducible refine (flagstonelaw40_floor.calls (wrap64 ((wrap64 (-x18_2)) * 1000)) (wrap64 (x17_2 * (wrap64 (1 + (Int.tmod (wrap64 (a1)) 30))))) t170 _ A18.out).mono ?_); rintro e w' ⟨rfl, ⟨nd, rfl⟩⟩; (try first | exact ⟨rfl, _, World.drewN_drewN _ _ _⟩ | exact ⟨rfl, _, Eq.trans (World.drewN_drewN _ _ _) (congrArg (World.drewN _) (Nat.add_assoc _ _ _))⟩)))
                  repeat (go_quiet (first | (go_at_call 16; (with_reducible refine (flagstonelaw40_floor.calls (wrap64 (x18_2 * 1000)) (wrap64 (x17_2 * (wrap64 (1 + (Int.tmod (wrap64 (a1)) 30))))) t169 _ A17.out).mono ?_); rintro e w' ⟨rfl, ⟨nd, rfl⟩⟩; (try first | exact ⟨rfl, _, World.drewN_drewN _ _ _⟩ | exact ⟨rfl, _, Eq.trans (World.drewN_drewN _ _ _) (congrArg (World.drewN _) (Nat.add_assoc _ _ _))⟩)) | (go_at_call 16; (with_reducible refine (flagstonelaw40_floor.calls (wrap64 ((wrap64 (-x18_2)) * 1000)) (wrap64 (x17_2 * (wrap64 (1 + (Int.tmod (wrap64 (a1)) 30))))) t170 _ A18.out).mono ?_); rintro e w' ⟨rfl, ⟨nd, rfl⟩⟩; (try first | exact ⟨rfl, _, World.drewN_drewN _ _ _⟩ | exact ⟨rfl, _, Eq.trans (World.drewN_drewN _ _ _) (congrArg (World.drewN _) (Nat.add_assoc _ _ _))⟩))); try go_wp2_with (first | (go_at_call 16; (with_reducible refine (flagstonelaw40_floor.calls (wrap64 (x18_2 * 1000)) (wrap64 (x17_2 * (wrap64 (1 + (Int.tmod (wrap64 (a1)) 30))))) t169 _ A17.out).mono ?_); rintro e w' ⟨rfl, ⟨nd, rfl⟩⟩; (try first | exact ⟨rfl, _, World.drewN_drewN _ _ _⟩ | exact ⟨rfl, _, Eq.trans (World.drewN_drewN _ _ _) (congrArg (World.drewN _) (Nat.add_assoc _ _ _))⟩)) | (go_at_call 16; (with_reducible refine (flagstonelaw40_floor.calls (wrap64 ((wrap64 (-x18_2)) * 1000)) (wrap64 (x17_2 * (wrap64 (1 + (Int.tmod (wrap64 (a1)) 30))))) t170 _ A18.out).mono ?_); rintro e w' ⟨rfl, ⟨nd, rfl⟩⟩; (try first | exact ⟨rfl, _, World.drewN_drewN _ _ _⟩ | exact ⟨rfl, _, Eq.trans (World.drewN_drewN _ _ _) (congrArg (World.drewN _) (Nat.add_assoc _ _ _))⟩))))
                  go_loopg [23] k2 (fun kq v23 w' => ∃ (x23_3 : Int), v23 = .int .i64 x23_3 ∧ Aside0 (flagstonelaw40_WealthFair.l1 kq l0 a5 a6 (wrap64 (1 + (Int.tmod (wrap64 (a1)) 30))) (wrap64 (1 + (wrap64 (a2)))) x17_2 t169 (wrap64 (-t170)) ji22 x23_3 = some r) ∧ Aside0 (kq ≤ k2) ∧ Aside0 (Below w.heap.size w w'))
                  case atStart => exact ⟨(0), (by first | rfl | (simp; done) | (simp [*]; done) | exact congrArg (Value.int _) (by unfold wrap64; omega)), H', ⟨Nat.le_refl _⟩, ⟨by repeat (first | (with_reducible first | exact HB.out | apply below_alloc | apply pw_below_drewN | apply below_drew1) | exact HB.out)⟩⟩
                  case round =>
                    clear H'
                    try clear c1
                    try clear p1
                    try clear q1
                    try clear hx1
                    try clear c2
                    try clear p2
                    try clear c5
                    try clear p6
                    try clear c9
                    try clear c12
                    try clear c12b0
                    try clear c12b1
                    try clear c12b2
                    try clear c13
                    try clear c14
                    try clear c14b0
                    try clear c15
                    try clear c15b0
                    try clear c16
                    try clear c16b0
                    try clear c16b1
                    try clear p16
                    try clear q16
                    try clear hx16
                    try clear c20
                    try clear c20b0
                    try clear c20b1
                    try clear hx166_0
                    try clear hx166_1
                    try clear hx167_0
                    try clear hx167_1
                    try clear hx168_0
                    try clear hx168_1
                    try clear p166
                    try clear p167
                    try clear p168
                    try clear p2
                    try clear p6
                    try clear q166
                    try clear q167
                    try clear q168
                    obtain ⟨x23_3, rfl, HA, HK3, HB⟩ := hrel
                    cases gk with
                    | zero => exact absurd HA.out (by simp [flagstonelaw40_WealthFair.l1])
                    | succ k3 =>
                      have H := HA.out
                      clear HA
                      simp only [flagstonelaw40_WealthFair.l1] at H
                      by_cases c23 : x23_3 < 2
                      · rw [if_pos c23] at H
                        have c23b0 : decide (x23_3 < 2) = true := decide_eq_true c23
                        clear c23
                        have HC24 := Aside0.mk H
                        clear H
                        go_upto_if 121 with (fail)
                        repeat (go_quiet (fail); go_upto_if 121 with (fail))
                        go_cut [24, 25] (fun v24 v25 wc => ∃ (kq : Nat) (x24_23 : Int) (x25_23 : Bool), v24 = .int .i64 x24_23 ∧ v25 = .bool x25_23 ∧ Aside0 (flagstonelaw40_WealthFair.j3 kq l0 a5 a6 (wrap64 (1 + (Int.tmod (wrap64 (a1)) 30))) (wrap64 (1 + (wrap64 (a2)))) x17_2 t169 (wrap64 (-t170)) ji22 x23_3 x24_23 x25_23 = some r) ∧ Aside0 (kq ≤ k3) ∧ Aside0 (Below w.heap.size w wc))
                        case first =>
                          have H := HC24.out
                          clear HC24
                          by_cases c25 : x23_3 = 1
                          · rw [if_pos c25] at H
                            have c25b0 : (x23_3 == 1) = true := beq_iff_eq.mpr c25
                            have c25b1 : (x23_3 != 1) = false := bne_eq_false_iff_eq.mpr c25
                            clear c25
                            (first | rw [c25b0] | (simp only [i64_w, i32_w]; rw [c25b0]) | skip)
                            have H' := Aside0.mk H
                            clear H
                            go_wp2
                            repeat (go_quiet (fail); try go_wp2)
                            go_meet
                            case rel => exact ⟨_, (wrap64 (t169 - (wrap64 (a6)))), (false), (by first | rfl | (simp; done) | (simp [*]; done) | exact congrArg (Value.int _) (by unfold wrap64; omega)), (by first | rfl | (simp; done) | (simp [*]; done) | exact congrArg (Value.int _) (by unfold wrap64; omega)), H', ⟨by have := HJ9.out; have := HK2.out; have := HK3.out; first | omega | exact Nat.le_refl _⟩, ⟨by repeat (first | (with_reducible first | exact HB.out | apply below_alloc | apply pw_below_drewN | apply below_drew1) | exact HB.out)⟩⟩
                          · rw [if_neg c25] at H
                            have c25b0 : (x23_3 == 1) = false := beq_eq_false_iff_ne.mpr c25
                            have c25b1 : (x23_3 != 1) = true := bne_iff_ne.mpr c25
                            (first | rw [c25b0] | (simp only [i64_w, i32_w]; rw [c25b0]) | skip)
                            have H' := Aside0.mk H
                            clear H
                            go_wp2
                            repeat (go_quiet (fail); try go_wp2)
                            go_meet
                            case rel => exact ⟨_, (wrap64 ((wrap64 (-t170)) + (wrap64 (a6)))), (true), (by first | rfl | (simp; done) | (simp [*]; done) | exact congrArg (Value.int _) (by unfold wrap64; omega)), (by first | rfl | (simp; done) | (simp [*]; done) | exact congrArg (Value.int _) (by unfold wrap64; omega)), H', ⟨by have := HJ9.out; have := HK2.out; have := HK3.out; first | omega | exact Nat.le_refl _⟩, ⟨by repeat (first | (with_reducible first | exact HB.out | apply below_alloc | apply pw_below_drewN | apply below_drew1) | exact HB.out)⟩⟩
                        case rest =>
                          clear HC24
                          try clear c1
                          try clear p1
                          try clear q1
                          try clear hx1
                          try clear c2
                          try clear p2
                          try clear c5
                          try clear p6
                          try clear c9
                          try clear c12
                          try clear c12b0
                          try clear c12b1
                          try clear c12b2
                          try clear c13
                          try clear c14
                          try clear c14b0
                          try clear c15
                          try clear c15b0
                          try clear c16
                          try clear c16b0
                          try clear c16b1
                          try clear p16
                          try clear q16
                          try clear hx16
                          try clear c20
                          try clear c20b0
                          try clear c20b1
                          try clear c23
                          try clear c23b0
                          try clear c25
                          try clear c25b0
                          try clear c25b1
                          try clear hx166_0
                          try clear hx166_1
                          try clear hx167_0
                          try clear hx167_1
                          try clear hx168_0
                          try clear hx168_1
                          try clear p1
                          try clear p16
                          try clear p166
                          try clear p167
                          try clear p168
                          try clear p2
                          try clear p6
                          try clear q1
                          try clear q16
                          try clear q166
                          try clear q167
                          try clear q168
                          obtain ⟨kq, x24_23, x25_23, rfl, rfl, HA, HJ23, HB⟩ := hcut
                          cases kq with
                          | zero => exact absurd HA.out (by simp [flagstonelaw40_WealthFair.j3])
                          | succ kj23 =>
                            have H := HA.out
                            clear HA
                            simp only [flagstonelaw40_WealthFair.j3] at H
                            obtain ⟨ji26, hji26⟩ : ∃ j_ : Int, (mn x24_23 1000) = j_ := ⟨_, rfl⟩
                            replace H : (if x25_23 = true then (if (mx (-1000) (ji26)) < (wrap64 (-t170)) then (flagstonelaw40_WealthFair.j4 kj23 l0 a5 a6 (wrap64 (1 + (Int.tmod (wrap64 (a1)) 30))) (wrap64 (1 + (wrap64 (a2)))) x17_2 t169 (wrap64 (-t170)) ji22 x23_3 (mx (-1000) (ji26)) x25_23 true) else (flagstonelaw40_WealthFair.j4 kj23 l0 a5 a6 (wrap64 (1 + (Int.tmod (wrap64 (a1)) 30))) (wrap64 (1 + (wrap64 (a2)))) x17_2 t169 (wrap64 (-t170)) ji22 x23_3 (mx (-1000) (ji26)) x25_23 false)) else (flagstonelaw40_WealthFair.j4 kj23 l0 a5 a6 (wrap64 (1 + (Int.tmod (wrap64 (a1)) 30))) (wrap64 (1 + (wrap64 (a2)))) x17_2 t169 (wrap64 (-t170)) ji22 x23_3 (mx (-1000) (ji26)) x25_23 (decide ((mx (-1000) (ji26)) > t169)))) = some r := by first | (rw [hji26] at H; exact H) | (simp only [hji26] at H ⊢; exact H)
                            have hji26_ : (if 1000 < x24_23 then 1000 else x24_23) = ji26 := hji26
                            obtain ⟨ji27, hji27⟩ : ∃ j_ : Int, (mx (-1000) (ji26)) = j_ := ⟨_, rfl⟩
                            replace H : (if x25_23 = true then (if (ji27) < (wrap64 (-t170)) then (flagstonelaw40_WealthFair.j4 kj23 l0 a5 a6 (wrap64 (1 + (Int.tmod (wrap64 (a1)) 30))) (wrap64 (1 + (wrap64 (a2)))) x17_2 t169 (wrap64 (-t170)) ji22 x23_3 ji27 x25_23 true) else (flagstonelaw40_WealthFair.j4 kj23 l0 a5 a6 (wrap64 (1 + (Int.tmod (wrap64 (a1)) 30))) (wrap64 (1 + (wrap64 (a2)))) x17_2 t169 (wrap64 (-t170)) ji22 x23_3 ji27 x25_23 false)) else (flagstonelaw40_WealthFair.j4 kj23 l0 a5 a6 (wrap64 (1 + (Int.tmod (wrap64 (a1)) 30))) (wrap64 (1 + (wrap64 (a2)))) x17_2 t169 (wrap64 (-t170)) ji22 x23_3 ji27 x25_23 (decide ((ji27) > t169)))) = some r := by first | (rw [hji27] at H; exact H) | (simp only [hji27] at H ⊢; exact H)
                            have hji27_ : (if (-1000) < (ji26) then (ji26) else (-1000)) = ji27 := hji27
                            have HC28 := Aside0.mk H
                            clear H
                            go_upto_region 22 with (fail)
                            repeat (go_quiet (fail); go_upto_region 22 with (fail))
                            go_cut [143] (fun v143 wc => ∃ (kq : Nat) (x143_27 : Bool), v143 = .bool x143_27 ∧ Aside0 (flagstonelaw40_WealthFair.j4 kq l0 a5 a6 (wrap64 (1 + (Int.tmod (wrap64 (a1)) 30))) (wrap64 (1 + (wrap64 (a2)))) x17_2 t169 (wrap64 (-t170)) ji22 x23_3 ji27 x25_23 x143_27 = some r) ∧ Aside0 (kq ≤ kj23) ∧ Aside0 (Below w.heap.size w wc))
                            case first =>
                              have H := HC28.out
                              clear HC28
                              by_cases c29 : x25_23 = true
                              · subst c29
                                have H1 : (if (ji27) < (wrap64 (-t170)) then (flagstonelaw40_WealthFair.j4 kj23 l0 a5 a6 (wrap64 (1 + (Int.tmod (wrap64 (a1)) 30))) (wrap64 (1 + (wrap64 (a2)))) x17_2 t169 (wrap64 (-t170)) ji22 x23_3 ji27 true true) else (flagstonelaw40_WealthFair.j4 kj23 l0 a5 a6 (wrap64 (1 + (Int.tmod (wrap64 (a1)) 30))) (wrap64 (1 + (wrap64 (a2)))) x17_2 t169 (wrap64 (-t170)) ji22 x23_3 ji27 true false)) = some r := by rw [if_pos rfl] at H; exact H
                                clear H
                                have H := H1
                                clear H1
                                by_cases c30 : (ji27) < (wrap64 (-t170))
                                · rw [if_pos c30] at H
                                  have c30b0 : decide ((ji27) < (wrap64 (-t170))) = true := decide_eq_true c30
                                  clear c30
                                  (first | rw [c30b0] | (simp only [i64_w, i32_w]; rw [c30b0]) | skip)
                                  have H' := Aside0.mk H
                                  clear H
                                  go_wp2
                                  repeat (go_quiet (fail); try go_wp2)
                                  go_meet
                                  case rel => exact ⟨_, (true), (by first | rfl | (simp; done) | (simp [*]; done) | exact congrArg (Value.int _) (by unfold wrap64; omega)), H', ⟨by have := HJ9.out; have := HK2.out; have := HK3.out; have := HJ23.out; first | omega | exact Nat.le_refl _⟩, ⟨by repeat (first | (with_reducible first | exact HB.out | apply below_alloc | apply pw_below_drewN | apply below_drew1) | exact HB.out)⟩⟩
                                · rw [if_neg c30] at H
                                  have c30b0 : decide ((ji27) < (wrap64 (-t170))) = false := decide_eq_false c30
                                  clear c30
                                  (first | rw [c30b0] | (simp only [i64_w, i32_w]; rw [c30b0]) | skip)
                                  have H' := Aside0.mk H
                                  clear H
                                  go_wp2
                                  repeat (go_quiet (fail); try go_wp2)
                                  go_meet
                                  case rel => exact ⟨_, (false), (by first | rfl | (simp; done) | (simp [*]; done) | exact congrArg (Value.int _) (by unfold wrap64; omega)), H', ⟨by have := HJ9.out; have := HK2.out; have := HK3.out; have := HJ23.out; first | omega | exact Nat.le_refl _⟩, ⟨by repeat (first | (with_reducible first | exact HB.out | apply below_alloc | apply pw_below_drewN | apply below_drew1) | exact HB.out)⟩⟩
                              · replace c29 := Bool.eq_false_iff.mpr c29
                                subst c29
                                have H1 : (flagstonelaw40_WealthFair.j4 kj23 l0 a5 a6 (wrap64 (1 + (Int.tmod (wrap64 (a1)) 30))) (wrap64 (1 + (wrap64 (a2)))) x17_2 t169 (wrap64 (-t170)) ji22 x23_3 ji27 false (decide ((ji27) > t169))) = some r := by rw [if_neg (show ¬ (false = true) by decide)] at H; exact H
                                clear H
                                have H := H1
                                clear H1
                                have H' := Aside0.mk H
                                clear H
                                go_wp2
                                repeat (go_quiet (fail); try go_wp2)
                                go_meet
                                case rel => exact ⟨_, (decide ((ji27) > t169)), (by first | rfl | (simp; done) | (simp only [← hji27] <;> (first | rfl | simp)) | (simp [*]; done) | exact congrArg (Value.int _) (by unfold wrap64; omega)), H', ⟨by have := HJ9.out; have := HK2.out; have := HK3.out; have := HJ23.out; first | omega | exact Nat.le_refl _⟩, ⟨by repeat (first | (with_reducible first | exact HB.out | apply below_alloc | apply pw_below_drewN | apply below_drew1) | exact HB.out)⟩⟩
                            case rest =>
                              clear HC28
                              try clear c1
                              try clear p1
                              try clear q1
                              try clear hx1
                              try clear c2
                              try clear p2
                              try clear c3
                              try clear c5
                              try clear p6
                              try clear c9
                              try clear c12
                              try clear c12b0
                              try clear c12b1
                              try clear c12b2
                              try clear c13
                              try clear c14
                              try clear c14b0
                              try clear c15
                              try clear c15b0
                              try clear c16
                              try clear c16b0
                              try clear c16b1
                              try clear p16
                              try clear q16
                              try clear hx16
                              try clear c20
                              try clear c20b0
                              try clear c20b1
                              try clear c23
                              try clear c23b0
                              try clear c25
                              try clear c25b0
                              try clear c25b1
                              try clear c29
                              try clear c30
                              try clear c30b0
                              try clear hx166_0
                              try clear hx166_1
                              try clear hx167_0
                              try clear hx167_1
                              try clear hx168_0
                              try clear hx168_1
                              try clear p1
                              try clear p16
                              try clear p166
                              try clear p167
                              try clear p168
                              try clear p2
                              try clear p6
                              try clear q1
                              try clear q16
                              try clear q166
                              try clear q167
                              try clear q168
                              obtain ⟨kq, x143_27, rfl, HA, HJ27, HB⟩ := hcut
                              cases kq with
                              | zero => exact absurd HA.out (by simp [flagstonelaw40_WealthFair.j4])
                              | succ kj27 =>
                                have H := HA.out
                                clear HA
                                simp only [flagstonelaw40_WealthFair.j4] at H
                                by_cases c31 : x143_27 = true
                                · subst c31
                                  have H1 : (flagstonelaw40_WealthFair.l1 kj27 l0 a5 a6 (wrap64 (1 + (Int.tmod (wrap64 (a1)) 30))) (wrap64 (1 + (wrap64 (a2)))) x17_2 t169 (wrap64 (-t170)) ji22 (wrap64 (x23_3 + 1))) = some r := by rw [if_pos rfl] at H; exact H
                                  clear H
                                  have H := H1
                                  clear H1
                                  have H' := Aside0.mk H
                                  clear H
                                  go_wp2
                                  repeat (go_quiet (fail); try go_wp2)
                                  go_roundg kj27
                                  case measure => have := HJ9.out; have := HK2.out; have := HK3.out; have := HJ23.out; have := HJ27.out; omega
                                  case rel => exact ⟨(wrap64 (x23_3 + 1)), (by first | rfl | (simp; done) | (simp [*]; done) | exact congrArg (Value.int _) (by unfold wrap64; omega)), H', ⟨by have := HJ9.out; have := HK2.out; have := HK3.out; have := HJ23.out; have := HJ27.out; omega⟩, ⟨by repeat (first | (with_reducible first | exact HB.out | apply below_alloc | apply pw_below_drewN | apply below_drew1) | exact HB.out)⟩⟩
                                · as_aux_lemma =>
                                  replace c31 := Bool.eq_false_iff.mpr c31
                                  subst c31
                                  have H1 : (flagstonelaw40_WealthFair.l2 kj27 l0 a5 a6 (wrap64 (1 + (Int.tmod (wrap64 (a1)) 30))) (wrap64 (1 + (wrap64 (a2)))) x17_2 t169 (wrap64 (-t170)) ji22 x23_3 ji27 x25_23 0 0 0) = some r := by rw [if_neg (show ¬ (false = true) by decide)] at H; exact H
                                  clear H
                                  have H := H1
                                  clear H1
                                  have H' := Aside0.mk H
                                  clear H
                                  go_wp2
                                  repeat (go_quiet (fail); try go_wp2)
                                  go_loopg [26, 27, 28] kj27 (fun kq v26 v27 v28 w' => ∃ (x26_6 : Int) (x27_6 : Int) (x28_6 : Int), v26 = .int .i64 x26_6 ∧ v27 = .int .i64 x27_6 ∧ v28 = .int .i64 x28_6 ∧ Aside0 (flagstonelaw40_WealthFair.l2 kq l0 a5 a6 (wrap64 (1 + (Int.tmod (wrap64 (a1)) 30))) (wrap64 (1 + (wrap64 (a2)))) x17_2 t169 (wrap64 (-t170)) ji22 x23_3 ji27 x25_23 x26_6 x27_6 x28_6 = some r) ∧ Aside0 (kq ≤ kj27) ∧ Aside0 (Below w.heap.size w w'))
                                  case atStart => exact ⟨(0), (0), (0), (by first | rfl | (simp; done) | (simp [*]; done) | exact congrArg (Value.int _) (by unfold wrap64; omega)), (by first | rfl | (simp; done) | (simp [*]; done) | exact congrArg (Value.int _) (by unfold wrap64; omega)), (by first | rfl | (simp; done) | (simp [*]; done) | exact congrArg (Value.int _) (by unfold wrap64; omega)), H', ⟨Nat.le_refl _⟩, ⟨by repeat (first | (with_reducible first | exact HB.out | apply below_alloc | apply pw_below_drewN | apply below_drew1) | exact HB.out)⟩⟩
                                  case round =>
                                    clear H'
                                    try clear c1
                                    try clear p1
                                    try clear q1
                                    try clear hx1
                                    try clear c2
                                    try clear p2
                                    try clear c3
                                    try clear c5
                                    try clear p6
                                    try clear c9
                                    try clear c12
                                    try clear c12b0
                                    try clear c12b1
                                    try clear c12b2
                                    try clear c13
                                    try clear c14
                                    try clear c14b0
                                    try clear c15
                                    try clear c15b0
                                    try clear c16
                                    try clear c16b0
                                    try clear c16b1
                                    try clear p16
                                    try clear q16
                                    try clear hx16
                                    try clear c20
                                    try clear c20b0
                                    try clear c20b1
                                    try clear c23
                                    try clear c23b0
                                    try clear c25
                                    try clear c25b0
                                    try clear c25b1
                                    try clear c29
                                    try clear c30
                                    try clear c30b0
                                    try clear c31
                                    try clear hx166_0
                                    try clear hx166_1
                                    try clear hx167_0
                                    try clear hx167_1
                                    try clear hx168_0
                                    try clear hx168_1
                                    try clear p1
                                    try clear p16
                                    try clear p166
                                    try clear p167
                                    try clear p168
                                    try clear p2
                                    try clear p6
                                    try clear q1
                                    try clear q16
                                    try clear q166
                                    try clear q167
                                    try clear q168
                                    obtain ⟨x26_6, x27_6, x28_6, rfl, rfl, rfl, HA, HK6, HB⟩ := hrel
                                    cases gk with
                                    | zero => exact absurd HA.out (by simp [flagstonelaw40_WealthFair.l2])
                                    | succ k6 =>
                                      have H := HA.out
                                      clear HA
                                      simp only [flagstonelaw40_WealthFair.l2] at H
                                      by_cases c32 : x28_6 < (l0.length : Int)
                                      · as_aux_lemma =>
                                        rw [if_pos c32] at H
                                        have c32b0 : decide (x28_6 < (l0.length : Int)) = true := decide_eq_true c32
                                        clear c32
                                        by_cases c33 : 0 ≤ x28_6
                                        · as_aux_lemma =>
                                          rw [if_pos c33] at H
                                          have c33b0 : decide (0 ≤ x28_6) = true := decide_eq_true c33
                                          clear c33
                                          by_cases c34 : (wrap64 ((wrap64 (2 * (wrap64 (1 + (wrap64 (a2)))))) + 1)) = 0
                                          · rw [if_pos c34] at H
                                            exact absurd H (by simp)
                                          · rw [if_neg c34] at H
                                            have c34b0 : ((wrap64 ((wrap64 (2 * (wrap64 (1 + (wrap64 (a2)))))) + 1)) == 0) = false := beq_eq_false_iff_ne.mpr c34
                                            have c34b1 : ((wrap64 ((wrap64 (2 * (wrap64 (1 + (wrap64 (a2)))))) + 1)) != 0) = true := bne_iff_ne.mpr c34
                                            replace H := Option.bind_eq_some_iff.mp H
                                            obtain ⟨⟨t173, t174⟩, A350, H⟩ := H
                                            replace H : ((wealth_Grow.f k6 ji22 t173 t174).bind fun t175 => (flagstonelaw40_WealthFair.l2 k6 l0 a5 a6 (wrap64 (1 + (Int.tmod (wrap64 (a1)) 30))) (wrap64 (1 + (wrap64 (a2)))) x17_2 t169 (wrap64 (-t170)) ji22 x23_3 ji27 x25_23 (wrap64 (x26_6 + (wrap64 ((wrap64 (1 + (wrap64 ((rd_T38 l0 x28_6).f1)))) * (t175 / 1073741824))))) (wrap64 (x27_6 + (wrap64 ((wrap64 (1 + (wrap64 ((rd_T38 l0 x28_6).f1)))) * (Go.bits .and .i64 t175 1073741823))))) (wrap64 (x28_6 + 1)))) = some r := H
                                            have A35 := Aside0.mk A350
                                            clear A350
                                            replace H := Option.bind_eq_some_iff.mp H
                                            obtain ⟨t175, A360, H⟩ := H
                                            replace H : (flagstonelaw40_WealthFair.l2 k6 l0 a5 a6 (wrap64 (1 + (Int.tmod (wrap64 (a1)) 30))) (wrap64 (1 + (wrap64 (a2)))) x17_2 t169 (wrap64 (-t170)) ji22 x23_3 ji27 x25_23 (wrap64 (x26_6 + (wrap64 ((wrap64 (1 + (wrap64 ((rd_T38 l0 x28_6).f1)))) * (t175 / 1073741824))))) (wrap64 (x27_6 + (wrap64 ((wrap64 (1 + (wrap64 ((rd_T38 l0 x28_6).f1)))) * (Go.bits .and .i64 t175 1073741823))))) (wrap64 (x28_6 + 1))) = some r := H
                                            have A36 := Aside0.mk A360
                                            clear A360
                                            have H' := Aside0.mk H
                                            clear H
                                            have p171 : 0 ≤ (x28_6 : Int) := of_decide_eq_true (by first | (with_reducible assumption) | assumption)
                                            have q171 : x28_6 < (l0.length : Int) := of_decide_eq_true (by first | (with_reducible assumption) | assumption)
                                            obtain ⟨ad171, e171, hx171_0, hx171_1⟩ := at_T38 HR0.out x28_6 p171 q171
                                            cases e171
                                            replace hx171_0 := (HB.out.cell (World.block_lt_of_cell? w _ hx171_0)).trans hx171_0
                                            replace hx171_1 := (HB.out.cell (World.block_lt_of_cell? w _ hx171_1)).trans hx171_1
                                            replace p171 := eq_true p171
                                            replace q171 := eq_true q171
                                            go_wp2_with (first | ((with_reducible refine gate_dst (N := 29) rfl ?_); (try (refine gate_guard (by rfl) ?_; dsimp only)); refine box_event ?hg (N := 29) ?hd (cs := #[.int .i64 0, .int .i64 0, .int .i64 0]) (t := 28) ?hr ?_; (case hd => rfl); (case hg => rfl); (case hr => first | (go_simp; done) | (go_simp; rfl)); intro gb172 hg w37 hbox hb; have n0_ := Aside0.mk (below_step (by repeat (first | (with_reducible first | exact HB.out | apply below_alloc | apply pw_below_drewN | apply below_drew1) | exact HB.out)) hb); have n1_ := Aside0.mk (hbox); have n2_ := Aside0.mk ((by rw [hg]; exact (below_size (by repeat (first | (with_reducible first | exact HB.out | apply below_alloc | apply pw_below_drewN | apply below_drew1) | exact HB.out))) : w.heap.size ≤ gb172)); have n3_ := Aside0.mk ((by rw [hg]; exact (below_size (by repeat (first | (with_reducible first | exact HB.out | apply below_alloc | apply pw_below_drewN | apply below_drew1) | exact HB.out))) : w.heap.size ≤ gb172)); clear HB; have HB := n0_; have BK172 := n1_; have GW172 := n2_; have GE172 := n3_; clear n0_ n1_ n2_ n3_; clear hb hbox hg; have hcz38_0 : w37.cell? ⟨gb172, 0, none⟩ = some (.int .i64 0) := (blk_cell BK172.out 0).trans rfl; have hcz38_1 : w37.cell? ⟨gb172, 1, none⟩ = some (.int .i64 0) := (blk_cell BK172.out 1).trans rfl; have hcz38_2 : w37.cell? ⟨gb172, 2, none⟩ = some (.int .i64 0) := (blk_cell BK172.out 2).trans rfl; have hfz38_0 := blk_frozen BK172.out 0; have hfz38_1 := blk_frozen BK172.out 1; have hfz38_2 := blk_frozen BK172.out 2) | (go_at_call 13; (with_reducible refine (wealth_Factor.calls k6 (wrap64 ((Int.tmod (wrap64 ((rd_T38 l0 x28_6).f0)) (wrap64 ((wrap64 (2 * (wrap64 (1 + (wrap64 (a2)))))) + 1))) - (wrap64 (1 + (wrap64 (a2)))))) (wrap64 (1 + (Int.tmod (wrap64 (a1)) 30))) (wrap64 ((wrap64 (1 + (Int.tmod (wrap64 (a1)) 30))) + (wrap64 (1 + (wrap64 (a2)))))) ji27 (Int.tmod (wrap64 (a5)) 5) x25_23 t173 t174 _ A35.out).mono ?_); rintro e w39 ⟨rfl, hb⟩; have n0_ := Aside0.mk (blk_below (g := gb172) (o := .cells #[.int .i64 (wrap64 ((Int.tmod (wrap64 ((rd_T38 l0 x28_6).f0)) (wrap64 ((wrap64 (2 * (wrap64 (1 + (wrap64 (a2)))))) + 1))) - (wrap64 (1 + (wrap64 (a2)))))), .int .i64 (wrap64 (1 + (Int.tmod (wrap64 (a1)) 30))), .int .i64 (wrap64 ((wrap64 (1 + (Int.tmod (wrap64 (a1)) 30))) + (wrap64 (1 + (wrap64 (a2))))))] 28 (0, 0)) (by (with_reducible repeat (first | refine blk_drewN ?_ _ | refine blk_drew ?_ | refine blk_alloc ?_ _)); refine blk_put (cs := #[.int .i64 (wrap64 ((Int.tmod (wrap64 ((rd_T38 l0 x28_6).f0)) (wrap64 ((wrap64 (2 * (wrap64 (1 + (wrap64 (a2)))))) + 1))) - (wrap64 (1 + (wrap64 (a2)))))), .int .i64 (wrap64 (1 + (Int.tmod (wrap64 (a1)) 30))), .int .i64 0]) ?_ 2 _ rfl; (with_reducible repeat (first | refine blk_drewN ?_ _ | refine blk_drew ?_ | refine blk_alloc ?_ _)); refine blk_put (cs := #[.int .i64 (wrap64 ((Int.tmod (wrap64 ((rd_T38 l0 x28_6).f0)) (wrap64 ((wrap64 (2 * (wrap64 (1 + (wrap64 (a2)))))) + 1))) - (wrap64 (1 + (wrap64 (a2)))))), .int .i64 0, .int .i64 0]) ?_ 1 _ rfl; (with_reducible repeat (first | refine blk_drewN ?_ _ | refine blk_drew ?_ | refine blk_alloc ?_ _)); refine blk_put (cs := #[.int .i64 0, .int .i64 0, .int .i64 0]) ?_ 0 _ rfl; (with_reducible repeat (first | refine blk_drewN ?_ _ | refine blk_drew ?_ | refine blk_alloc ?_ _)); exact BK172.out) hb); have n1_ := Aside0.mk (below_step (by repeat (first | (with_reducible first | exact HB.out | apply below_alloc | apply pw_below_drewN | apply below_drew1 | refine below_set ?_ GE172.out) | exact HB.out)) hb); clear BK172; clear HB; have BK172 := n0_; have HB := n1_; clear n0_ n1_; (try clear hb); (try clear hb2); (try clear hk); (try clear hi)) | (go_at_call 11; (with_reducible refine (wealth_Grow.calls k6 ji22 t173 t174 t175 _ A36.out).mono ?_); rintro e w40 ⟨rfl, hb⟩; have n0_ := Aside0.mk (blk_below (g := gb172) (o := .cells #[.int .i64 (wrap64 ((Int.tmod (wrap64 ((rd_T38 l0 x28_6).f0)) (wrap64 ((wrap64 (2 * (wrap64 (1 + (wrap64 (a2)))))) + 1))) - (wrap64 (1 + (wrap64 (a2)))))), .int .i64 (wrap64 (1 + (Int.tmod (wrap64 (a1)) 30))), .int .i64 (wrap64 ((wrap64 (1 + (Int.tmod (wrap64 (a1)) 30))) + (wrap64 (1 + (wrap64 (a2))))))] 28 (0, 0)) (by (with_reducible repeat (first | refine blk_drewN ?_ _ | refine blk_drew ?_ | refine blk_alloc ?_ _)); exact BK172.out) hb); have n1_ := Aside0.mk (below_step (by repeat (first | (with_reducible first | exact HB.out | apply below_alloc | apply pw_below_drewN | apply below_drew1 | refine below_set ?_ GE172.out) | exact HB.out)) hb); clear BK172; clear HB; have BK172 := n0_; have HB := n1_; clear n0_ n1_; (try clear hb); (try clear hb2); (try clear hk); (try clear hi); have p176 : 0 ≤ (x28_6 : Int) := of_decide_eq_true (by first | (with_reducible assumption) | assumption); have q176 : x28_6 < (l0.length : Int) := of_decide_eq_true (by first | (with_reducible assumption) | assumption); obtain ⟨ad176, e176, hx176_0, hx176_1⟩ := at_T38 HR0.out x28_6 p176 q176; obtain rfl : ad171 = ad176 := (by injection e176); replace hx176_0 := (HB.out.cell (World.block_lt_of_cell? w _ hx176_0)).trans hx176_0; replace hx176_1 := (HB.out.cell (World.block_lt_of_cell? w _ hx176_1)).trans hx176_1; replace p176 := eq_true p176; replace q176 := eq_true q176))
                                            repeat (go_quiet (first | ((with_reducible refine gate_dst (N := 29) rfl ?_); (try (refine gate_guard (by rfl) ?_; dsimp only)); refine box_event ?hg (N := 29) ?hd (cs := #[.int .i64 0, .int .i64 0, .int .i64 0]) (t := 28) ?hr ?_; (case hd => rfl); (case hg => rfl); (case hr => first | (go_simp; done) | (go_simp; rfl)); intro gb172 hg w37 hbox hb; have n0_ := Aside0.mk (below_step (by repeat (first | (with_reducible first | exact HB.out | apply below_alloc | apply pw_below_drewN | apply below_drew1) | exact HB.out)) hb); have n1_ := Aside0.mk (hbox); have n2_ := Aside0.mk ((by rw [hg]; exact (below_size (by repeat (first | (with_reducible first | exact HB.out | apply below_alloc | apply pw_below_drewN | apply below_drew1) | exact HB.out))) : w.heap.size ≤ gb172)); have n3_ := Aside0.mk ((by rw [hg]; exact (below_size (by repeat (first | (with_reducible first | exact HB.out | apply below_alloc | apply pw_below_drewN | apply below_drew1) | exact HB.out))) : w.heap.size ≤ gb172)); clear HB; have HB := n0_; have BK172 := n1_; have GW172 := n2_; have GE172 := n3_; clear n0_ n1_ n2_ n3_; clear hb hbox hg; have hcz38_0 : w37.cell? ⟨gb172, 0, none⟩ = some (.int .i64 0) := (blk_cell BK172.out 0).trans rfl; have hcz38_1 : w37.cell? ⟨gb172, 1, none⟩ = some (.int .i64 0) := (blk_cell BK172.out 1).trans rfl; have hcz38_2 : w37.cell? ⟨gb172, 2, none⟩ = some (.int .i64 0) := (blk_cell BK172.out 2).trans rfl; have hfz38_0 := blk_frozen BK172.out 0; have hfz38_1 := blk_frozen BK172.out 1; have hfz38_2 := blk_frozen BK172.out 2) | (go_at_call 13; (with_reducible refine (wealth_Factor.calls k6 (wrap64 ((Int.tmod (wrap64 ((rd_T38 l0 x28_6).f0)) (wrap64 ((wrap64 (2 * (wrap64 (1 + (wrap64 (a2)))))) + 1))) - (wrap64 (1 + (wrap64 (a2)))))) (wrap64 (1 + (Int.tmod (wrap64 (a1)) 30))) (wrap64 ((wrap64 (1 + (Int.tmod (wrap64 (a1)) 30))) + (wrap64 (1 + (wrap64 (a2)))))) ji27 (Int.tmod (wrap64 (a5)) 5) x25_23 t173 t174 _ A35.out).mono ?_); rintro e w39 ⟨rfl, hb⟩; have n0_ := Aside0.mk (blk_below (g := gb172) (o := .cells #[.int .i64 (wrap64 ((Int.tmod (wrap64 ((rd_T38 l0 x28_6).f0)) (wrap64 ((wrap64 (2 * (wrap64 (1 + (wrap64 (a2)))))) + 1))) - (wrap64 (1 + (wrap64 (a2)))))), .int .i64 (wrap64 (1 + (Int.tmod (wrap64 (a1)) 30))), .int .i64 (wrap64 ((wrap64 (1 + (Int.tmod (wrap64 (a1)) 30))) + (wrap64 (1 + (wrap64 (a2))))))] 28 (0, 0)) (by (with_reducible repeat (first | refine blk_drewN ?_ _ | refine blk_drew ?_ | refine blk_alloc ?_ _)); refine blk_put (cs := #[.int .i64 (wrap64 ((Int.tmod (wrap64 ((rd_T38 l0 x28_6).f0)) (wrap64 ((wrap64 (2 * (wrap64 (1 + (wrap64 (a2)))))) + 1))) - (wrap64 (1 + (wrap64 (a2)))))), .int .i64 (wrap64 (1 + (Int.tmod (wrap64 (a1)) 30))), .int .i64 0]) ?_ 2 _ rfl; (with_reducible repeat (first | refine blk_drewN ?_ _ | refine blk_drew ?_ | refine blk_alloc ?_ _)); refine blk_put (cs := #[.int .i64 (wrap64 ((Int.tmod (wrap64 ((rd_T38 l0 x28_6).f0)) (wrap64 ((wrap64 (2 * (wrap64 (1 + (wrap64 (a2)))))) + 1))) - (wrap64 (1 + (wrap64 (a2)))))), .int .i64 0, .int .i64 0]) ?_ 1 _ rfl; (with_reducible repeat (first | refine blk_drewN ?_ _ | refine blk_drew ?_ | refine blk_alloc ?_ _)); refine blk_put (cs := #[.int .i64 0, .int .i64 0, .int .i64 0]) ?_ 0 _ rfl; (with_reducible repeat (first | refine blk_drewN ?_ _ | refine blk_drew ?_ | refine blk_alloc ?_ _)); exact BK172.out) hb); have n1_ := Aside0.mk (below_step (by repeat (first | (with_reducible first | exact HB.out | apply below_alloc | apply pw_below_drewN | apply below_drew1 | refine below_set ?_ GE172.out) | exact HB.out)) hb); clear BK172; clear HB; have BK172 := n0_; have HB := n1_; clear n0_ n1_; (try clear hb); (try clear hb2); (try clear hk); (try clear hi)) | (go_at_call 11; (with_reducible refine (wealth_Grow.calls k6 ji22 t173 t174 t175 _ A36.out).mono ?_); rintro e w40 ⟨rfl, hb⟩; have n0_ := Aside0.mk (blk_below (g := gb172) (o := .cells #[.int .i64 (wrap64 ((Int.tmod (wrap64 ((rd_T38 l0 x28_6).f0)) (wrap64 ((wrap64 (2 * (wrap64 (1 + (wrap64 (a2)))))) + 1))) - (wrap64 (1 + (wrap64 (a2)))))), .int .i64 (wrap64 (1 + (Int.tmod (wrap64 (a1)) 30))), .int .i64 (wrap64 ((wrap64 (1 + (Int.tmod (wrap64 (a1)) 30))) + (wrap64 (1 + (wrap64 (a2))))))] 28 (0, 0)) (by (with_reducible repeat (first | refine blk_drewN ?_ _ | refine blk_drew ?_ | refine blk_alloc ?_ _)); exact BK172.out) hb); have n1_ := Aside0.mk (below_step (by repeat (first | (with_reducible first | exact HB.out | apply below_alloc | apply pw_below_drewN | apply below_drew1 | refine below_set ?_ GE172.out) | exact HB.out)) hb); clear BK172; clear HB; have BK172 := n0_; have HB := n1_; clear n0_ n1_; (try clear hb); (try clear hb2); (try clear hk); (try clear hi); have p176 : 0 ≤ (x28_6 : Int) := of_decide_eq_true (by first | (with_reducible assumption) | assumption); have q176 : x28_6 < (l0.length : Int) := of_decide_eq_true (by first | (with_reducible assumption) | assumption); obtain ⟨ad176, e176, hx176_0, hx176_1⟩ := at_T38 HR0.out x28_6 p176 q176; obtain rfl : ad171 = ad176 := (by injection e176); replace hx176_0 := (HB.out.cell (World.block_lt_of_cell? w _ hx176_0)).trans hx176_0; replace hx176_1 := (HB.out.cell (World.block_lt_of_cell? w _ hx176_1)).trans hx176_1; replace p176 := eq_true p176; replace q176 := eq_true q176)); try go_wp2_with (first | ((with_reducible refine gate_dst (N := 29) rfl ?_); (try (refine gate_guard (by rfl) ?_; dsimp only)); refine box_event ?hg (N := 29) ?hd (cs := #[.int .i64 0, .int .i64 0, .int .i64 0]) (t := 28) ?hr ?_; (case hd => rfl); (case hg => rfl); (case hr => first | (go_simp; done) | (go_simp; rfl)); intro gb172 hg w37 hbox hb; have n0_ := Aside0.mk (below_step (by repeat (first | (with_reducible first | exact HB.out | apply below_alloc | apply pw_below_drewN | apply below_drew1) | exact HB.out)) hb); have n1_ := Aside0.mk (hbox); have n2_ := Aside0.mk ((by rw [hg]; exact (below_size (by repeat (first | (with_reducible first | exact HB.out | apply below_alloc | apply pw_below_drewN | apply below_drew1) | exact HB.out))) : w.heap.size ≤ gb172)); have n3_ := Aside0.mk ((by rw [hg]; exact (below_size (by repeat (first | (with_reducible first | exact HB.out | apply below_alloc | apply pw_below_drewN | apply below_drew1) | exact HB.out))) : w.heap.size ≤ gb172)); clear HB; have HB := n0_; have BK172 := n1_; have GW172 := n2_; have GE172 := n3_; clear n0_ n1_ n2_ n3_; clear hb hbox hg; have hcz38_0 : w37.cell? ⟨gb172, 0, none⟩ = some (.int .i64 0) := (blk_cell BK172.out 0).trans rfl; have hcz38_1 : w37.cell? ⟨gb172, 1, none⟩ = some (.int .i64 0) := (blk_cell BK172.out 1).trans rfl; have hcz38_2 : w37.cell? ⟨gb172, 2, none⟩ = some (.int .i64 0) := (blk_cell BK172.out 2).trans rfl; have hfz38_0 := blk_frozen BK172.out 0; have hfz38_1 := blk_frozen BK172.out 1; have hfz38_2 := blk_frozen BK172.out 2) | (go_at_call 13; (with_reducible refine (wealth_Factor.calls k6 (wrap64 ((Int.tmod (wrap64 ((rd_T38 l0 x28_6).f0)) (wrap64 ((wrap64 (2 * (wrap64 (1 + (wrap64 (a2)))))) + 1))) - (wrap64 (1 + (wrap64 (a2)))))) (wrap64 (1 + (Int.tmod (wrap64 (a1)) 30))) (wrap64 ((wrap64 (1 + (Int.tmod (wrap64 (a1)) 30))) + (wrap64 (1 + (wrap64 (a2)))))) ji27 (Int.tmod (wrap64 (a5)) 5) x25_23 t173 t174 _ A35.out).mono ?_); rintro e w39 ⟨rfl, hb⟩; have n0_ := Aside0.mk (blk_below (g := gb172) (o := .cells #[.int .i64 (wrap64 ((Int.tmod (wrap64 ((rd_T38 l0 x28_6).f0)) (wrap64 ((wrap64 (2 * (wrap64 (1 + (wrap64 (a2)))))) + 1))) - (wrap64 (1 + (wrap64 (a2)))))), .int .i64 (wrap64 (1 + (Int.tmod (wrap64 (a1)) 30))), .int .i64 (wrap64 ((wrap64 (1 + (Int.tmod (wrap64 (a1)) 30))) + (wrap64 (1 + (wrap64 (a2))))))] 28 (0, 0)) (by (with_reducible repeat (first | refine blk_drewN ?_ _ | refine blk_drew ?_ | refine blk_alloc ?_ _)); refine blk_put (cs := #[.int .i64 (wrap64 ((Int.tmod (wrap64 ((rd_T38 l0 x28_6).f0)) (wrap64 ((wrap64 (2 * (wrap64 (1 + (wrap64 (a2)))))) + 1))) - (wrap64 (1 + (wrap64 (a2)))))), .int .i64 (wrap64 (1 + (Int.tmod (wrap64 (a1)) 30))), .int .i64 0]) ?_ 2 _ rfl; (with_reducible repeat (first | refine blk_drewN ?_ _ | refine blk_drew ?_ | refine blk_alloc ?_ _)); refine blk_put (cs := #[.int .i64 (wrap64 ((Int.tmod (wrap64 ((rd_T38 l0 x28_6).f0)) (wrap64 ((wrap64 (2 * (wrap64 (1 + (wrap64 (a2)))))) + 1))) - (wrap64 (1 + (wrap64 (a2)))))), .int .i64 0, .int .i64 0]) ?_ 1 _ rfl; (with_reducible repeat (first | refine blk_drewN ?_ _ | refine blk_drew ?_ | refine blk_alloc ?_ _)); refine blk_put (cs := #[.int .i64 0, .int .i64 0, .int .i64 0]) ?_ 0 _ rfl; (with_reducible repeat (first | refine blk_drewN ?_ _ | refine blk_drew ?_ | refine blk_alloc ?_ _)); exact BK172.out) hb); have n1_ := Aside0.mk (below_step (by repeat (first | (with_reducible first | exact HB.out | apply below_alloc | apply pw_below_drewN | apply below_drew1 | refine below_set ?_ GE172.out) | exact HB.out)) hb); clear BK172; clear HB; have BK172 := n0_; have HB := n1_; clear n0_ n1_; (try clear hb); (try clear hb2); (try clear hk); (try clear hi)) | (go_at_call 11; (with_reducible refine (wealth_Grow.calls k6 ji22 t173 t174 t175 _ A36.out).mono ?_); rintro e w40 ⟨rfl, hb⟩; have n0_ := Aside0.mk (blk_below (g := gb172) (o := .cells #[.int .i64 (wrap64 ((Int.tmod (wrap64 ((rd_T38 l0 x28_6).f0)) (wrap64 ((wrap64 (2 * (wrap64 (1 + (wrap64 (a2)))))) + 1))) - (wrap64 (1 + (wrap64 (a2)))))), .int .i64 (wrap64 (1 + (Int.tmod (wrap64 (a1)) 30))), .int .i64 (wrap64 ((wrap64 (1 + (Int.tmod (wrap64 (a1)) 30))) + (wrap64 (1 + (wrap64 (a2))))))] 28 (0, 0)) (by (with_reducible repeat (first | refine blk_drewN ?_ _ | refine blk_drew ?_ | refine blk_alloc ?_ _)); exact BK172.out) hb); have n1_ := Aside0.mk (below_step (by repeat (first | (with_reducible first | exact HB.out | apply below_alloc | apply pw_below_drewN | apply below_drew1 | refine below_set ?_ GE172.out) | exact HB.out)) hb); clear BK172; clear HB; have BK172 := n0_; have HB := n1_; clear n0_ n1_; (try clear hb); (try clear hb2); (try clear hk); (try clear hi); have p176 : 0 ≤ (x28_6 : Int) := of_decide_eq_true (by first | (with_reducible assumption) | assumption); have q176 : x28_6 < (l0.length : Int) := of_decide_eq_true (by first | (with_reducible assumption) | assumption); obtain ⟨ad176, e176, hx176_0, hx176_1⟩ := at_T38 HR0.out x28_6 p176 q176; obtain rfl : ad171 = ad176 := (by injection e176); replace hx176_0 := (HB.out.cell (World.block_lt_of_cell? w _ hx176_0)).trans hx176_0; replace hx176_1 := (HB.out.cell (World.block_lt_of_cell? w _ hx176_1)).trans hx176_1; replace p176 := eq_true p176; replace q176 := eq_true q176)))
                                            go_roundg k6
                                            case measure => have := HJ9.out; have := HK2.out; have := HK3.out; have := HJ23.out; have := HJ27.out; have := HK6.out; omega
                                            case rel => exact ⟨(wrap64 (x26_6 + (wrap64 ((wrap64 (1 + (wrap64 ((rd_T38 l0 x28_6).f1)))) * (t175 / 1073741824))))), (wrap64 (x27_6 + (wrap64 ((wrap64 (1 + (wrap64 ((rd_T38 l0 x28_6).f1)))) * (Go.bits .and .i64 t175 1073741823))))), (wrap64 (x28_6 + 1)), (by first | rfl | (simp; done) | (simp [*]; done) | exact congrArg (Value.int _) (by unfold wrap64; omega)), (by first | rfl | (simp; done) | (simp [*]; done) | exact congrArg (Value.int _) (by unfold wrap64; omega)), (by first | rfl | (simp; done) | (simp [*]; done) | exact congrArg (Value.int _) (by unfold wrap64; omega)), H', ⟨by have := HJ9.out; have := HK2.out; have := HK3.out; have := HJ23.out; have := HJ27.out; have := HK6.out; omega⟩, ⟨by repeat (first | (with_reducible first | exact HB.out | apply below_alloc | apply pw_below_drewN | apply below_drew1 | refine below_set ?_ GE172.out) | exact HB.out)⟩⟩
                                        · rw [if_neg c33] at H
                                          exact absurd H (by simp)
                                      · as_aux_lemma =>
                                        rw [if_neg c32] at H
                                        have c32b0 : decide (x28_6 < (l0.length : Int)) = false := decide_eq_false c32
                                        clear c32
                                        have HC41 := Aside0.mk H
                                        clear H
                                        go_upto_region 35 with (fail)
                                        repeat (go_quiet (fail); go_upto_region 35 with (fail))
                                        go_cut [232] (fun v232 wc => ∃ (kq : Nat) (x232_40 : Bool), v232 = .bool x232_40 ∧ Aside0 (flagstonelaw40_WealthFair.j6 kq l0 a5 a6 (wrap64 (1 + (Int.tmod (wrap64 (a1)) 30))) (wrap64 (1 + (wrap64 (a2)))) x17_2 t169 (wrap64 (-t170)) ji22 x23_3 x232_40 = some r) ∧ Aside0 (kq ≤ k6) ∧ Aside0 (Below w.heap.size w wc))
                                        case first =>
                                          have H := HC41.out
                                          clear HC41
                                          by_cases c42 : (wrap64 (x26_6 + (x27_6 / 1073741824))) > (wrap64 ((wrap64 (x17_2 * (ji22 / 1073741824))) + ((wrap64 (x17_2 * (Go.bits .and .i64 ji22 1073741823))) / 1073741824)))
                                          · rw [if_pos c42] at H
                                            have c42b0 : decide ((wrap64 ((wrap64 (x17_2 * (ji22 / 1073741824))) + ((wrap64 (x17_2 * (Go.bits .and .i64 ji22 1073741823))) / 1073741824))) < (wrap64 (x26_6 + (x27_6 / 1073741824)))) = true := decide_eq_true c42
                                            clear c42
                                            (first | rw [c42b0] | (simp only [i64_w, i32_w]; rw [c42b0]) | skip)
                                            have H' := Aside0.mk H
                                            clear H
                                            go_wp2
                                            repeat (go_quiet (fail); try go_wp2)
                                            go_meet
                                            case rel => exact ⟨_, (true), (by first | rfl | (simp; done) | (simp [*]; done) | exact congrArg (Value.int _) (by unfold wrap64; omega)), H', ⟨by have := HJ9.out; have := HK2.out; have := HK3.out; have := HJ23.out; have := HJ27.out; have := HK6.out; first | omega | exact Nat.le_refl _⟩, ⟨by repeat (first | (with_reducible first | exact HB.out | apply below_alloc | apply pw_below_drewN | apply below_drew1) | exact HB.out)⟩⟩
                                          · rw [if_neg c42] at H
                                            have c42b0 : decide ((wrap64 ((wrap64 (x17_2 * (ji22 / 1073741824))) + ((wrap64 (x17_2 * (Go.bits .and .i64 ji22 1073741823))) / 1073741824))) < (wrap64 (x26_6 + (x27_6 / 1073741824)))) = false := decide_eq_false c42
                                            clear c42
                                            (first | rw [c42b0] | (simp only [i64_w, i32_w]; rw [c42b0]) | skip)
                                            by_cases c43 : (wrap64 (x26_6 + (x27_6 / 1073741824))) = (wrap64 ((wrap64 (x17_2 * (ji22 / 1073741824))) + ((wrap64 (x17_2 * (Go.bits .and .i64 ji22 1073741823))) / 1073741824)))
                                            · rw [if_pos c43] at H
                                              have c43b0 : ((wrap64 (x26_6 + (x27_6 / 1073741824))) == (wrap64 ((wrap64 (x17_2 * (ji22 / 1073741824))) + ((wrap64 (x17_2 * (Go.bits .and .i64 ji22 1073741823))) / 1073741824)))) = true := beq_iff_eq.mpr c43
                                              have c43b1 : ((wrap64 (x26_6 + (x27_6 / 1073741824))) != (wrap64 ((wrap64 (x17_2 * (ji22 / 1073741824))) + ((wrap64 (x17_2 * (Go.bits .and .i64 ji22 1073741823))) / 1073741824)))) = false := bne_eq_false_iff_eq.mpr c43
                                              clear c43
                                              have H' := Aside0.mk H
                                              clear H
                                              go_wp2
                                              repeat (go_quiet (fail); try go_wp2)
                                              go_meet
                                              case rel => exact ⟨_, (decide ((Go.bits .and .i64 x27_6 1073741823) > (Go.bits .and .i64 (wrap64 (x17_2 * (Go.bits .and .i64 ji22 1073741823))) 1073741823))), (by first | rfl | (simp; done) | (simp only [← hji22] <;> (first | rfl | simp)) | (simp [*]; done) | exact congrArg (Value.int _) (by unfold wrap64; omega)), H', ⟨by have := HJ9.out; have := HK2.out; have := HK3.out; have := HJ23.out; have := HJ27.out; have := HK6.out; first | omega | exact Nat.le_refl _⟩, ⟨by repeat (first | (with_reducible first | exact HB.out | apply below_alloc | apply pw_below_drewN | apply below_drew1) | exact HB.out)⟩⟩
                                            · rw [if_neg c43] at H
                                              have c43b0 : ((wrap64 (x26_6 + (x27_6 / 1073741824))) == (wrap64 ((wrap64 (x17_2 * (ji22 / 1073741824))) + ((wrap64 (x17_2 * (Go.bits .and .i64 ji22 1073741823))) / 1073741824)))) = false := beq_eq_false_iff_ne.mpr c43
                                              have c43b1 : ((wrap64 (x26_6 + (x27_6 / 1073741824))) != (wrap64 ((wrap64 (x17_2 * (ji22 / 1073741824))) + ((wrap64 (x17_2 * (Go.bits .and .i64 ji22 1073741823))) / 1073741824)))) = true := bne_iff_ne.mpr c43
                                              have H' := Aside0.mk H
                                              clear H
                                              go_wp2
                                              repeat (go_quiet (fail); try go_wp2)
                                              go_meet
                                              case rel => exact ⟨_, (false), (by first | rfl | (simp; done) | (simp [*]; done) | exact congrArg (Value.int _) (by unfold wrap64; omega)), H', ⟨by have := HJ9.out; have := HK2.out; have := HK3.out; have := HJ23.out; have := HJ27.out; have := HK6.out; first | omega | exact Nat.le_refl _⟩, ⟨by repeat (first | (with_reducible first | exact HB.out | apply below_alloc | apply pw_below_drewN | apply below_drew1) | exact HB.out)⟩⟩
                                        case rest =>
                                          clear HC41
                                          try clear c1
                                          try clear p1
                                          try clear q1
                                          try clear hx1
                                          try clear c2
                                          try clear p2
                                          try clear c3
                                          try clear c4
                                          try clear c5
                                          try clear p6
                                          try clear c9
                                          try clear c12
                                          try clear c12b0
                                          try clear c12b1
                                          try clear c12b2
                                          try clear c13
                                          try clear c14
                                          try clear c14b0
                                          try clear c15
                                          try clear c15b0
                                          try clear c16
                                          try clear c16b0
                                          try clear c16b1
                                          try clear p16
                                          try clear q16
                                          try clear hx16
                                          try clear p17
                                          try clear q17
                                          try clear hx17
                                          try clear c20
                                          try clear c20b0
                                          try clear c20b1
                                          try clear c23
                                          try clear c23b0
                                          try clear c25
                                          try clear c25b0
                                          try clear c25b1
                                          try clear c29
                                          try clear c30
                                          try clear c30b0
                                          try clear c31
                                          try clear c32
                                          try clear c32b0
                                          try clear c33
                                          try clear c33b0
                                          try clear c34
                                          try clear c34b0
                                          try clear c34b1
                                          try clear c42
                                          try clear c42b0
                                          try clear c43
                                          try clear c43b0
                                          try clear c43b1
                                          try clear hcz38_0
                                          try clear hcz38_1
                                          try clear hcz38_2
                                          try clear hfz38_0
                                          try clear hfz38_1
                                          try clear hfz38_2
                                          try clear hx166_0
                                          try clear hx166_1
                                          try clear hx167_0
                                          try clear hx167_1
                                          try clear hx168_0
                                          try clear hx168_1
                                          try clear hx171_0
                                          try clear hx171_1
                                          try clear hx176_0
                                          try clear hx176_1
                                          try clear p1
                                          try clear p16
                                          try clear p166
                                          try clear p167
                                          try clear p168
                                          try clear p171
                                          try clear p176
                                          try clear p2
                                          try clear p6
                                          try clear q1
                                          try clear q16
                                          try clear q166
                                          try clear q167
                                          try clear q168
                                          try clear q171
                                          try clear q176
                                          obtain ⟨kq, x232_40, rfl, HA, HJ40, HB⟩ := hcut
                                          cases kq with
                                          | zero => exact absurd HA.out (by simp [flagstonelaw40_WealthFair.j6])
                                          | succ kj40 =>
                                            have H := HA.out
                                            clear HA
                                            simp only [flagstonelaw40_WealthFair.j6] at H
                                            by_cases c44 : x232_40 = true
                                            · subst c44
                                              have H1 : (some false) = some r := by rw [if_pos rfl] at H; exact H
                                              clear H
                                              have H := H1
                                              clear H1
                                              obtain rfl := Option.some.inj H
                                              go_wp2
                                              repeat (go_quiet (fail); try go_wp2)
                                              go_ret
                                              exact ⟨by first | rfl | (simp [errW_none, errW_some] <;> rfl) | (simp only [← hji19, ← hji21, ← hji22, ← hji26, ← hji27]; first | rfl | (simp [errW_none, errW_some] <;> rfl)) | (simp [*, errW_none, errW_some] <;> rfl), by repeat (first | (with_reducible first | exact HB.out | apply below_alloc | apply pw_below_drewN | apply below_drew1) | exact HB.out)⟩
                                            · replace c44 := Bool.eq_false_iff.mpr c44
                                              subst c44
                                              have H1 : (flagstonelaw40_WealthFair.l1 kj40 l0 a5 a6 (wrap64 (1 + (Int.tmod (wrap64 (a1)) 30))) (wrap64 (1 + (wrap64 (a2)))) x17_2 t169 (wrap64 (-t170)) ji22 (wrap64 (x23_3 + 1))) = some r := by rw [if_neg (show ¬ (false = true) by decide)] at H; exact H
                                              clear H
                                              have H := H1
                                              clear H1
                                              have H' := Aside0.mk H
                                              clear H
                                              go_wp2
                                              repeat (go_quiet (fail); try go_wp2)
                                              go_roundg kj40
                                              case measure => have := HJ9.out; have := HK2.out; have := HK3.out; have := HJ23.out; have := HJ27.out; have := HK6.out; have := HJ40.out; omega
                                              case rel => exact ⟨(wrap64 (x23_3 + 1)), (by first | rfl | (simp; done) | (simp [*]; done) | exact congrArg (Value.int _) (by unfold wrap64; omega)), H', ⟨by have := HJ9.out; have := HK2.out; have := HK3.out; have := HJ23.out; have := HJ27.out; have := HK6.out; have := HJ40.out; omega⟩, ⟨by repeat (first | (with_reducible first | exact HB.out | apply below_alloc | apply pw_below_drewN | apply below_drew1) | exact HB.out)⟩⟩
                      · rw [if_neg c23] at H
                        have c23b0 : decide (x23_3 < 2) = false := decide_eq_false c23
                        clear c23
                        obtain rfl := Option.some.inj H
                        go_wp2
                        repeat (go_quiet (fail); try go_wp2)
                        go_ret
                        exact ⟨by first | rfl | (simp [errW_none, errW_some] <;> rfl) | (simp only [← hji19, ← hji21, ← hji22]; first | rfl | (simp [errW_none, errW_some] <;> rfl)) | (simp [*, errW_none, errW_some] <;> rfl), by repeat (first | (with_reducible first | exact HB.out | apply below_alloc | apply pw_below_drewN | apply below_drew1) | exact HB.out)⟩
                · rw [if_neg c20] at H
                  exact absurd H (by simp)
  · replace c9 := Bool.eq_false_iff.mpr c9
    subst c9
    have H1 : (some false) = some r := by rw [if_neg (show ¬ (false = true) by decide)] at H; exact H
    clear H
    have H := H1
    clear H1
    obtain rfl := Option.some.inj H
    go_enter Try.func5, Try.ntmps5
    go_wp2_with (first | (go_at_call 10; (with_reducible refine (flagstonelaw40_awake.calls k  false _ A8.out).mono ?_); rintro e w45 ⟨rfl, hb⟩; have n0_ := Aside0.mk (below_step (by repeat (first | (with_reducible first | exact HB.out | apply below_alloc | apply pw_below_drewN | apply below_drew1) | exact HB.out)) hb); clear HB; have HB := n0_; clear n0_; (try clear hb); (try clear hb2); (try clear hk); (try clear hi)))
    repeat (go_quiet (first | (go_at_call 10; (with_reducible refine (flagstonelaw40_awake.calls k  false _ A8.out).mono ?_); rintro e w45 ⟨rfl, hb⟩; have n0_ := Aside0.mk (below_step (by repeat (first | (with_reducible first | exact HB.out | apply below_alloc | apply pw_below_drewN | apply below_drew1) | exact HB.out)) hb); clear HB; have HB := n0_; clear n0_; (try clear hb); (try clear hb2); (try clear hk); (try clear hi))); try go_wp2_with (first | (go_at_call 10; (with_reducible refine (flagstonelaw40_awake.calls k  false _ A8.out).mono ?_); rintro e w45 ⟨rfl, hb⟩; have n0_ := Aside0.mk (below_step (by repeat (first | (with_reducible first | exact HB.out | apply below_alloc | apply pw_below_drewN | apply below_drew1) | exact HB.out)) hb); clear HB; have HB := n0_; clear n0_; (try clear hb); (try clear hb2); (try clear hk); (try clear hi))))
    go_ret
    exact ⟨by first | rfl | (simp [errW_none, errW_some] <;> rfl) | (simp [*, errW_none, errW_some] <;> rfl), by repeat (first | (with_reducible first | exact HB.out | apply below_alloc | apply pw_below_drewN | apply below_drew1) | exact HB.out)⟩

/-- THE ONE PURE STATEMENT of flagstonelaw40_WealthFair: yours. -/
def flagstonelaw40_WealthFair.Pure : Prop := ∀ (l0 : List (S38)) (a1 : Int) (a2 : Int) (a3 : Int) (a4 : Int) (a5 : Int) (a6 : Int), l0.length ≤ maxLen → (∀ x ∈ l0, ((Lit.int .u8 x.f0).wf = true ∧ (Lit.int .u8 x.f1).wf = true)) → (Lit.int .u8 a1).wf = true → (Lit.int .u8 a2).wf = true → (Lit.int .i64 a3).wf = true → (Lit.int .u8 a4).wf = true → (Lit.int .u8 a5).wf = true → (Lit.int .u8 a6).wf = true → ∃ k, flagstonelaw40_WealthFair.f k l0 a1 a2 a3 a4 a5 a6 = some true

end Go.Proofs.Ytafcnpfhihnmgaa.PA
