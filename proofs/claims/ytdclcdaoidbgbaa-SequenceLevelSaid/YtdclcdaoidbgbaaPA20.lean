-- Written by a program of this seat's session (wip/tools/ownprint.py, over the kit's printer) out of the translation: functions and their contracts.
import Derived.Test.YtdclcdaoidbgbaaPA0
import Derived.Test.YtdclcdaoidbgbaaPA19
import Derived.Test.YtdclcdaoidbgbaaH4
namespace Go.Proofs.Ytdclcdaoidbgbaa.PA
open Go.RowKit Go.Proofs.YtdclcdaoidbgbaaW.PrintWords Go.Proofs.YtdclcdaoidbgbaaW.PrintLast Go.Proofs.YtdclcdaoidbgbaaW.PrintMore
attribute [local go_sem] max2_int min2_int max_two min_two max_three min_three max_four min_four   -- for this text's walks alone
set_option linter.unusedVariables false
set_option linter.unusedSimpArgs false

/-! ### flagstonelaw41_population_misses: function 17 -/
mutual
def flagstonelaw41_population_misses.j0 : Nat → List (S70) → Int → Bool → List (S36) → Int → Int → Int → Int → Int → Bool → Option (Int)
 | 0, _, _, _, _, _, _, _, _, _, _ => none
 | k + 1, x1, x2, x42, x368000, x368001, x368002, x368003, x368004, x368005, x368006 => if x42 = true then (flagstonelaw41_population_misses.l0 k x2 1 (x1.length : Int) x368000 x368001 x368002 x368003 x368004 x368005 x368006) else (if (x1.length : Int) = x2 then (some 0) else (flagstonelaw41_population_misses.l1 k x1 x2 0 0 x368000 x368001 x368002 x368003 x368004 x368005 x368006))
def flagstonelaw41_population_misses.l0 : Nat → Int → Int → Int → List (S36) → Int → Int → Int → Int → Int → Bool → Option (Int)
 | 0, _, _, _, _, _, _, _, _, _, _ => none
 | k + 1, x2, x8, x9, x368000, x368001, x368002, x368003, x368004, x368005, x368006 => if x9 < x2 then (flagstonelaw41_population_misses.l0 k x2 (wrap64 (x8 * (wrap64 (x368001 * (wrap64 (x368002 + x368003)))))) (wrap64 (x9 + 1)) x368000 x368001 x368002 x368003 x368004 x368005 x368006) else (some x8)
def flagstonelaw41_population_misses.l1 : Nat → List (S70) → Int → Int → Int → List (S36) → Int → Int → Int → Int → Int → Bool → Option (Int)
 | 0, _, _, _, _, _, _, _, _, _, _, _ => none
 | k + 1, x1, x2, x10, x11, x368000, x368001, x368002, x368003, x368004, x368005, x368006 => if x11 < (x368000.length : Int) then (if 0 ≤ x11 then (flagstonelaw41_population_misses.l2 k x1 x2 x10 x11 1 x368000 x368001 x368002 x368003 x368004 x368005 x368006 ((rd_T36 x368000 x11).f0) ((rd_T36 x368000 x11).f1) ((rd_T36 x368000 x11).f2) ((rd_T36 x368000 x11).f3)) else (none)) else (some x10)
def flagstonelaw41_population_misses.l2 : Nat → List (S70) → Int → Int → Int → Int → List (S36) → Int → Int → Int → Int → Int → Bool → Int → Int → Int → Int → Option (Int)
 | 0, _, _, _, _, _, _, _, _, _, _, _, _, _, _, _, _ => none
 | k + 1, x1, x2, x10, x11, x13, x368000, x368001, x368002, x368003, x368004, x368005, x368006, x378000, x378001, x378002, x378003 => if x13 ≤ 2 then (if x13 = 2 then ((some (([] : List (S70)) : List (S70))).bind fun y378 => (if y378.length + x1.length < 1466015503701 then ((some (y378 ++ x1 : List (S70))).bind fun y381 => ((some (([(⟨(⟨(⟨#[]⟩ : ByteArray), (⟨#[]⟩ : ByteArray), 0, 0, x13, 1⟩ : S68), Int.tmod (wrap64 (x378003)) 21, 0, Int.tmod (wrap64 (x378001)) 3, false⟩ : S70)] : List (S70)) : List (S70))).bind fun y384 => (if y381.length + y384.length < 1466015503701 then ((flagstonelaw41_population_misses.f k x368000 x368001 x368002 x368003 x368004 x368005 x368006 (y381 ++ y384) x2).bind fun t390 => (flagstonelaw41_population_misses.l2 k x1 x2 (wrap64 (x10 + (wrap64 ((wrap64 (x368003 * (wrap64 (1 + (Int.tmod (wrap64 (x378000)) 3))))) * t390)))) x11 (wrap64 (x13 + 1)) x368000 x368001 x368002 x368003 x368004 x368005 x368006 x378000 x378001 x378002 x378003)) else (none)))) else (none))) else ((some (([] : List (S70)) : List (S70))).bind fun y391 => (if y391.length + x1.length < 1466015503701 then ((some (y391 ++ x1 : List (S70))).bind fun y394 => ((some (([(⟨(⟨(⟨#[]⟩ : ByteArray), (⟨#[]⟩ : ByteArray), 0, 0, x13, 1⟩ : S68), Int.tmod (wrap64 (x378002)) 21, 0, Int.tmod (wrap64 (x378001)) 3, false⟩ : S70)] : List (S70)) : List (S70))).bind fun y397 => (if y394.length + y397.length < 1466015503701 then ((flagstonelaw41_population_misses.f k x368000 x368001 x368002 x368003 x368004 x368005 x368006 (y394 ++ y397) x2).bind fun t403 => (flagstonelaw41_population_misses.l2 k x1 x2 (wrap64 (x10 + (wrap64 ((wrap64 (x368002 * (wrap64 (1 + (Int.tmod (wrap64 (x378000)) 3))))) * t403)))) x11 (wrap64 (x13 + 1)) x368000 x368001 x368002 x368003 x368004 x368005 x368006 x378000 x378001 x378002 x378003)) else (none)))) else (none)))) else (flagstonelaw41_population_misses.l1 k x1 x2 x10 (wrap64 (x11 + 1)) x368000 x368001 x368002 x368003 x368004 x368005 x368006)
def flagstonelaw41_population_misses.f : Nat → List (S36) → Int → Int → Int → Int → Int → Bool → List (S70) → Int → Option (Int)
 | 0, _, _, _, _, _, _, _, _, _ => none
 | k + 1, l0_0, a0_1, a0_2, a0_3, a0_4, a0_5, a0_6, l1, a2 => (score_All.f k l1 (([(⟨1, a0_2, a0_3⟩ : S65)] : List (S65))) 20 a0_6).bind fun t371 => ((sequence_Lower.f k t371 a0_5).bind fun t374 => (if t374 > a0_4 then (flagstonelaw41_population_misses.j0 k l1 a2 true l0_0 a0_1 a0_2 a0_3 a0_4 a0_5 a0_6) else ((sequence_Upper.f k t371 a0_5).bind fun t375 => (flagstonelaw41_population_misses.j0 k l1 a2 (decide (t375 < a0_4)) l0_0 a0_1 a0_2 a0_3 a0_4 a0_5 a0_6))))
end
theorem flagstonelaw41_population_misses.mono_l : ∀ k, (∀ y0 y1 y2 y3 y4 y5 y6 y7 y8, LeO (flagstonelaw41_population_misses.f k y0 y1 y2 y3 y4 y5 y6 y7 y8) (flagstonelaw41_population_misses.f (k + 1) y0 y1 y2 y3 y4 y5 y6 y7 y8)) ∧ (∀ y0 y1 y2 y3 y4 y5 y6 y7 y8 y9, LeO (flagstonelaw41_population_misses.j0 k y0 y1 y2 y3 y4 y5 y6 y7 y8 y9) (flagstonelaw41_population_misses.j0 (k + 1) y0 y1 y2 y3 y4 y5 y6 y7 y8 y9)) ∧ (∀ y0 y1 y2 y3 y4 y5 y6 y7 y8 y9, LeO (flagstonelaw41_population_misses.l0 k y0 y1 y2 y3 y4 y5 y6 y7 y8 y9) (flagstonelaw41_population_misses.l0 (k + 1) y0 y1 y2 y3 y4 y5 y6 y7 y8 y9)) ∧ (∀ y0 y1 y2 y3 y4 y5 y6 y7 y8 y9 y10, LeO (flagstonelaw41_population_misses.l1 k y0 y1 y2 y3 y4 y5 y6 y7 y8 y9 y10) (flagstonelaw41_population_misses.l1 (k + 1) y0 y1 y2 y3 y4 y5 y6 y7 y8 y9 y10)) ∧ (∀ y0 y1 y2 y3 y4 y5 y6 y7 y8 y9 y10 y11 y12 y13 y14 y15, LeO (flagstonelaw41_population_misses.l2 k y0 y1 y2 y3 y4 y5 y6 y7 y8 y9 y10 y11 y12 y13 y14 y15) (flagstonelaw41_population_misses.l2 (k + 1) y0 y1 y2 y3 y4 y5 y6 y7 y8 y9 y10 y11 y12 y13 y14 y15))
 | 0 => ⟨fun _ _ _ _ _ _ _ _ _ r h => by simp [flagstonelaw41_population_misses.f] at h, fun _ _ _ _ _ _ _ _ _ _ r h => by simp [flagstonelaw41_population_misses.j0] at h, fun _ _ _ _ _ _ _ _ _ _ r h => by simp [flagstonelaw41_population_misses.l0] at h, fun _ _ _ _ _ _ _ _ _ _ _ r h => by simp [flagstonelaw41_population_misses.l1] at h, fun _ _ _ _ _ _ _ _ _ _ _ _ _ _ _ _ r h => by simp [flagstonelaw41_population_misses.l2] at h⟩
 | k + 1 => by
  obtain ⟨ih0, ih1, ih2, ih3, ih4⟩ := flagstonelaw41_population_misses.mono_l k
  refine ⟨?_, ?_, ?_, ?_, ?_⟩
  ·intro y0 y1 y2 y3 y4 y5 y6 y7 y8
   unfold flagstonelaw41_population_misses.f
   repeat' first
   | (with_reducible exact ih0 _ _ _ _ _ _ _ _ _)
   | (with_reducible exact ih1 _ _ _ _ _ _ _ _ _ _)
   | (with_reducible exact ih2 _ _ _ _ _ _ _ _ _ _)
   | (with_reducible exact ih3 _ _ _ _ _ _ _ _ _ _ _)
   | (with_reducible exact ih4 _ _ _ _ _ _ _ _ _ _ _ _ _ _ _ _)
   | (with_reducible exact score_All.mono _ _ _ _ _)
   | (with_reducible exact sequence_Lower.mono _ _ _)
   | (with_reducible exact sequence_Upper.mono _ _ _)
   | (with_reducible exact LeO.refl _)
   | (with_reducible exact LeO.none _)
   | (with_reducible refine LeO.ite ?_ ?_)
   | (with_reducible refine LeO.bind ?_ (fun _ => ?_))
   | exact ih0 _ _ _ _ _ _ _ _ _
   | exact ih1 _ _ _ _ _ _ _ _ _ _
   | exact ih2 _ _ _ _ _ _ _ _ _ _
   | exact ih3 _ _ _ _ _ _ _ _ _ _ _
   | exact ih4 _ _ _ _ _ _ _ _ _ _ _ _ _ _ _ _
   | exact score_All.mono _ _ _ _ _
   | exact sequence_Lower.mono _ _ _
   | exact sequence_Upper.mono _ _ _
   | exact LeO.none _
   | refine LeO.ite ?_ ?_
   | refine LeO.bind ?_ (fun _ => ?_)
  ·intro y0 y1 y2 y3 y4 y5 y6 y7 y8 y9
   unfold flagstonelaw41_population_misses.j0
   repeat' first
   | (with_reducible exact ih0 _ _ _ _ _ _ _ _ _)
   | (with_reducible exact ih1 _ _ _ _ _ _ _ _ _ _)
   | (with_reducible exact ih2 _ _ _ _ _ _ _ _ _ _)
   | (with_reducible exact ih3 _ _ _ _ _ _ _ _ _ _ _)
   | (with_reducible exact ih4 _ _ _ _ _ _ _ _ _ _ _ _ _ _ _ _)
   | (with_reducible exact score_All.mono _ _ _ _ _)
   | (with_reducible exact sequence_Lower.mono _ _ _)
   | (with_reducible exact sequence_Upper.mono _ _ _)
   | (with_reducible exact LeO.refl _)
   | (with_reducible exact LeO.none _)
   | (with_reducible refine LeO.ite ?_ ?_)
   | (with_reducible refine LeO.bind ?_ (fun _ => ?_))
   | exact ih0 _ _ _ _ _ _ _ _ _
   | exact ih1 _ _ _ _ _ _ _ _ _ _
   | exact ih2 _ _ _ _ _ _ _ _ _ _
   | exact ih3 _ _ _ _ _ _ _ _ _ _ _
   | exact ih4 _ _ _ _ _ _ _ _ _ _ _ _ _ _ _ _
   | exact score_All.mono _ _ _ _ _
   | exact sequence_Lower.mono _ _ _
   | exact sequence_Upper.mono _ _ _
   | exact LeO.none _
   | refine LeO.ite ?_ ?_
   | refine LeO.bind ?_ (fun _ => ?_)
  ·intro y0 y1 y2 y3 y4 y5 y6 y7 y8 y9
   unfold flagstonelaw41_population_misses.l0
   repeat' first
   | (with_reducible exact ih0 _ _ _ _ _ _ _ _ _)
   | (with_reducible exact ih1 _ _ _ _ _ _ _ _ _ _)
   | (with_reducible exact ih2 _ _ _ _ _ _ _ _ _ _)
   | (with_reducible exact ih3 _ _ _ _ _ _ _ _ _ _ _)
   | (with_reducible exact ih4 _ _ _ _ _ _ _ _ _ _ _ _ _ _ _ _)
   | (with_reducible exact score_All.mono _ _ _ _ _)
   | (with_reducible exact sequence_Lower.mono _ _ _)
   | (with_reducible exact sequence_Upper.mono _ _ _)
   | (with_reducible exact LeO.refl _)
   | (with_reducible exact LeO.none _)
   | (with_reducible refine LeO.ite ?_ ?_)
   | (with_reducible refine LeO.bind ?_ (fun _ => ?_))
   | exact ih0 _ _ _ _ _ _ _ _ _
   | exact ih1 _ _ _ _ _ _ _ _ _ _
   | exact ih2 _ _ _ _ _ _ _ _ _ _
   | exact ih3 _ _ _ _ _ _ _ _ _ _ _
   | exact ih4 _ _ _ _ _ _ _ _ _ _ _ _ _ _ _ _
   | exact score_All.mono _ _ _ _ _
   | exact sequence_Lower.mono _ _ _
   | exact sequence_Upper.mono _ _ _
   | exact LeO.none _
   | refine LeO.ite ?_ ?_
   | refine LeO.bind ?_ (fun _ => ?_)
  ·intro y0 y1 y2 y3 y4 y5 y6 y7 y8 y9 y10
   unfold flagstonelaw41_population_misses.l1
   repeat' first
   | (with_reducible exact ih0 _ _ _ _ _ _ _ _ _)
   | (with_reducible exact ih1 _ _ _ _ _ _ _ _ _ _)
   | (with_reducible exact ih2 _ _ _ _ _ _ _ _ _ _)
   | (with_reducible exact ih3 _ _ _ _ _ _ _ _ _ _ _)
   | (with_reducible exact ih4 _ _ _ _ _ _ _ _ _ _ _ _ _ _ _ _)
   | (with_reducible exact score_All.mono _ _ _ _ _)
   | (with_reducible exact sequence_Lower.mono _ _ _)
   | (with_reducible exact sequence_Upper.mono _ _ _)
   | (with_reducible exact LeO.refl _)
   | (with_reducible exact LeO.none _)
   | (with_reducible refine LeO.ite ?_ ?_)
   | (with_reducible refine LeO.bind ?_ (fun _ => ?_))
   | exact ih0 _ _ _ _ _ _ _ _ _
   | exact ih1 _ _ _ _ _ _ _ _ _ _
   | exact ih2 _ _ _ _ _ _ _ _ _ _
   | exact ih3 _ _ _ _ _ _ _ _ _ _ _
   | exact ih4 _ _ _ _ _ _ _ _ _ _ _ _ _ _ _ _
   | exact score_All.mono _ _ _ _ _
   | exact sequence_Lower.mono _ _ _
   | exact sequence_Upper.mono _ _ _
   | exact LeO.none _
   | refine LeO.ite ?_ ?_
   | refine LeO.bind ?_ (fun _ => ?_)
  ·intro y0 y1 y2 y3 y4 y5 y6 y7 y8 y9 y10 y11 y12 y13 y14 y15
   unfold flagstonelaw41_population_misses.l2
   repeat' first
   | (with_reducible exact ih0 _ _ _ _ _ _ _ _ _)
   | (with_reducible exact ih1 _ _ _ _ _ _ _ _ _ _)
   | (with_reducible exact ih2 _ _ _ _ _ _ _ _ _ _)
   | (with_reducible exact ih3 _ _ _ _ _ _ _ _ _ _ _)
   | (with_reducible exact ih4 _ _ _ _ _ _ _ _ _ _ _ _ _ _ _ _)
   | (with_reducible exact score_All.mono _ _ _ _ _)
   | (with_reducible exact sequence_Lower.mono _ _ _)
   | (with_reducible exact sequence_Upper.mono _ _ _)
   | (with_reducible exact LeO.refl _)
   | (with_reducible exact LeO.none _)
   | (with_reducible refine LeO.ite ?_ ?_)
   | (with_reducible refine LeO.bind ?_ (fun _ => ?_))
   | exact ih0 _ _ _ _ _ _ _ _ _
   | exact ih1 _ _ _ _ _ _ _ _ _ _
   | exact ih2 _ _ _ _ _ _ _ _ _ _
   | exact ih3 _ _ _ _ _ _ _ _ _ _ _
   | exact ih4 _ _ _ _ _ _ _ _ _ _ _ _ _ _ _ _
   | exact score_All.mono _ _ _ _ _
   | exact sequence_Lower.mono _ _ _
   | exact sequence_Upper.mono _ _ _
   | exact LeO.none _
   | refine LeO.ite ?_ ?_
   | refine LeO.bind ?_ (fun _ => ?_)
theorem flagstonelaw41_population_misses.mono : ∀ a0 a1 a2 a3 a4 a5 a6 a7 a8 k, LeO (flagstonelaw41_population_misses.f k a0 a1 a2 a3 a4 a5 a6 a7 a8) (flagstonelaw41_population_misses.f (k + 1) a0 a1 a2 a3 a4 a5 a6 a7 a8) := by
 intro a0 a1 a2 a3 a4 a5 a6 a7 a8 k
 obtain ⟨ih0, ih1, ih2, ih3, ih4⟩ := flagstonelaw41_population_misses.mono_l k
 exact ih0 a0 a1 a2 a3 a4 a5 a6 a7 a8
def flagstonelaw41_population_misses.T2 : Bool × List (List Nat × List Nat) := (true, [([], []), ([], []), ([1], [1]), ([0, 2], [0, 2]), ([], []), ([4], [4]), ([3, 5], [3, 5]), ([6, 3], [6]), ([7], [7]), ([7], [7]), ([9, 7], [7, 9]), ([8, 10, 7, 7], [7, 8, 10]), ([7], [7]), ([12, 7], [7, 12]), ([11, 13, 7], [7, 11, 13]), ([7, 14], [7, 14])])
def flagstonelaw41_population_misses.B2 : List Nat := [0, 0, 2, 7, 0, 16, 63, 127, 255, 255, 767, 2047, 255, 4351, 16383, 32767]
theorem flagstonelaw41_population_misses.tab2 : rtab .any (opsOf Try.f17 2) = flagstonelaw41_population_misses.T2 := by kernel_rfl
theorem flagstonelaw41_population_misses.bits2 : waitsOk flagstonelaw41_population_misses.T2.2 flagstonelaw41_population_misses.B2 = true := by kernel_rfl
def flagstonelaw41_population_misses.T19 : Bool × List (List Nat × List Nat) := (true, [([], []), ([0], [0]), ([1], [1]), ([2], [2]), ([], []), ([4], [4]), ([3, 0, 1, 2, 3], [3]), ([5, 6, 0, 1, 2, 3, 4, 5, 6], [5])])
def flagstonelaw41_population_misses.B19 : List Nat := [0, 1, 3, 7, 0, 16, 15, 127]
theorem flagstonelaw41_population_misses.tab19 : rtab .any (opsOf Try.f17 19) = flagstonelaw41_population_misses.T19 := by kernel_rfl
theorem flagstonelaw41_population_misses.bits19 : waitsOk flagstonelaw41_population_misses.T19.2 flagstonelaw41_population_misses.B19 = true := by kernel_rfl
def flagstonelaw41_population_misses.T21 : Bool × List (List Nat × List Nat) := (true, [([], []), ([0], [0]), ([1], [1]), ([2], [2]), ([], []), ([4], [4]), ([3, 0, 1, 2, 3], [3]), ([5, 6, 0, 1, 2, 3, 4, 5, 6], [5])])
def flagstonelaw41_population_misses.B21 : List Nat := [0, 1, 3, 7, 0, 16, 15, 127]
theorem flagstonelaw41_population_misses.tab21 : rtab .any (opsOf Try.f17 21) = flagstonelaw41_population_misses.T21 := by kernel_rfl
theorem flagstonelaw41_population_misses.bits21 : waitsOk flagstonelaw41_population_misses.T21.2 flagstonelaw41_population_misses.B21 = true := by kernel_rfl
def flagstonelaw41_population_misses.T22 : Bool × List (List Nat × List Nat) := (true, [([], []), ([], []), ([0, 1], [0, 1]), ([], []), ([3], [3]), ([], []), ([], []), ([6], [6]), ([7], [7]), ([8], [8]), ([4, 5, 9], [4, 5, 9]), ([10], [10]), ([2, 11, 2], [2, 11]), ([12, 12, 0, 1, 2, 3, 4, 5, 6, 7, 8, 9, 10, 11, 12], [12])])
def flagstonelaw41_population_misses.B22 : List Nat := [0, 0, 3, 0, 8, 0, 0, 64, 192, 448, 1016, 2040, 4095, 8191]
theorem flagstonelaw41_population_misses.tab22 : rtab .any (opsOf Try.f17 22) = flagstonelaw41_population_misses.T22 := by kernel_rfl
theorem flagstonelaw41_population_misses.bits22 : waitsOk flagstonelaw41_population_misses.T22.2 flagstonelaw41_population_misses.B22 = true := by kernel_rfl
def flagstonelaw41_population_misses.T23 : Bool × List (List Nat × List Nat) := (true, [([], []), ([], []), ([], []), ([2], [2]), ([3], [3]), ([4], [4]), ([5], [5]), ([1, 6], [1, 6]), ([], []), ([], []), ([], []), ([8, 9, 10], [8, 9, 10]), ([7, 11], [7, 11]), ([0, 12], [0, 12]), ([13, 11, 0, 1, 2, 3, 4, 5, 6, 7, 8, 9, 10, 11, 12, 13], [0, 13])])
def flagstonelaw41_population_misses.B23 : List Nat := [0, 0, 0, 4, 12, 28, 60, 126, 0, 0, 0, 1792, 4094, 8191, 16383]
theorem flagstonelaw41_population_misses.tab23 : rtab .any (opsOf Try.f17 23) = flagstonelaw41_population_misses.T23 := by kernel_rfl
theorem flagstonelaw41_population_misses.bits23 : waitsOk flagstonelaw41_population_misses.T23.2 flagstonelaw41_population_misses.B23 = true := by kernel_rfl
set_option maxHeartbeats 8000000 in
set_option maxRecDepth 100000 in
theorem flagstonelaw41_population_misses.calls (k : Nat) : ∀ (A0_0 : Option Addr) (c0_0 : Nat) (l0_0 : List (S36)) (a0_1 : Int) (a0_2 : Int) (a0_3 : Int) (a0_4 : Int) (a0_5 : Int) (a0_6 : Bool) (A1 : Option Addr) (c1 : Nat) (l1 : List (S70)) (a2 : Int) (r : Int) (w : World) (hr0_0 : Kd.C k36 w A0_0 l0_0.length l0_0) (hc0_0 : l0_0.length ≤ c0_0) (hr1 : Kd.C k70 w A1 l1.length l1) (hc1 : l1.length ≤ c1) (h : flagstonelaw41_population_misses.f k l0_0 a0_1 a0_2 a0_3 a0_4 a0_5 a0_6 l1 a2 = some r),
  Calls Try.prog 17 #[.agg #[.slice A0_0 l0_0.length c0_0, .int .i64 a0_1, .int .i64 a0_2, .int .i64 a0_3, .int .i64 a0_4, .int .i64 a0_5, .bool a0_6], .slice A1 l1.length c1, .int .i64 a2] w fun e w' => e = .returned (.int .i64 r) ∧ Below w.heap.size w w' := by
 induction k using Nat.strongRecOn with
 | _ k ih =>
 intro A0_0 c0_0 l0_0 a0_1 a0_2 a0_3 a0_4 a0_5 a0_6 A1 c1 l1 a2 r w hr0_0 hc0_0 hr1 hc1 h
 cases k with
 | zero => exact absurd h (by simp [flagstonelaw41_population_misses.f])
 | succ k =>
 simp only [flagstonelaw41_population_misses.f] at h
 have hu39 := Try.underlying39
 have hu65 := Try.underlying65
 have hu36 := Try.underlying36
 have hu68 := Try.underlying68
 have hu70 := Try.underlying70
 have HR0_0 := Aside0.mk hr0_0
 have HC0_0 := Aside0.mk hc0_0
 clear hr0_0 hc0_0
 have HR1 := Aside0.mk hr1
 have HC1 := Aside0.mk hc1
 clear hr1 hc1
 have HB := Aside0.mk (Below.refl w.heap.size w)
 have H : ((score_All.f k l1 (([(⟨1, a0_2, a0_3⟩ : S65)] : List (S65))) 20 a0_6).bind fun t371 => ((sequence_Lower.f k t371 a0_5).bind fun t374 => (if t374 > a0_4 then (flagstonelaw41_population_misses.j0 k l1 a2 true l0_0 a0_1 a0_2 a0_3 a0_4 a0_5 a0_6) else ((sequence_Upper.f k t371 a0_5).bind fun t375 => (flagstonelaw41_population_misses.j0 k l1 a2 (decide (t375 < a0_4)) l0_0 a0_1 a0_2 a0_3 a0_4 a0_5 a0_6))))) = some r := h
 clear h
 obtain ⟨y368, hy368⟩ : ∃ y_ : List (S65), y_ = (([(⟨1, a0_2, a0_3⟩ : S65)] : List (S65))) := ⟨_, rfl⟩
 replace H : ((score_All.f k l1 y368 20 a0_6).bind fun t371 => ((sequence_Lower.f k t371 a0_5).bind fun t374 => (if t374 > a0_4 then (flagstonelaw41_population_misses.j0 k l1 a2 true l0_0 a0_1 a0_2 a0_3 a0_4 a0_5 a0_6) else ((sequence_Upper.f k t371 a0_5).bind fun t375 => (flagstonelaw41_population_misses.j0 k l1 a2 (decide (t375 < a0_4)) l0_0 a0_1 a0_2 a0_3 a0_4 a0_5 a0_6))))) = some r := by first | (rw [hy368]; with_reducible exact H) | (have H2_ := (Option.bind_some _ _).symm.trans H; rw [hy368]; with_reducible exact H2_) | (have H2_ := (Option.bind_some _ _).symm.trans H; with_reducible exact H2_) | with_reducible exact H | (rw [hy368]; exact H) | exact H
 have Ny368 := Aside0.mk hy368
 clear hy368
 replace H := Option.bind_eq_some_iff.mp H
 obtain ⟨t371, A40, H⟩ := H
 replace H : ((sequence_Lower.f k t371 a0_5).bind fun t374 => (if t374 > a0_4 then (flagstonelaw41_population_misses.j0 k l1 a2 true l0_0 a0_1 a0_2 a0_3 a0_4 a0_5 a0_6) else ((sequence_Upper.f k t371 a0_5).bind fun t375 => (flagstonelaw41_population_misses.j0 k l1 a2 (decide (t375 < a0_4)) l0_0 a0_1 a0_2 a0_3 a0_4 a0_5 a0_6)))) = some r := H
 have A4 := Aside0.mk A40
 clear A40
 have HC5 := Aside0.mk H
 clear H
 go_enter Try.func17, Try.ntmps17
 go_upto_region 2 with (first | ((with_reducible refine gate_dst (N := 3) rfl ?_); refine box_event ?hg (N := 3) ?hd (cs := #[.slice A0_0 l0_0.length c0_0, .int .i64 a0_1, .int .i64 a0_2, .int .i64 a0_3, .int .i64 a0_4, .int .i64 a0_5, .bool a0_6]) (t := 39) ?hr ?_; (case hd => rfl); (case hg => rfl); (case hr => first | (go_simp; done) | (go_simp; rfl)); intro gb367 hg w6 hbox hb; have n0_ := Aside0.mk (below_step (by repeat (first | (with_reducible first | exact HB.out | apply below_alloc | apply pw_below_drewN | apply below_drew1) | exact HB.out)) hb); have n1_ := Aside0.mk (hbox); have n2_ := Aside0.mk ((by rw [hg]; exact (below_size (by repeat (first | (with_reducible first | exact HB.out | apply below_alloc | apply pw_below_drewN | apply below_drew1) | exact HB.out))) : w.heap.size ≤ gb367)); have n3_ := Aside0.mk ((by rw [hg]; exact (below_size (by repeat (first | (with_reducible first | exact HB.out | apply below_alloc | apply pw_below_drewN | apply below_drew1) | exact HB.out))) : w.heap.size ≤ gb367)); clear HB; have HB := n0_; have BK367 := n1_; have GW367 := n2_; have GE367 := n3_; clear n0_ n1_ n2_ n3_; clear hb hbox hg; have hcz7_0 : w6.cell? ⟨gb367, 0, none⟩ = some (.slice A0_0 l0_0.length c0_0) := (blk_cell BK367.out 0).trans rfl; have hcz7_1 : w6.cell? ⟨gb367, 1, none⟩ = some (.int .i64 a0_1) := (blk_cell BK367.out 1).trans rfl; have hcz7_2 : w6.cell? ⟨gb367, 2, none⟩ = some (.int .i64 a0_2) := (blk_cell BK367.out 2).trans rfl; have hcz7_3 : w6.cell? ⟨gb367, 3, none⟩ = some (.int .i64 a0_3) := (blk_cell BK367.out 3).trans rfl; have hcz7_4 : w6.cell? ⟨gb367, 4, none⟩ = some (.int .i64 a0_4) := (blk_cell BK367.out 4).trans rfl; have hcz7_5 : w6.cell? ⟨gb367, 5, none⟩ = some (.int .i64 a0_5) := (blk_cell BK367.out 5).trans rfl; have hcz7_6 : w6.cell? ⟨gb367, 6, none⟩ = some (.bool a0_6) := (blk_cell BK367.out 6).trans rfl; have hfz7_0 := blk_frozen BK367.out 0; have hfz7_1 := blk_frozen BK367.out 1; have hfz7_2 := blk_frozen BK367.out 2; have hfz7_3 := blk_frozen BK367.out 3; have hfz7_4 := blk_frozen BK367.out 4; have hfz7_5 := blk_frozen BK367.out 5; have hfz7_6 := blk_frozen BK367.out 6) | ((with_reducible refine gate_dst (N := 23) rfl ?_); refine Kd.R_lit k65 _ 65 ?hg (N := 23) ?hd (xs := ([(⟨1, a0_2, a0_3⟩ : S65)] : List (S65))) (inner := [.int .i64 1, .int .i64 a0_2, .int .i64 a0_3]) (ok := fun _ => True) (okp := fun _ => True) ?hr ?hp (fun _ hk => hk) trivial (Below.refl _ _) (Nat.le_refl _) (by simp) ?_; (case hd => rfl); (case hg => rfl); (case hr => first | (go_simp; done) | (go_simp; rfl)); (case hp => exact (Reps.c3 (show Kd.M k65 _ _ _ (⟨1, a0_2, a0_3⟩ : S65) [.int .i64 1, .int .i64 a0_2, .int .i64 a0_3] from (k65_mkM _ _ _ (⟨1, a0_2, a0_3⟩ : S65) )) (Reps.none _ _))); intro v369 w8 ho9 hb hg_ hnew_; clear hg_ hnew_; (first | rw [← Ny368.out] at ho9 | (simp only [Int.reduceToNat] at ho9; rw [← Ny368.out] at ho9)); have n0_ := Aside0.mk (Kd.R_lower ho9 (below_size (by repeat (first | (with_reducible first | exact HB.out | apply below_alloc | apply pw_below_drewN | apply below_drew1 | refine below_set ?_ GE367.out) | exact HB.out)))); have n1_ := Aside0.mk (blk_below (g := gb367) (o := .cells #[.slice A0_0 l0_0.length c0_0, .int .i64 a0_1, .int .i64 a0_2, .int .i64 a0_3, .int .i64 a0_4, .int .i64 a0_5, .bool a0_6] 39 (0, 0)) (by (with_reducible repeat (first | refine blk_drewN ?_ _ | refine blk_drew ?_ | refine blk_alloc ?_ _)); exact BK367.out) hb); have n2_ := Aside0.mk (below_step (by repeat (first | (with_reducible first | exact HB.out | apply below_alloc | apply pw_below_drewN | apply below_drew1 | refine below_set ?_ GE367.out) | exact HB.out)) hb); clear BK367; clear HB; have HO370 := n0_; have BK367 := n1_; have HB := n2_; clear n0_ n1_ n2_; clear hb ho9; have hcz10_0 : w8.cell? ⟨gb367, 0, none⟩ = some (.slice A0_0 l0_0.length c0_0) := (blk_cell BK367.out 0).trans rfl; have hcz10_1 : w8.cell? ⟨gb367, 1, none⟩ = some (.int .i64 a0_1) := (blk_cell BK367.out 1).trans rfl; have hcz10_2 : w8.cell? ⟨gb367, 2, none⟩ = some (.int .i64 a0_2) := (blk_cell BK367.out 2).trans rfl; have hcz10_3 : w8.cell? ⟨gb367, 3, none⟩ = some (.int .i64 a0_3) := (blk_cell BK367.out 3).trans rfl; have hcz10_4 : w8.cell? ⟨gb367, 4, none⟩ = some (.int .i64 a0_4) := (blk_cell BK367.out 4).trans rfl; have hcz10_5 : w8.cell? ⟨gb367, 5, none⟩ = some (.int .i64 a0_5) := (blk_cell BK367.out 5).trans rfl; have hcz10_6 : w8.cell? ⟨gb367, 6, none⟩ = some (.bool a0_6) := (blk_cell BK367.out 6).trans rfl; have hfz10_0 := blk_frozen BK367.out 0; have hfz10_1 := blk_frozen BK367.out 1; have hfz10_2 := blk_frozen BK367.out 2; have hfz10_3 := blk_frozen BK367.out 3; have hfz10_4 := blk_frozen BK367.out 4; have hfz10_5 := blk_frozen BK367.out 5; have hfz10_6 := blk_frozen BK367.out 6; obtain ⟨Ao11, co11, eo11⟩ := Kd.R_slice HO370.out; subst eo11) | ((with_reducible refine gate_callee (f := 29) rfl ?_); refine goesL_ (some 26) rfl rfl Try.func29 (by kernel_rfl) rfl #[.slice A1 l1.length c1, .slice Ao11 y368.length co11, .int .i64 20, .bool a0_6] rfl (by (try simp only [List.map_toArray, List.map_cons, List.map_nil]); first | done | rfl | (simp only [List.length_drop, List.length_take]; rfl)) ?_; (with_reducible refine (score_All.calls k _ _ l1 _ _ y368 20 a0_6 t371 _ ?side1 ?side2 ?side3 ?side4 A4.out).mono ?_); (case side1 => repeat (first | exact (Kd.C_below HR1.out HB.out) | (with_reducible refine Kd.C_alloc ?_ _) | (with_reducible refine Kd.C_drewN ?_ _) | (with_reducible refine Kd.C_drew ?_))); (case side2 => exact HC1.out); (case side3 => repeat (first | exact (Kd.R_reads' HO370.out).2.2 | (with_reducible refine Kd.C_alloc ?_ _) | (with_reducible refine Kd.C_drewN ?_ _) | (with_reducible refine Kd.C_drew ?_))); (case side4 => exact (Kd.R_reads' HO370.out).2.1); rintro e w12 ⟨v372, rfl, ho0, hb⟩; refine ⟨_, rfl, ?_⟩; have n0_ := Aside0.mk (Kd.R_below (by (with_reducible repeat (first | apply Kd.R_alloc | apply Kd.R_drewN | apply Kd.R_drew)); exact HO370.out) hb); have n1_ := Aside0.mk (Kd.R_lower ho0 (below_size (by repeat (first | (with_reducible first | exact HB.out | apply below_alloc | apply pw_below_drewN | apply below_drew1 | refine below_set ?_ GE367.out) | exact HB.out)))); have n2_ := Aside0.mk (blk_below (g := gb367) (o := .cells #[.slice A0_0 l0_0.length c0_0, .int .i64 a0_1, .int .i64 a0_2, .int .i64 a0_3, .int .i64 a0_4, .int .i64 a0_5, .bool a0_6] 39 (0, 0)) (by (with_reducible repeat (first | refine blk_drewN ?_ _ | refine blk_drew ?_ | refine blk_alloc ?_ _)); exact BK367.out) hb); have n3_ := Aside0.mk (below_step (by repeat (first | (with_reducible first | exact HB.out | apply below_alloc | apply pw_below_drewN | apply below_drew1 | refine below_set ?_ GE367.out) | exact HB.out)) hb); clear HO370; clear BK367; clear HB; have HO370 := n0_; have HO373 := n1_; have BK367 := n2_; have HB := n3_; clear n0_ n1_ n2_ n3_; (try clear hb); (try clear hb2); (try clear hk); (try clear hi); (try clear ho0)))
 (try simp only [Act.put, List.setIfInBounds_toArray, List.set_cons_zero, List.set_cons_succ])
 go_cut [42] (fun v42 wc => ∃ (kq : Nat) (x42_4 : Bool), v42 = .bool x42_4 ∧ Aside0 (flagstonelaw41_population_misses.j0 kq l1 a2 x42_4 l0_0 a0_1 a0_2 a0_3 a0_4 a0_5 a0_6 = some r) ∧ Aside0 (kq ≤ k) ∧ Aside0 (wc.heap[gb367]? = some (.cells #[(.slice A0_0 l0_0.length c0_0), .int .i64 a0_1, .int .i64 a0_2, .int .i64 a0_3, .int .i64 a0_4, .int .i64 a0_5, .bool a0_6] 39 (0, 0))) ∧ Aside0 (Below w.heap.size w wc))
 case first =>
  have H := HC5.out
  clear HC5
  replace H := Option.bind_eq_some_iff.mp H
  obtain ⟨t374, A130, H⟩ := H
  replace H : (if t374 > a0_4 then (flagstonelaw41_population_misses.j0 k l1 a2 true l0_0 a0_1 a0_2 a0_3 a0_4 a0_5 a0_6) else ((sequence_Upper.f k t371 a0_5).bind fun t375 => (flagstonelaw41_population_misses.j0 k l1 a2 (decide (t375 < a0_4)) l0_0 a0_1 a0_2 a0_3 a0_4 a0_5 a0_6))) = some r := H
  have A13 := Aside0.mk A130
  clear A130
  by_cases c14 : t374 > a0_4
  ·rw [if_pos c14] at H
   have c14b0 : decide (a0_4 < t374) = true := decide_eq_true c14
   clear c14
   (first | rw [c14b0] | (simp only [i64_w, i32_w]; rw [c14b0]) | skip)
   have H' := Aside0.mk H
   clear H
   try go_wp2
   have n0_ := Aside0.mk (Kd.R_drew HO370.out)
   have n1_ := Aside0.mk (Kd.R_drew HO373.out)
   have n2_ := Aside0.mk (blk_drew BK367.out)
   have n3_ := Aside0.mk (below_drew1 HB.out)
   clear HO370
   clear HO373
   clear BK367
   clear HB
   have HO370 := n0_
   have HO373 := n1_
   have BK367 := n2_
   have HB := n3_
   clear n0_ n1_ n2_ n3_
   obtain ⟨Ao16, co16, eo16⟩ := Kd.R_slice HO373.out
   (first | subst eo16 | (injection eo16 with f1_ f2_ f3_; have f4_ := f1_.symm; have f5_ := f3_.symm; clear f1_ f2_ f3_; subst f4_; subst f5_))
   refine start_ (n := 16) (S := fun w' => w'.cell? ⟨gb367, 0, none⟩ = some (.slice A0_0 l0_0.length c0_0) ∧ w'.cell? ⟨gb367, 1, none⟩ = some (.int .i64 a0_1) ∧ w'.cell? ⟨gb367, 2, none⟩ = some (.int .i64 a0_2) ∧ w'.cell? ⟨gb367, 3, none⟩ = some (.int .i64 a0_3) ∧ w'.cell? ⟨gb367, 4, none⟩ = some (.int .i64 a0_4) ∧ w'.cell? ⟨gb367, 5, none⟩ = some (.int .i64 a0_5) ∧ w'.cell? ⟨gb367, 6, none⟩ = some (.bool a0_6)) (ds := []) #[false, false, false, false, false, false, false, false, false, false, false, false, false, false, false, false] (by kernel_rfl) rfl rfl ⟨(blk_cell BK367.out 0).trans rfl, (blk_cell BK367.out 1).trans rfl, (blk_cell BK367.out 2).trans rfl, (blk_cell BK367.out 3).trans rfl, (blk_cell BK367.out 4).trans rfl, (blk_cell BK367.out 5).trans rfl, (blk_cell BK367.out 6).trans rfl⟩ (fun hHeld => ?_); refine with_tabW flagstonelaw41_population_misses.tab2 flagstonelaw41_population_misses.bits2 (fun HT_ HW_ => ?_)
   generalize w12.drew = w15 at HO370 HO373 BK367 HB hHeld ⊢
   refine pure_ (i := 0) (N := some 27) (v := ?_) (a' := ?_) #[true, false, false, false, false, false, false, false, false, false, false, false, false, false, false, false] rfl rfl (any_of HT_.out (by kernel_rfl)) (fun _ _ _ h => h) (Or.inl ⟨by rfl, ?_⟩) ?_ ?_
   rotate_left
   ·intro w'
    go_simp
    with_reducible rfl
   rotate_left
   ·simp only [Act.put, List.setIfInBounds_toArray, List.set_cons_zero, List.set_cons_succ, i64_w, i32_w]
    rfl
   refine pure_ (i := 1) (N := some 28) (v := ?_) (a' := ?_) #[true, true, false, false, false, false, false, false, false, false, false, false, false, false, false, false] rfl rfl (any_of HT_.out (by kernel_rfl)) (fun _ _ _ h => h) (Or.inl ⟨by rfl, ?_⟩) ?_ ?_
   rotate_left
   ·intro w'
    go_simp
    with_reducible rfl
   rotate_left
   ·simp only [Act.put, List.setIfInBounds_toArray, List.set_cons_zero, List.set_cons_succ, i64_w, i32_w]
    rfl
   refine pure_ (i := 4) (N := some 31) (v := ?_) (a' := ?_) #[true, true, false, false, true, false, false, false, false, false, false, false, false, false, false, false] rfl rfl (any_of HT_.out (by kernel_rfl)) (fun _ _ _ h => h) (Or.inl ⟨by rfl, ?_⟩) ?_ ?_
   rotate_left
   ·intro w'
    go_simp
    with_reducible rfl
   rotate_left
   ·simp only [Act.put, List.setIfInBounds_toArray, List.set_cons_zero, List.set_cons_succ, i64_w, i32_w]
    rfl
   refine take_ (i := 2) (N := some 29) (v := ?_) (a' := ?_) #[true, true, true, false, true, false, false, false, false, false, false, false, false, false, false, false] rfl rfl (take_ofW HT_.out HW_.out (by kernel_rfl)) (fun _ _ _ h => h) (Or.inl ⟨by rfl, ?_⟩) hHeld ?_ ?_
   rotate_left
   ·rintro w' ⟨s0, s1, s2, s3, s4, s5, s6⟩
    go_simp
    with_reducible rfl
   rotate_left
   ·simp only [Act.put, List.setIfInBounds_toArray, List.set_cons_zero, List.set_cons_succ, i64_w, i32_w]
    rfl
   refine take_ (i := 5) (N := some 32) (v := ?_) (a' := ?_) #[true, true, true, false, true, true, false, false, false, false, false, false, false, false, false, false] rfl rfl (take_ofW HT_.out HW_.out (by kernel_rfl)) (fun _ _ _ h => h) (Or.inl ⟨by rfl, ?_⟩) hHeld ?_ ?_
   rotate_left
   ·rintro w' ⟨s0, s1, s2, s3, s4, s5, s6⟩
    go_simp
    with_reducible rfl
   rotate_left
   ·simp only [Act.put, List.setIfInBounds_toArray, List.set_cons_zero, List.set_cons_succ, i64_w, i32_w]
    rfl
   refine one_ (i := 3) (N := some 30) #[true, true, true, true, true, true, false, false, false, false, false, false, false, false, false, false] rfl rfl (one_of HT_.out (by kernel_rfl)) (by decide) (fun K hK => ?_)
   refine goes_ Try.func18 (by kernel_rfl) rfl #[.slice Ao16 t371.length co16, .int .i64 a0_5] (by rfl) rfl rfl (by (try simp only [List.map_toArray, List.map_cons, List.map_nil]); first | done | rfl | (simp only [List.length_drop, List.length_take]; rfl)) ?_
   with_reducible refine (sequence_Lower.calls k _ _ t371 a0_5 t374 _ ?side1 ?side2 A13.out).mono ?_
   (case side1 => repeat (first | exact (Kd.R_reads' HO373.out).2.2 | (with_reducible refine Kd.C_alloc ?_ _) | (with_reducible refine Kd.C_drewN ?_ _) | (with_reducible refine Kd.C_drew ?_)))
   (case side2 => exact (Kd.R_reads' HO373.out).2.1)
   rintro e w17 ⟨rfl, hb⟩
   refine ⟨_, rfl, ?_⟩
   have n0_ := Aside0.mk (Kd.R_below (by (with_reducible repeat (first | apply Kd.R_alloc | apply Kd.R_drewN | apply Kd.R_drew)); exact HO370.out) hb)
   have n1_ := Aside0.mk (Kd.R_below (by (with_reducible repeat (first | apply Kd.R_alloc | apply Kd.R_drewN | apply Kd.R_drew)); exact HO373.out) hb)
   have n2_ := Aside0.mk (blk_below (g := gb367) (o := .cells #[.slice A0_0 l0_0.length c0_0, .int .i64 a0_1, .int .i64 a0_2, .int .i64 a0_3, .int .i64 a0_4, .int .i64 a0_5, .bool a0_6] 39 (0, 0)) (by (with_reducible repeat (first | refine blk_drewN ?_ _ | refine blk_drew ?_ | refine blk_alloc ?_ _)); exact BK367.out) hb)
   have n3_ := Aside0.mk (below_step (by repeat (first | (with_reducible first | exact HB.out | apply below_alloc | apply pw_below_drewN | apply below_drew1 | refine below_set ?_ GE367.out) | exact HB.out)) hb)
   clear HO370
   clear HO373
   clear BK367
   clear HB
   have HO370 := n0_
   have HO373 := n1_
   have BK367 := n2_
   have HB := n3_
   clear n0_ n1_ n2_ n3_
   (try clear hb)
   (try clear hb2)
   (try clear hk)
   (try clear hi)
   refine hK.out _ _ ⟨(blk_cell BK367.out 0).trans rfl, (blk_cell BK367.out 1).trans rfl, (blk_cell BK367.out 2).trans rfl, (blk_cell BK367.out 3).trans rfl, (blk_cell BK367.out 4).trans rfl, (blk_cell BK367.out 5).trans rfl, (blk_cell BK367.out 6).trans rfl⟩ (fun hHeld => ?_)
   clear hK K
   refine norm_ (a' := ?_) ?_ ?_
   rotate_left
   ·show Act.put _ (some 30) _ = _
    simp only [Act.put, List.setIfInBounds_toArray, List.set_cons_zero, List.set_cons_succ, i64_w, i32_w]
    rfl
   refine pure_ (i := 6) (N := some 33) (v := ?_) (a' := ?_) #[true, true, true, true, true, true, true, false, false, false, false, false, false, false, false, false] rfl rfl (any_of HT_.out (by kernel_rfl)) (fun _ _ _ h => h) (Or.inl ⟨by rfl, ?_⟩) ?_ ?_
   rotate_left
   ·intro w'
    go_simp
    with_reducible rfl
   rotate_left
   ·simp only [Act.put, List.setIfInBounds_toArray, List.set_cons_zero, List.set_cons_succ, i64_w, i32_w]
    rfl
   refine pure_ (i := 7) (N := some 34) (v := ?_) (a' := ?_) #[true, true, true, true, true, true, true, true, false, false, false, false, false, false, false, false] rfl rfl (any_of HT_.out (by kernel_rfl)) (fun _ _ _ h => h) (Or.inl ⟨by rfl, ?_⟩) ?_ ?_
   rotate_left
   ·intro w'
    go_simp
    with_reducible rfl
   rotate_left
   ·simp only [Act.put, List.setIfInBounds_toArray, List.set_cons_zero, List.set_cons_succ, i64_w, i32_w]
    rfl
   refine pure_ (i := 8) (N := some 35) (v := undef) (a' := ?_) #[true, true, true, true, true, true, true, true, true, false, false, false, false, false, false, false] rfl rfl (any_of HT_.out (by kernel_rfl)) (fun _ _ _ h => h) (Or.inr ⟨by rfl, rfl⟩) ?_ ?_
   rotate_left
   ·simp only [Act.put, List.setIfInBounds_toArray, List.set_cons_zero, List.set_cons_succ, i64_w, i32_w]
    rfl
   refine pure_ (i := 9) (N := some 36) (v := undef) (a' := ?_) #[true, true, true, true, true, true, true, true, true, true, false, false, false, false, false, false] rfl rfl (any_of HT_.out (by kernel_rfl)) (fun _ _ _ h => h) (Or.inr ⟨by rfl, rfl⟩) ?_ ?_
   rotate_left
   ·simp only [Act.put, List.setIfInBounds_toArray, List.set_cons_zero, List.set_cons_succ, i64_w, i32_w]
    rfl
   refine pure_ (i := 10) (N := some 37) (v := undef) (a' := ?_) #[true, true, true, true, true, true, true, true, true, true, true, false, false, false, false, false] rfl rfl (any_of HT_.out (by kernel_rfl)) (fun _ _ _ h => h) (Or.inr ⟨by rfl, rfl⟩) ?_ ?_
   rotate_left
   ·simp only [Act.put, List.setIfInBounds_toArray, List.set_cons_zero, List.set_cons_succ, i64_w, i32_w]
    rfl
   refine pure_ (i := 11) (N := some 38) (v := undef) (a' := ?_) #[true, true, true, true, true, true, true, true, true, true, true, true, false, false, false, false] rfl rfl (any_of HT_.out (by kernel_rfl)) (fun _ _ _ h => h) (Or.inr ⟨by rfl, rfl⟩) ?_ ?_
   rotate_left
   ·simp only [Act.put, List.setIfInBounds_toArray, List.set_cons_zero, List.set_cons_succ, i64_w, i32_w]
    rfl
   refine pure_ (i := 12) (N := some 39) (v := undef) (a' := ?_) #[true, true, true, true, true, true, true, true, true, true, true, true, true, false, false, false] rfl rfl (any_of HT_.out (by kernel_rfl)) (fun _ _ _ h => h) (Or.inr ⟨by rfl, rfl⟩) ?_ ?_
   rotate_left
   ·simp only [Act.put, List.setIfInBounds_toArray, List.set_cons_zero, List.set_cons_succ, i64_w, i32_w]
    rfl
   refine pure_ (i := 13) (N := some 40) (v := undef) (a' := ?_) #[true, true, true, true, true, true, true, true, true, true, true, true, true, true, false, false] rfl rfl (any_of HT_.out (by kernel_rfl)) (fun _ _ _ h => h) (Or.inr ⟨by rfl, rfl⟩) ?_ ?_
   rotate_left
   ·simp only [Act.put, List.setIfInBounds_toArray, List.set_cons_zero, List.set_cons_succ, i64_w, i32_w]
    rfl
   refine pure_ (i := 14) (N := some 41) (v := undef) (a' := ?_) #[true, true, true, true, true, true, true, true, true, true, true, true, true, true, true, false] rfl rfl (any_of HT_.out (by kernel_rfl)) (fun _ _ _ h => h) (Or.inr ⟨by rfl, rfl⟩) ?_ ?_
   rotate_left
   ·simp only [Act.put, List.setIfInBounds_toArray, List.set_cons_zero, List.set_cons_succ, i64_w, i32_w]
    rfl
   refine pure_ (i := 15) (N := some 42) (v := ?_) (a' := ?_) #[true, true, true, true, true, true, true, true, true, true, true, true, true, true, true, true] rfl rfl (any_of HT_.out (by kernel_rfl)) (fun _ _ _ h => h) (Or.inl ⟨by rfl, ?_⟩) ?_ ?_
   rotate_left
   ·intro w'
    go_simp
    with_reducible rfl
   rotate_left
   ·simp only [Act.put, List.setIfInBounds_toArray, List.set_cons_zero, List.set_cons_succ, i64_w, i32_w]
    rfl
   refine done_ (done_of HT_.out (by kernel_rfl)) ?_
   try go_wp2
   go_meet
   case rel => exact ⟨_, (true), (by first | rfl | (simp; done) | (simp [*]; done) | exact congrArg (Value.int _) (by unfold wrap64; omega)), H', ⟨by first | omega | exact Nat.le_refl _⟩, ⟨by (with_reducible repeat (first | refine blk_drewN ?_ _ | refine blk_drew ?_ | refine blk_alloc ?_ _)); exact BK367.out⟩, ⟨by repeat (first | (with_reducible first | exact HB.out | apply below_alloc | apply pw_below_drewN | apply below_drew1 | refine below_set ?_ GE367.out) | exact HB.out)⟩⟩
  ·rw [if_neg c14] at H
   have c14b0 : decide (a0_4 < t374) = false := decide_eq_false c14
   clear c14
   (first | rw [c14b0] | (simp only [i64_w, i32_w]; rw [c14b0]) | skip)
   replace H := Option.bind_eq_some_iff.mp H
   obtain ⟨t375, A180, H⟩ := H
   replace H : (flagstonelaw41_population_misses.j0 k l1 a2 (decide (t375 < a0_4)) l0_0 a0_1 a0_2 a0_3 a0_4 a0_5 a0_6) = some r := H
   have A18 := Aside0.mk A180
   clear A180
   have H' := Aside0.mk H
   clear H
   try go_wp2
   have n0_ := Aside0.mk (Kd.R_drew HO370.out)
   have n1_ := Aside0.mk (Kd.R_drew HO373.out)
   have n2_ := Aside0.mk (blk_drew BK367.out)
   have n3_ := Aside0.mk (below_drew1 HB.out)
   clear HO370
   clear HO373
   clear BK367
   clear HB
   have HO370 := n0_
   have HO373 := n1_
   have BK367 := n2_
   have HB := n3_
   clear n0_ n1_ n2_ n3_
   obtain ⟨Ao20, co20, eo20⟩ := Kd.R_slice HO373.out
   (first | subst eo20 | (injection eo20 with f1_ f2_ f3_; have f4_ := f1_.symm; have f5_ := f3_.symm; clear f1_ f2_ f3_; subst f4_; subst f5_))
   refine start_ (n := 16) (S := fun w' => w'.cell? ⟨gb367, 0, none⟩ = some (.slice A0_0 l0_0.length c0_0) ∧ w'.cell? ⟨gb367, 1, none⟩ = some (.int .i64 a0_1) ∧ w'.cell? ⟨gb367, 2, none⟩ = some (.int .i64 a0_2) ∧ w'.cell? ⟨gb367, 3, none⟩ = some (.int .i64 a0_3) ∧ w'.cell? ⟨gb367, 4, none⟩ = some (.int .i64 a0_4) ∧ w'.cell? ⟨gb367, 5, none⟩ = some (.int .i64 a0_5) ∧ w'.cell? ⟨gb367, 6, none⟩ = some (.bool a0_6)) (ds := []) #[false, false, false, false, false, false, false, false, false, false, false, false, false, false, false, false] (by kernel_rfl) rfl rfl ⟨(blk_cell BK367.out 0).trans rfl, (blk_cell BK367.out 1).trans rfl, (blk_cell BK367.out 2).trans rfl, (blk_cell BK367.out 3).trans rfl, (blk_cell BK367.out 4).trans rfl, (blk_cell BK367.out 5).trans rfl, (blk_cell BK367.out 6).trans rfl⟩ (fun hHeld => ?_); refine with_tabW flagstonelaw41_population_misses.tab2 flagstonelaw41_population_misses.bits2 (fun HT_ HW_ => ?_)
   generalize w12.drew = w19 at HO370 HO373 BK367 HB hHeld ⊢
   refine pure_ (i := 0) (N := some 27) (v := ?_) (a' := ?_) #[true, false, false, false, false, false, false, false, false, false, false, false, false, false, false, false] rfl rfl (any_of HT_.out (by kernel_rfl)) (fun _ _ _ h => h) (Or.inl ⟨by rfl, ?_⟩) ?_ ?_
   rotate_left
   ·intro w'
    go_simp
    with_reducible rfl
   rotate_left
   ·simp only [Act.put, List.setIfInBounds_toArray, List.set_cons_zero, List.set_cons_succ, i64_w, i32_w]
    rfl
   refine pure_ (i := 1) (N := some 28) (v := ?_) (a' := ?_) #[true, true, false, false, false, false, false, false, false, false, false, false, false, false, false, false] rfl rfl (any_of HT_.out (by kernel_rfl)) (fun _ _ _ h => h) (Or.inl ⟨by rfl, ?_⟩) ?_ ?_
   rotate_left
   ·intro w'
    go_simp
    with_reducible rfl
   rotate_left
   ·simp only [Act.put, List.setIfInBounds_toArray, List.set_cons_zero, List.set_cons_succ, i64_w, i32_w]
    rfl
   refine pure_ (i := 4) (N := some 31) (v := ?_) (a' := ?_) #[true, true, false, false, true, false, false, false, false, false, false, false, false, false, false, false] rfl rfl (any_of HT_.out (by kernel_rfl)) (fun _ _ _ h => h) (Or.inl ⟨by rfl, ?_⟩) ?_ ?_
   rotate_left
   ·intro w'
    go_simp
    with_reducible rfl
   rotate_left
   ·simp only [Act.put, List.setIfInBounds_toArray, List.set_cons_zero, List.set_cons_succ, i64_w, i32_w]
    rfl
   refine take_ (i := 2) (N := some 29) (v := ?_) (a' := ?_) #[true, true, true, false, true, false, false, false, false, false, false, false, false, false, false, false] rfl rfl (take_ofW HT_.out HW_.out (by kernel_rfl)) (fun _ _ _ h => h) (Or.inl ⟨by rfl, ?_⟩) hHeld ?_ ?_
   rotate_left
   ·rintro w' ⟨s0, s1, s2, s3, s4, s5, s6⟩
    go_simp
    with_reducible rfl
   rotate_left
   ·simp only [Act.put, List.setIfInBounds_toArray, List.set_cons_zero, List.set_cons_succ, i64_w, i32_w]
    rfl
   refine take_ (i := 5) (N := some 32) (v := ?_) (a' := ?_) #[true, true, true, false, true, true, false, false, false, false, false, false, false, false, false, false] rfl rfl (take_ofW HT_.out HW_.out (by kernel_rfl)) (fun _ _ _ h => h) (Or.inl ⟨by rfl, ?_⟩) hHeld ?_ ?_
   rotate_left
   ·rintro w' ⟨s0, s1, s2, s3, s4, s5, s6⟩
    go_simp
    with_reducible rfl
   rotate_left
   ·simp only [Act.put, List.setIfInBounds_toArray, List.set_cons_zero, List.set_cons_succ, i64_w, i32_w]
    rfl
   refine one_ (i := 3) (N := some 30) #[true, true, true, true, true, true, false, false, false, false, false, false, false, false, false, false] rfl rfl (one_of HT_.out (by kernel_rfl)) (by decide) (fun K hK => ?_)
   refine goes_ Try.func18 (by kernel_rfl) rfl #[.slice Ao20 t371.length co20, .int .i64 a0_5] (by rfl) rfl rfl (by (try simp only [List.map_toArray, List.map_cons, List.map_nil]); first | done | rfl | (simp only [List.length_drop, List.length_take]; rfl)) ?_
   with_reducible refine (sequence_Lower.calls k _ _ t371 a0_5 t374 _ ?side1 ?side2 A13.out).mono ?_
   (case side1 => repeat (first | exact (Kd.R_reads' HO373.out).2.2 | (with_reducible refine Kd.C_alloc ?_ _) | (with_reducible refine Kd.C_drewN ?_ _) | (with_reducible refine Kd.C_drew ?_)))
   (case side2 => exact (Kd.R_reads' HO373.out).2.1)
   rintro e w21 ⟨rfl, hb⟩
   refine ⟨_, rfl, ?_⟩
   have n0_ := Aside0.mk (Kd.R_below (by (with_reducible repeat (first | apply Kd.R_alloc | apply Kd.R_drewN | apply Kd.R_drew)); exact HO370.out) hb)
   have n1_ := Aside0.mk (Kd.R_below (by (with_reducible repeat (first | apply Kd.R_alloc | apply Kd.R_drewN | apply Kd.R_drew)); exact HO373.out) hb)
   have n2_ := Aside0.mk (blk_below (g := gb367) (o := .cells #[.slice A0_0 l0_0.length c0_0, .int .i64 a0_1, .int .i64 a0_2, .int .i64 a0_3, .int .i64 a0_4, .int .i64 a0_5, .bool a0_6] 39 (0, 0)) (by (with_reducible repeat (first | refine blk_drewN ?_ _ | refine blk_drew ?_ | refine blk_alloc ?_ _)); exact BK367.out) hb)
   have n3_ := Aside0.mk (below_step (by repeat (first | (with_reducible first | exact HB.out | apply below_alloc | apply pw_below_drewN | apply below_drew1 | refine below_set ?_ GE367.out) | exact HB.out)) hb)
   clear HO370
   clear HO373
   clear BK367
   clear HB
   have HO370 := n0_
   have HO373 := n1_
   have BK367 := n2_
   have HB := n3_
   clear n0_ n1_ n2_ n3_
   (try clear hb)
   (try clear hb2)
   (try clear hk)
   (try clear hi)
   refine hK.out _ _ ⟨(blk_cell BK367.out 0).trans rfl, (blk_cell BK367.out 1).trans rfl, (blk_cell BK367.out 2).trans rfl, (blk_cell BK367.out 3).trans rfl, (blk_cell BK367.out 4).trans rfl, (blk_cell BK367.out 5).trans rfl, (blk_cell BK367.out 6).trans rfl⟩ (fun hHeld => ?_)
   clear hK K
   refine norm_ (a' := ?_) ?_ ?_
   rotate_left
   ·show Act.put _ (some 30) _ = _
    simp only [Act.put, List.setIfInBounds_toArray, List.set_cons_zero, List.set_cons_succ, i64_w, i32_w]
    rfl
   refine pure_ (i := 6) (N := some 33) (v := ?_) (a' := ?_) #[true, true, true, true, true, true, true, false, false, false, false, false, false, false, false, false] rfl rfl (any_of HT_.out (by kernel_rfl)) (fun _ _ _ h => h) (Or.inl ⟨by rfl, ?_⟩) ?_ ?_
   rotate_left
   ·intro w'
    go_simp
    with_reducible rfl
   rotate_left
   ·simp only [Act.put, List.setIfInBounds_toArray, List.set_cons_zero, List.set_cons_succ, i64_w, i32_w]
    rfl
   refine pure_ (i := 7) (N := some 34) (v := ?_) (a' := ?_) #[true, true, true, true, true, true, true, true, false, false, false, false, false, false, false, false] rfl rfl (any_of HT_.out (by kernel_rfl)) (fun _ _ _ h => h) (Or.inl ⟨by rfl, ?_⟩) ?_ ?_
   rotate_left
   ·intro w'
    go_simp
    with_reducible rfl
   rotate_left
   ·simp only [Act.put, List.setIfInBounds_toArray, List.set_cons_zero, List.set_cons_succ, i64_w, i32_w]
    rfl
   refine pure_ (i := 8) (N := some 35) (v := ?_) (a' := ?_) #[true, true, true, true, true, true, true, true, true, false, false, false, false, false, false, false] rfl rfl (any_of HT_.out (by kernel_rfl)) (fun _ _ _ h => h) (Or.inl ⟨by rfl, ?_⟩) ?_ ?_
   rotate_left
   ·intro w'
    go_simp
    with_reducible rfl
   rotate_left
   ·simp only [Act.put, List.setIfInBounds_toArray, List.set_cons_zero, List.set_cons_succ, i64_w, i32_w]
    rfl
   refine pure_ (i := 9) (N := some 36) (v := ?_) (a' := ?_) #[true, true, true, true, true, true, true, true, true, true, false, false, false, false, false, false] rfl rfl (any_of HT_.out (by kernel_rfl)) (fun _ _ _ h => h) (Or.inl ⟨by rfl, ?_⟩) ?_ ?_
   rotate_left
   ·intro w'
    go_simp
    with_reducible rfl
   rotate_left
   ·simp only [Act.put, List.setIfInBounds_toArray, List.set_cons_zero, List.set_cons_succ, i64_w, i32_w]
    rfl
   refine pure_ (i := 12) (N := some 39) (v := ?_) (a' := ?_) #[true, true, true, true, true, true, true, true, true, true, false, false, true, false, false, false] rfl rfl (any_of HT_.out (by kernel_rfl)) (fun _ _ _ h => h) (Or.inl ⟨by rfl, ?_⟩) ?_ ?_
   rotate_left
   ·intro w'
    go_simp
    with_reducible rfl
   rotate_left
   ·simp only [Act.put, List.setIfInBounds_toArray, List.set_cons_zero, List.set_cons_succ, i64_w, i32_w]
    rfl
   refine take_ (i := 10) (N := some 37) (v := ?_) (a' := ?_) #[true, true, true, true, true, true, true, true, true, true, true, false, true, false, false, false] rfl rfl (take_ofW HT_.out HW_.out (by kernel_rfl)) (fun _ _ _ h => h) (Or.inl ⟨by rfl, ?_⟩) hHeld ?_ ?_
   rotate_left
   ·rintro w' ⟨s0, s1, s2, s3, s4, s5, s6⟩
    go_simp
    with_reducible rfl
   rotate_left
   ·simp only [Act.put, List.setIfInBounds_toArray, List.set_cons_zero, List.set_cons_succ, i64_w, i32_w]
    rfl
   refine take_ (i := 13) (N := some 40) (v := ?_) (a' := ?_) #[true, true, true, true, true, true, true, true, true, true, true, false, true, true, false, false] rfl rfl (take_ofW HT_.out HW_.out (by kernel_rfl)) (fun _ _ _ h => h) (Or.inl ⟨by rfl, ?_⟩) hHeld ?_ ?_
   rotate_left
   ·rintro w' ⟨s0, s1, s2, s3, s4, s5, s6⟩
    go_simp
    with_reducible rfl
   rotate_left
   ·simp only [Act.put, List.setIfInBounds_toArray, List.set_cons_zero, List.set_cons_succ, i64_w, i32_w]
    rfl
   refine one_ (i := 11) (N := some 38) #[true, true, true, true, true, true, true, true, true, true, true, true, true, true, false, false] rfl rfl (one_of HT_.out (by kernel_rfl)) (by decide) (fun K hK => ?_)
   refine goes_ Try.func20 (by kernel_rfl) rfl #[.slice Ao20 t371.length co20, .int .i64 a0_5] (by rfl) rfl rfl (by (try simp only [List.map_toArray, List.map_cons, List.map_nil]); first | done | rfl | (simp only [List.length_drop, List.length_take]; rfl)) ?_
   with_reducible refine (sequence_Upper.calls k _ _ t371 a0_5 t375 _ ?side1 ?side2 A18.out).mono ?_
   (case side1 => repeat (first | exact (Kd.R_reads' HO373.out).2.2 | (with_reducible refine Kd.C_alloc ?_ _) | (with_reducible refine Kd.C_drewN ?_ _) | (with_reducible refine Kd.C_drew ?_)))
   (case side2 => exact (Kd.R_reads' HO373.out).2.1)
   rintro e w22 ⟨rfl, hb⟩
   refine ⟨_, rfl, ?_⟩
   have n0_ := Aside0.mk (Kd.R_below (by (with_reducible repeat (first | apply Kd.R_alloc | apply Kd.R_drewN | apply Kd.R_drew)); exact HO370.out) hb)
   have n1_ := Aside0.mk (Kd.R_below (by (with_reducible repeat (first | apply Kd.R_alloc | apply Kd.R_drewN | apply Kd.R_drew)); exact HO373.out) hb)
   have n2_ := Aside0.mk (blk_below (g := gb367) (o := .cells #[.slice A0_0 l0_0.length c0_0, .int .i64 a0_1, .int .i64 a0_2, .int .i64 a0_3, .int .i64 a0_4, .int .i64 a0_5, .bool a0_6] 39 (0, 0)) (by (with_reducible repeat (first | refine blk_drewN ?_ _ | refine blk_drew ?_ | refine blk_alloc ?_ _)); exact BK367.out) hb)
   have n3_ := Aside0.mk (below_step (by repeat (first | (with_reducible first | exact HB.out | apply below_alloc | apply pw_below_drewN | apply below_drew1 | refine below_set ?_ GE367.out) | exact HB.out)) hb)
   clear HO370
   clear HO373
   clear BK367
   clear HB
   have HO370 := n0_
   have HO373 := n1_
   have BK367 := n2_
   have HB := n3_
   clear n0_ n1_ n2_ n3_
   (try clear hb)
   (try clear hb2)
   (try clear hk)
   (try clear hi)
   refine hK.out _ _ ⟨(blk_cell BK367.out 0).trans rfl, (blk_cell BK367.out 1).trans rfl, (blk_cell BK367.out 2).trans rfl, (blk_cell BK367.out 3).trans rfl, (blk_cell BK367.out 4).trans rfl, (blk_cell BK367.out 5).trans rfl, (blk_cell BK367.out 6).trans rfl⟩ (fun hHeld => ?_)
   clear hK K
   refine norm_ (a' := ?_) ?_ ?_
   rotate_left
   ·show Act.put _ (some 38) _ = _
    simp only [Act.put, List.setIfInBounds_toArray, List.set_cons_zero, List.set_cons_succ, i64_w, i32_w]
    rfl
   refine pure_ (i := 14) (N := some 41) (v := ?_) (a' := ?_) #[true, true, true, true, true, true, true, true, true, true, true, true, true, true, true, false] rfl rfl (any_of HT_.out (by kernel_rfl)) (fun _ _ _ h => h) (Or.inl ⟨by rfl, ?_⟩) ?_ ?_
   rotate_left
   ·intro w'
    go_simp
    with_reducible rfl
   rotate_left
   ·simp only [Act.put, List.setIfInBounds_toArray, List.set_cons_zero, List.set_cons_succ, i64_w, i32_w]
    rfl
   refine pure_ (i := 15) (N := some 42) (v := ?_) (a' := ?_) #[true, true, true, true, true, true, true, true, true, true, true, true, true, true, true, true] rfl rfl (any_of HT_.out (by kernel_rfl)) (fun _ _ _ h => h) (Or.inl ⟨by rfl, ?_⟩) ?_ ?_
   rotate_left
   ·intro w'
    go_simp
    with_reducible rfl
   rotate_left
   ·simp only [Act.put, List.setIfInBounds_toArray, List.set_cons_zero, List.set_cons_succ, i64_w, i32_w]
    rfl
   refine done_ (done_of HT_.out (by kernel_rfl)) ?_
   try go_wp2
   go_meet
   case rel => exact ⟨_, (decide (t375 < a0_4)), (by first | rfl | (simp; done) | (simp [*]; done) | exact congrArg (Value.int _) (by unfold wrap64; omega)), H', ⟨by first | omega | exact Nat.le_refl _⟩, ⟨by (with_reducible repeat (first | refine blk_drewN ?_ _ | refine blk_drew ?_ | refine blk_alloc ?_ _)); exact BK367.out⟩, ⟨by repeat (first | (with_reducible first | exact HB.out | apply below_alloc | apply pw_below_drewN | apply below_drew1 | refine below_set ?_ GE367.out) | exact HB.out)⟩⟩
 case rest =>
  clear HC5
  try clear c1
  try clear c2
  try clear p2
  try clear c3
  try clear p6
  try clear c14
  try clear c14b0
  try clear c17
  try clear c18
  try clear c20
  try clear hcz10_0
  try clear hcz10_1
  try clear hcz10_2
  try clear hcz10_3
  try clear hcz10_4
  try clear hcz10_5
  try clear hcz10_6
  try clear hcz7_0
  try clear hcz7_1
  try clear hcz7_2
  try clear hcz7_3
  try clear hcz7_4
  try clear hcz7_5
  try clear hcz7_6
  try clear hfz10_0
  try clear hfz10_1
  try clear hfz10_2
  try clear hfz10_3
  try clear hfz10_4
  try clear hfz10_5
  try clear hfz10_6
  try clear hfz7_0
  try clear hfz7_1
  try clear hfz7_2
  try clear hfz7_3
  try clear hfz7_4
  try clear hfz7_5
  try clear hfz7_6
  obtain ⟨kq, x42_4, rfl, HA, HJ4, BK367, HB⟩ := hcut
  cases kq with
  | zero => exact absurd HA.out (by simp [flagstonelaw41_population_misses.j0])
  | succ kj4 =>
   have H := HA.out
   clear HA
   simp only [flagstonelaw41_population_misses.j0] at H
   by_cases c23 : x42_4 = true
   ·subst c23
    have H1 : (flagstonelaw41_population_misses.l0 kj4 a2 1 (l1.length : Int) l0_0 a0_1 a0_2 a0_3 a0_4 a0_5 a0_6) = some r := by rw [if_pos rfl] at H; exact H
    clear H
    have H := H1
    clear H1
    have H' := Aside0.mk H
    clear H
    go_wp2
    go_loopg [8, 9] kj4 (fun kq v8 v9 w' => ∃ (x8_2 : Int) (x9_2 : Int), v8 = .int .i64 x8_2 ∧ v9 = .int .i64 x9_2 ∧ Aside0 (flagstonelaw41_population_misses.l0 kq a2 x8_2 x9_2 l0_0 a0_1 a0_2 a0_3 a0_4 a0_5 a0_6 = some r) ∧ Aside0 (kq ≤ kj4) ∧ Aside0 (w'.heap[gb367]? = some (.cells #[(.slice A0_0 l0_0.length c0_0), .int .i64 a0_1, .int .i64 a0_2, .int .i64 a0_3, .int .i64 a0_4, .int .i64 a0_5, .bool a0_6] 39 (0, 0))) ∧ Aside0 (Below w.heap.size w w'))
    case atStart => exact ⟨(1), ((l1.length : Int)), (by first | rfl | (simp; done) | (simp [*]; done) | exact congrArg (Value.int _) (by unfold wrap64; omega)), (by first | rfl | (simp; done) | (simp [*]; done) | exact congrArg (Value.int _) (by unfold wrap64; omega)), H', ⟨Nat.le_refl _⟩, ⟨by (with_reducible repeat (first | refine blk_drewN ?_ _ | refine blk_drew ?_ | refine blk_alloc ?_ _)); exact BK367.out⟩, ⟨by repeat (first | (with_reducible first | exact HB.out | apply below_alloc | apply pw_below_drewN | apply below_drew1 | refine below_set ?_ GE367.out) | exact HB.out)⟩⟩
    case round =>
     clear H'
     try clear c1
     try clear c2
     try clear p2
     try clear c3
     try clear p6
     try clear c14
     try clear c14b0
     try clear c17
     try clear c18
     try clear c20
     try clear c23
     try clear hcz10_0
     try clear hcz10_1
     try clear hcz10_2
     try clear hcz10_3
     try clear hcz10_4
     try clear hcz10_5
     try clear hcz10_6
     try clear hcz7_0
     try clear hcz7_1
     try clear hcz7_2
     try clear hcz7_3
     try clear hcz7_4
     try clear hcz7_5
     try clear hcz7_6
     try clear hfz10_0
     try clear hfz10_1
     try clear hfz10_2
     try clear hfz10_3
     try clear hfz10_4
     try clear hfz10_5
     try clear hfz10_6
     try clear hfz7_0
     try clear hfz7_1
     try clear hfz7_2
     try clear hfz7_3
     try clear hfz7_4
     try clear hfz7_5
     try clear hfz7_6
     try clear p2
     try clear p6
     obtain ⟨x8_2, x9_2, rfl, rfl, HA, HK2, BK367, HB⟩ := hrel
     cases gk with
     | zero => exact absurd HA.out (by simp [flagstonelaw41_population_misses.l0])
     | succ k2 =>
      have H := HA.out
      clear HA
      simp only [flagstonelaw41_population_misses.l0] at H
      by_cases c24 : x9_2 < a2
      ·rw [if_pos c24] at H
       have c24b0 : decide (x9_2 < a2) = true := decide_eq_true c24
       clear c24
       have H' := Aside0.mk H
       clear H
       have hcz25_0 : wr.cell? ⟨gb367, 0, none⟩ = some (.slice A0_0 l0_0.length c0_0) := (blk_cell BK367.out 0).trans rfl
       have hcz25_1 : wr.cell? ⟨gb367, 1, none⟩ = some (.int .i64 a0_1) := (blk_cell BK367.out 1).trans rfl
       have hcz25_2 : wr.cell? ⟨gb367, 2, none⟩ = some (.int .i64 a0_2) := (blk_cell BK367.out 2).trans rfl
       have hcz25_3 : wr.cell? ⟨gb367, 3, none⟩ = some (.int .i64 a0_3) := (blk_cell BK367.out 3).trans rfl
       have hcz25_4 : wr.cell? ⟨gb367, 4, none⟩ = some (.int .i64 a0_4) := (blk_cell BK367.out 4).trans rfl
       have hcz25_5 : wr.cell? ⟨gb367, 5, none⟩ = some (.int .i64 a0_5) := (blk_cell BK367.out 5).trans rfl
       have hcz25_6 : wr.cell? ⟨gb367, 6, none⟩ = some (.bool a0_6) := (blk_cell BK367.out 6).trans rfl
       have hfz25_0 := blk_frozen BK367.out 0
       have hfz25_1 := blk_frozen BK367.out 1
       have hfz25_2 := blk_frozen BK367.out 2
       have hfz25_3 := blk_frozen BK367.out 3
       have hfz25_4 := blk_frozen BK367.out 4
       have hfz25_5 := blk_frozen BK367.out 5
       have hfz25_6 := blk_frozen BK367.out 6
       go_wp2
       go_roundg k2
       case measure => have := HJ4.out; have := HK2.out; omega
       case rel => exact ⟨(wrap64 (x8_2 * (wrap64 (a0_1 * (wrap64 (a0_2 + a0_3)))))), (wrap64 (x9_2 + 1)), (by first | rfl | (simp; done) | (simp [*]; done) | exact congrArg (Value.int _) (by unfold wrap64; omega)), (by first | rfl | (simp; done) | (simp [*]; done) | exact congrArg (Value.int _) (by unfold wrap64; omega)), H', ⟨by have := HJ4.out; have := HK2.out; omega⟩, ⟨by (with_reducible repeat (first | refine blk_drewN ?_ _ | refine blk_drew ?_ | refine blk_alloc ?_ _)); exact BK367.out⟩, ⟨by repeat (first | (with_reducible first | exact HB.out | apply below_alloc | apply pw_below_drewN | apply below_drew1 | refine below_set ?_ GE367.out) | exact HB.out)⟩⟩
      ·rw [if_neg c24] at H
       have c24b0 : decide (x9_2 < a2) = false := decide_eq_false c24
       clear c24
       obtain rfl := Option.some.inj H
       go_wp2
       go_ret
       exact ⟨by first | rfl | (simp [errW_none, errW_some] <;> rfl) | (simp [*, errW_none, errW_some] <;> rfl), by repeat (first | (with_reducible first | exact HB.out | apply below_alloc | apply pw_below_drewN | apply below_drew1 | refine below_set ?_ GE367.out) | exact HB.out)⟩
   ·replace c23 := Bool.eq_false_iff.mpr c23
    subst c23
    have H1 : (if (l1.length : Int) = a2 then (some 0) else (flagstonelaw41_population_misses.l1 kj4 l1 a2 0 0 l0_0 a0_1 a0_2 a0_3 a0_4 a0_5 a0_6)) = some r := by rw [if_neg (show ¬ (false = true) by decide)] at H; exact H
    clear H
    have H := H1
    clear H1
    by_cases c26 : (l1.length : Int) = a2
    ·rw [if_pos c26] at H
     have c26b0 : ((l1.length : Int) == a2) = true := beq_iff_eq.mpr c26
     have c26b1 : ((l1.length : Int) != a2) = false := bne_eq_false_iff_eq.mpr c26
     clear c26
     obtain rfl := Option.some.inj H
     go_wp2
     go_ret
     exact ⟨by first | rfl | (simp [errW_none, errW_some] <;> rfl) | (simp [*, errW_none, errW_some] <;> rfl), by repeat (first | (with_reducible first | exact HB.out | apply below_alloc | apply pw_below_drewN | apply below_drew1 | refine below_set ?_ GE367.out) | exact HB.out)⟩
    ·rw [if_neg c26] at H
     have c26b0 : ((l1.length : Int) == a2) = false := beq_eq_false_iff_ne.mpr c26
     have c26b1 : ((l1.length : Int) != a2) = true := bne_iff_ne.mpr c26
     have H' := Aside0.mk H
     clear H
     go_wp2
     go_loopg [10, 11] kj4 (fun kq v10 v11 w' => ∃ (x10_2 : Int) (x11_2 : Int), v10 = .int .i64 x10_2 ∧ v11 = .int .i64 x11_2 ∧ Aside0 (flagstonelaw41_population_misses.l1 kq l1 a2 x10_2 x11_2 l0_0 a0_1 a0_2 a0_3 a0_4 a0_5 a0_6 = some r) ∧ Aside0 (kq ≤ kj4) ∧ Aside0 (w'.heap[gb367]? = some (.cells #[(.slice A0_0 l0_0.length c0_0), .int .i64 a0_1, .int .i64 a0_2, .int .i64 a0_3, .int .i64 a0_4, .int .i64 a0_5, .bool a0_6] 39 (0, 0))) ∧ Aside0 (Below w.heap.size w w'))
     case atStart => exact ⟨(0), (0), (by first | rfl | (simp; done) | (simp [*]; done) | exact congrArg (Value.int _) (by unfold wrap64; omega)), (by first | rfl | (simp; done) | (simp [*]; done) | exact congrArg (Value.int _) (by unfold wrap64; omega)), H', ⟨Nat.le_refl _⟩, ⟨by (with_reducible repeat (first | refine blk_drewN ?_ _ | refine blk_drew ?_ | refine blk_alloc ?_ _)); exact BK367.out⟩, ⟨by repeat (first | (with_reducible first | exact HB.out | apply below_alloc | apply pw_below_drewN | apply below_drew1 | refine below_set ?_ GE367.out) | exact HB.out)⟩⟩
     case round =>
      clear H'
      try clear c1
      try clear c2
      try clear p2
      try clear c3
      try clear p6
      try clear c14
      try clear c14b0
      try clear c17
      try clear c18
      try clear c20
      try clear c23
      try clear c24
      try clear c24b0
      try clear c26
      try clear c26b0
      try clear c26b1
      try clear hcz10_0
      try clear hcz10_1
      try clear hcz10_2
      try clear hcz10_3
      try clear hcz10_4
      try clear hcz10_5
      try clear hcz10_6
      try clear hcz25_0
      try clear hcz25_1
      try clear hcz25_2
      try clear hcz25_3
      try clear hcz25_4
      try clear hcz25_5
      try clear hcz25_6
      try clear hcz7_0
      try clear hcz7_1
      try clear hcz7_2
      try clear hcz7_3
      try clear hcz7_4
      try clear hcz7_5
      try clear hcz7_6
      try clear hfz10_0
      try clear hfz10_1
      try clear hfz10_2
      try clear hfz10_3
      try clear hfz10_4
      try clear hfz10_5
      try clear hfz10_6
      try clear hfz25_0
      try clear hfz25_1
      try clear hfz25_2
      try clear hfz25_3
      try clear hfz25_4
      try clear hfz25_5
      try clear hfz25_6
      try clear hfz7_0
      try clear hfz7_1
      try clear hfz7_2
      try clear hfz7_3
      try clear hfz7_4
      try clear hfz7_5
      try clear hfz7_6
      try clear p2
      try clear p6
      obtain ⟨x10_2, x11_2, rfl, rfl, HA, HK2, BK367, HB⟩ := hrel
      cases gk with
      | zero => exact absurd HA.out (by simp [flagstonelaw41_population_misses.l1])
      | succ k2 =>
       have H := HA.out
       clear HA
       simp only [flagstonelaw41_population_misses.l1] at H
       by_cases c27 : x11_2 < (l0_0.length : Int)
       ·rw [if_pos c27] at H
        have c27b0 : decide (x11_2 < (l0_0.length : Int)) = true := decide_eq_true c27
        clear c27
        by_cases c28 : 0 ≤ x11_2
        ·rw [if_pos c28] at H
         have c28b0 : decide (0 ≤ x11_2) = true := decide_eq_true c28
         clear c28
         have H' := Aside0.mk H
         clear H
         have hcz29_0 : wr.cell? ⟨gb367, 0, none⟩ = some (.slice A0_0 l0_0.length c0_0) := (blk_cell BK367.out 0).trans rfl
         have hcz29_1 : wr.cell? ⟨gb367, 1, none⟩ = some (.int .i64 a0_1) := (blk_cell BK367.out 1).trans rfl
         have hcz29_2 : wr.cell? ⟨gb367, 2, none⟩ = some (.int .i64 a0_2) := (blk_cell BK367.out 2).trans rfl
         have hcz29_3 : wr.cell? ⟨gb367, 3, none⟩ = some (.int .i64 a0_3) := (blk_cell BK367.out 3).trans rfl
         have hcz29_4 : wr.cell? ⟨gb367, 4, none⟩ = some (.int .i64 a0_4) := (blk_cell BK367.out 4).trans rfl
         have hcz29_5 : wr.cell? ⟨gb367, 5, none⟩ = some (.int .i64 a0_5) := (blk_cell BK367.out 5).trans rfl
         have hcz29_6 : wr.cell? ⟨gb367, 6, none⟩ = some (.bool a0_6) := (blk_cell BK367.out 6).trans rfl
         have hfz29_0 := blk_frozen BK367.out 0
         have hfz29_1 := blk_frozen BK367.out 1
         have hfz29_2 := blk_frozen BK367.out 2
         have hfz29_3 := blk_frozen BK367.out 3
         have hfz29_4 := blk_frozen BK367.out 4
         have hfz29_5 := blk_frozen BK367.out 5
         have hfz29_6 := blk_frozen BK367.out 6
         have p376 : 0 ≤ (x11_2 : Int) := of_decide_eq_true (by first | (with_reducible assumption) | assumption)
         have q376 : x11_2 < (l0_0.length : Int) := of_decide_eq_true (by first | (with_reducible assumption) | assumption)
         obtain ⟨ad376, e376, hx376_0, hx376_1, hx376_2, hx376_3⟩ := at_T36 HR0_0.out x11_2 p376 q376
         cases e376
         replace hx376_0 := (HB.out.cell (World.block_lt_of_cell? w _ hx376_0)).trans hx376_0
         replace hx376_1 := (HB.out.cell (World.block_lt_of_cell? w _ hx376_1)).trans hx376_1
         replace hx376_2 := (HB.out.cell (World.block_lt_of_cell? w _ hx376_2)).trans hx376_2
         replace hx376_3 := (HB.out.cell (World.block_lt_of_cell? w _ hx376_3)).trans hx376_3
         replace p376 := eq_true p376
         replace q376 := eq_true q376
         go_wp2_with (first | ((with_reducible refine gate_dst (N := 12) rfl ?_); refine box_event ?hg (N := 12) ?hd (cs := #[.int .u8 0, .int .u8 0, .int .u8 0, .int .u8 0]) (t := 36) ?hr ?_; (case hd => rfl); (case hg => rfl); (case hr => first | (go_simp; done) | (go_simp; rfl)); intro gb377 hg w30 hbox hb; have n0_ := Aside0.mk (blk_below (g := gb367) (o := .cells #[.slice (some ad376) l0_0.length c0_0, .int .i64 a0_1, .int .i64 a0_2, .int .i64 a0_3, .int .i64 a0_4, .int .i64 a0_5, .bool a0_6] 39 (0, 0)) (by (with_reducible repeat (first | refine blk_drewN ?_ _ | refine blk_drew ?_ | refine blk_alloc ?_ _)); exact BK367.out) hb); have n1_ := Aside0.mk (below_step (by repeat (first | (with_reducible first | exact HB.out | apply below_alloc | apply pw_below_drewN | apply below_drew1 | refine below_set ?_ GE367.out) | exact HB.out)) hb); have n2_ := Aside0.mk (hbox); have n3_ := Aside0.mk ((by rw [hg]; exact (below_size (by repeat (first | (with_reducible first | exact HB.out | apply below_alloc | apply pw_below_drewN | apply below_drew1 | refine below_set ?_ GE367.out) | exact HB.out))) : w.heap.size ≤ gb377)); have n4_ := Aside0.mk ((by rw [hg]; exact (below_size (by repeat (first | (with_reducible first | exact HB.out | apply below_alloc | apply pw_below_drewN | apply below_drew1 | refine below_set ?_ GE367.out) | exact HB.out))) : w.heap.size ≤ gb377)); have n5_ := Aside0.mk ((by rw [hg]; exact Nat.ne_of_lt (blk_lt (g := gb367) (o := .cells #[.slice (some ad376) l0_0.length c0_0, .int .i64 a0_1, .int .i64 a0_2, .int .i64 a0_3, .int .i64 a0_4, .int .i64 a0_5, .bool a0_6] 39 (0, 0)) (by (with_reducible repeat (first | refine blk_drewN ?_ _ | refine blk_drew ?_ | refine blk_alloc ?_ _)); exact BK367.out)) : gb367 ≠ gb377)); have n6_ := Aside0.mk ((by rw [hg]; exact Nat.ne_of_gt (blk_lt (g := gb367) (o := .cells #[.slice (some ad376) l0_0.length c0_0, .int .i64 a0_1, .int .i64 a0_2, .int .i64 a0_3, .int .i64 a0_4, .int .i64 a0_5, .bool a0_6] 39 (0, 0)) (by (with_reducible repeat (first | refine blk_drewN ?_ _ | refine blk_drew ?_ | refine blk_alloc ?_ _)); exact BK367.out)) : gb377 ≠ gb367)); clear BK367; clear HB; have BK367 := n0_; have HB := n1_; have BK377 := n2_; have GW377 := n3_; have GE377 := n4_; have NB367_377 := n5_; have NB377_367 := n6_; clear n0_ n1_ n2_ n3_ n4_ n5_ n6_; clear hb hbox hg; have hnb31 := NB377_367.out; have hnc31 := NB367_377.out; have hcz32_0 : w30.cell? ⟨gb377, 0, none⟩ = some (.int .u8 0) := (blk_cell BK377.out 0).trans rfl; have hcz32_1 : w30.cell? ⟨gb377, 1, none⟩ = some (.int .u8 0) := (blk_cell BK377.out 1).trans rfl; have hcz32_2 : w30.cell? ⟨gb377, 2, none⟩ = some (.int .u8 0) := (blk_cell BK377.out 2).trans rfl; have hcz32_3 : w30.cell? ⟨gb377, 3, none⟩ = some (.int .u8 0) := (blk_cell BK377.out 3).trans rfl; have hfz32_0 := blk_frozen BK377.out 0; have hfz32_1 := blk_frozen BK377.out 1; have hfz32_2 := blk_frozen BK377.out 2; have hfz32_3 := blk_frozen BK377.out 3))
         go_loopg [10, 13] k2 (fun kq v10 v13 w' => ∃ (x10_3 : Int) (x13_3 : Int), v10 = .int .i64 x10_3 ∧ v13 = .int .i64 x13_3 ∧ Aside0 (flagstonelaw41_population_misses.l2 kq l1 a2 x10_3 x11_2 x13_3 l0_0 a0_1 a0_2 a0_3 a0_4 a0_5 a0_6 ((rd_T36 l0_0 x11_2).f0) ((rd_T36 l0_0 x11_2).f1) ((rd_T36 l0_0 x11_2).f2) ((rd_T36 l0_0 x11_2).f3) = some r) ∧ Aside0 (kq ≤ k2) ∧ Aside0 (w'.heap[gb367]? = some (.cells #[(.slice (some ad376) l0_0.length c0_0), .int .i64 a0_1, .int .i64 a0_2, .int .i64 a0_3, .int .i64 a0_4, .int .i64 a0_5, .bool a0_6] 39 (0, 0))) ∧ Aside0 (w'.heap[gb377]? = some (.cells #[.int .u8 ((rd_T36 l0_0 x11_2).f0), .int .u8 ((rd_T36 l0_0 x11_2).f1), .int .u8 ((rd_T36 l0_0 x11_2).f2), .int .u8 ((rd_T36 l0_0 x11_2).f3)] 36 (0, 0))) ∧ Aside0 (Below w.heap.size w w'))
         case atStart => exact ⟨(x10_2), (1), (by first | rfl | (simp; done) | (simp [*]; done) | exact congrArg (Value.int _) (by unfold wrap64; omega)), (by first | rfl | (simp; done) | (simp [*]; done) | exact congrArg (Value.int _) (by unfold wrap64; omega)), H', ⟨Nat.le_refl _⟩, ⟨by (with_reducible repeat (first | refine blk_drewN ?_ _ | refine blk_drew ?_ | refine blk_alloc ?_ _)); refine blk_far ?_ NB367_377.out _; (with_reducible repeat (first | refine blk_drewN ?_ _ | refine blk_drew ?_ | refine blk_alloc ?_ _)); refine blk_far ?_ NB367_377.out _; (with_reducible repeat (first | refine blk_drewN ?_ _ | refine blk_drew ?_ | refine blk_alloc ?_ _)); refine blk_far ?_ NB367_377.out _; (with_reducible repeat (first | refine blk_drewN ?_ _ | refine blk_drew ?_ | refine blk_alloc ?_ _)); refine blk_far ?_ NB367_377.out _; (with_reducible repeat (first | refine blk_drewN ?_ _ | refine blk_drew ?_ | refine blk_alloc ?_ _)); exact BK367.out⟩, ⟨by (with_reducible repeat (first | refine blk_drewN ?_ _ | refine blk_drew ?_ | refine blk_alloc ?_ _)); refine blk_put (cs := #[.int .u8 ((rd_T36 l0_0 x11_2).f0), .int .u8 ((rd_T36 l0_0 x11_2).f1), .int .u8 ((rd_T36 l0_0 x11_2).f2), .int .u8 0]) ?_ 3 _ rfl; (with_reducible repeat (first | refine blk_drewN ?_ _ | refine blk_drew ?_ | refine blk_alloc ?_ _)); refine blk_put (cs := #[.int .u8 ((rd_T36 l0_0 x11_2).f0), .int .u8 ((rd_T36 l0_0 x11_2).f1), .int .u8 0, .int .u8 0]) ?_ 2 _ rfl; (with_reducible repeat (first | refine blk_drewN ?_ _ | refine blk_drew ?_ | refine blk_alloc ?_ _)); refine blk_put (cs := #[.int .u8 ((rd_T36 l0_0 x11_2).f0), .int .u8 0, .int .u8 0, .int .u8 0]) ?_ 1 _ rfl; (with_reducible repeat (first | refine blk_drewN ?_ _ | refine blk_drew ?_ | refine blk_alloc ?_ _)); refine blk_put (cs := #[.int .u8 0, .int .u8 0, .int .u8 0, .int .u8 0]) ?_ 0 _ rfl; (with_reducible repeat (first | refine blk_drewN ?_ _ | refine blk_drew ?_ | refine blk_alloc ?_ _)); exact BK377.out⟩, ⟨by repeat (first | (with_reducible first | exact HB.out | apply below_alloc | apply pw_below_drewN | apply below_drew1 | refine below_set ?_ GE367.out | refine below_set ?_ GE377.out) | exact HB.out)⟩⟩
         case round =>
          clear H'
          try clear c1
          try clear c2
          try clear p2
          try clear c3
          try clear p3
          try clear q3
          try clear hx3
          try clear p6
          try clear c14
          try clear c14b0
          try clear c17
          try clear c18
          try clear c20
          try clear c23
          try clear c24
          try clear c24b0
          try clear c26
          try clear c26b0
          try clear c26b1
          try clear c27
          try clear c27b0
          try clear c28
          try clear c28b0
          try clear c31
          try clear hcz10_0
          try clear hcz10_1
          try clear hcz10_2
          try clear hcz10_3
          try clear hcz10_4
          try clear hcz10_5
          try clear hcz10_6
          try clear hcz25_0
          try clear hcz25_1
          try clear hcz25_2
          try clear hcz25_3
          try clear hcz25_4
          try clear hcz25_5
          try clear hcz25_6
          try clear hcz29_0
          try clear hcz29_1
          try clear hcz29_2
          try clear hcz29_3
          try clear hcz29_4
          try clear hcz29_5
          try clear hcz29_6
          try clear hcz32_0
          try clear hcz32_1
          try clear hcz32_2
          try clear hcz32_3
          try clear hcz7_0
          try clear hcz7_1
          try clear hcz7_2
          try clear hcz7_3
          try clear hcz7_4
          try clear hcz7_5
          try clear hcz7_6
          try clear hfz10_0
          try clear hfz10_1
          try clear hfz10_2
          try clear hfz10_3
          try clear hfz10_4
          try clear hfz10_5
          try clear hfz10_6
          try clear hfz25_0
          try clear hfz25_1
          try clear hfz25_2
          try clear hfz25_3
          try clear hfz25_4
          try clear hfz25_5
          try clear hfz25_6
          try clear hfz29_0
          try clear hfz29_1
          try clear hfz29_2
          try clear hfz29_3
          try clear hfz29_4
          try clear hfz29_5
          try clear hfz29_6
          try clear hfz32_0
          try clear hfz32_1
          try clear hfz32_2
          try clear hfz32_3
          try clear hfz7_0
          try clear hfz7_1
          try clear hfz7_2
          try clear hfz7_3
          try clear hfz7_4
          try clear hfz7_5
          try clear hfz7_6
          try clear hx376_0
          try clear hx376_1
          try clear hx376_2
          try clear hx376_3
          try clear p2
          try clear p376
          try clear p6
          try clear q376
          obtain ⟨x10_3, x13_3, rfl, rfl, HA, HK3, BK367, BK377, HB⟩ := hrel
          cases gk with
          | zero => exact absurd HA.out (by simp [flagstonelaw41_population_misses.l2])
          | succ k3 =>
           have H := HA.out
           clear HA
           simp only [flagstonelaw41_population_misses.l2] at H
           by_cases c33 : x13_3 ≤ 2
           ·rw [if_pos c33] at H
            have c33b0 : decide (x13_3 ≤ 2) = true := decide_eq_true c33
            clear c33
            by_cases c34 : x13_3 = 2
            ·rw [if_pos c34] at H
             have c34b0 : (x13_3 == 2) = true := beq_iff_eq.mpr c34
             have c34b1 : (x13_3 != 2) = false := bne_eq_false_iff_eq.mpr c34
             clear c34
             obtain ⟨y378, hy378⟩ : ∃ y_ : List (S70), y_ = (([] : List (S70))) := ⟨_, rfl⟩
             replace H : (if y378.length + l1.length < 1466015503701 then ((some (y378 ++ l1 : List (S70))).bind fun y381 => ((some (([(⟨(⟨(⟨#[]⟩ : ByteArray), (⟨#[]⟩ : ByteArray), 0, 0, x13_3, 1⟩ : S68), Int.tmod (wrap64 (((rd_T36 l0_0 x11_2).f3))) 21, 0, Int.tmod (wrap64 (((rd_T36 l0_0 x11_2).f1))) 3, false⟩ : S70)] : List (S70)) : List (S70))).bind fun y384 => (if y381.length + y384.length < 1466015503701 then ((flagstonelaw41_population_misses.f k3 l0_0 a0_1 a0_2 a0_3 a0_4 a0_5 a0_6 (y381 ++ y384) a2).bind fun t390 => (flagstonelaw41_population_misses.l2 k3 l1 a2 (wrap64 (x10_3 + (wrap64 ((wrap64 (a0_3 * (wrap64 (1 + (Int.tmod (wrap64 (((rd_T36 l0_0 x11_2).f0))) 3))))) * t390)))) x11_2 (wrap64 (x13_3 + 1)) l0_0 a0_1 a0_2 a0_3 a0_4 a0_5 a0_6 ((rd_T36 l0_0 x11_2).f0) ((rd_T36 l0_0 x11_2).f1) ((rd_T36 l0_0 x11_2).f2) ((rd_T36 l0_0 x11_2).f3))) else (none)))) else (none)) = some r := by first | (rw [hy378]; with_reducible exact H) | (have H2_ := (Option.bind_some _ _).symm.trans H; rw [hy378]; with_reducible exact H2_) | (have H2_ := (Option.bind_some _ _).symm.trans H; with_reducible exact H2_) | with_reducible exact H | (rw [hy378]; exact H) | exact H
             have Ny378 := Aside0.mk hy378
             clear hy378
             by_cases c35 : y378.length + l1.length < 1466015503701
             ·rw [if_pos c35] at H
              have LMc35 := Aside0.mk c35
              clear c35
              obtain ⟨y381, hy381⟩ : ∃ y_ : List (S70), y_ = (y378 ++ l1) := ⟨_, rfl⟩
              replace H : ((some (([(⟨(⟨(⟨#[]⟩ : ByteArray), (⟨#[]⟩ : ByteArray), 0, 0, x13_3, 1⟩ : S68), Int.tmod (wrap64 (((rd_T36 l0_0 x11_2).f3))) 21, 0, Int.tmod (wrap64 (((rd_T36 l0_0 x11_2).f1))) 3, false⟩ : S70)] : List (S70)) : List (S70))).bind fun y384 => (if y381.length + y384.length < 1466015503701 then ((flagstonelaw41_population_misses.f k3 l0_0 a0_1 a0_2 a0_3 a0_4 a0_5 a0_6 (y381 ++ y384) a2).bind fun t390 => (flagstonelaw41_population_misses.l2 k3 l1 a2 (wrap64 (x10_3 + (wrap64 ((wrap64 (a0_3 * (wrap64 (1 + (Int.tmod (wrap64 (((rd_T36 l0_0 x11_2).f0))) 3))))) * t390)))) x11_2 (wrap64 (x13_3 + 1)) l0_0 a0_1 a0_2 a0_3 a0_4 a0_5 a0_6 ((rd_T36 l0_0 x11_2).f0) ((rd_T36 l0_0 x11_2).f1) ((rd_T36 l0_0 x11_2).f2) ((rd_T36 l0_0 x11_2).f3))) else (none))) = some r := by first | (rw [hy381]; with_reducible exact H) | (have H2_ := (Option.bind_some _ _).symm.trans H; rw [hy381]; with_reducible exact H2_) | (have H2_ := (Option.bind_some _ _).symm.trans H; with_reducible exact H2_) | with_reducible exact H | (rw [hy381]; exact H) | exact H
              have Ny381 := Aside0.mk hy381
              clear hy381
              obtain ⟨y384, hy384⟩ : ∃ y_ : List (S70), y_ = (([(⟨(⟨(⟨#[]⟩ : ByteArray), (⟨#[]⟩ : ByteArray), 0, 0, x13_3, 1⟩ : S68), Int.tmod (wrap64 (((rd_T36 l0_0 x11_2).f3))) 21, 0, Int.tmod (wrap64 (((rd_T36 l0_0 x11_2).f1))) 3, false⟩ : S70)] : List (S70))) := ⟨_, rfl⟩
              replace H : (if y381.length + y384.length < 1466015503701 then ((flagstonelaw41_population_misses.f k3 l0_0 a0_1 a0_2 a0_3 a0_4 a0_5 a0_6 (y381 ++ y384) a2).bind fun t390 => (flagstonelaw41_population_misses.l2 k3 l1 a2 (wrap64 (x10_3 + (wrap64 ((wrap64 (a0_3 * (wrap64 (1 + (Int.tmod (wrap64 (((rd_T36 l0_0 x11_2).f0))) 3))))) * t390)))) x11_2 (wrap64 (x13_3 + 1)) l0_0 a0_1 a0_2 a0_3 a0_4 a0_5 a0_6 ((rd_T36 l0_0 x11_2).f0) ((rd_T36 l0_0 x11_2).f1) ((rd_T36 l0_0 x11_2).f2) ((rd_T36 l0_0 x11_2).f3))) else (none)) = some r := by first | (rw [hy384]; with_reducible exact H) | (have H2_ := (Option.bind_some _ _).symm.trans H; rw [hy384]; with_reducible exact H2_) | (have H2_ := (Option.bind_some _ _).symm.trans H; with_reducible exact H2_) | with_reducible exact H | (rw [hy384]; exact H) | exact H
              have Ny384 := Aside0.mk hy384
              clear hy384
              by_cases c36 : y381.length + y384.length < 1466015503701
              ·rw [if_pos c36] at H
               have LMc36 := Aside0.mk c36
               clear c36
               obtain ⟨y387, hy387⟩ : ∃ y_ : List (S70), y_ = (y381 ++ y384) := ⟨_, rfl⟩
               replace H : ((flagstonelaw41_population_misses.f k3 l0_0 a0_1 a0_2 a0_3 a0_4 a0_5 a0_6 y387 a2).bind fun t390 => (flagstonelaw41_population_misses.l2 k3 l1 a2 (wrap64 (x10_3 + (wrap64 ((wrap64 (a0_3 * (wrap64 (1 + (Int.tmod (wrap64 (((rd_T36 l0_0 x11_2).f0))) 3))))) * t390)))) x11_2 (wrap64 (x13_3 + 1)) l0_0 a0_1 a0_2 a0_3 a0_4 a0_5 a0_6 ((rd_T36 l0_0 x11_2).f0) ((rd_T36 l0_0 x11_2).f1) ((rd_T36 l0_0 x11_2).f2) ((rd_T36 l0_0 x11_2).f3))) = some r := by first | (rw [hy387]; with_reducible exact H) | (have H2_ := (Option.bind_some _ _).symm.trans H; rw [hy387]; with_reducible exact H2_) | (have H2_ := (Option.bind_some _ _).symm.trans H; with_reducible exact H2_) | with_reducible exact H | (rw [hy387]; exact H) | exact H
               have Ny387 := Aside0.mk hy387
               clear hy387
               replace H := Option.bind_eq_some_iff.mp H
               obtain ⟨t390, A370, H⟩ := H
               replace H : (flagstonelaw41_population_misses.l2 k3 l1 a2 (wrap64 (x10_3 + (wrap64 ((wrap64 (a0_3 * (wrap64 (1 + (Int.tmod (wrap64 (((rd_T36 l0_0 x11_2).f0))) 3))))) * t390)))) x11_2 (wrap64 (x13_3 + 1)) l0_0 a0_1 a0_2 a0_3 a0_4 a0_5 a0_6 ((rd_T36 l0_0 x11_2).f0) ((rd_T36 l0_0 x11_2).f1) ((rd_T36 l0_0 x11_2).f2) ((rd_T36 l0_0 x11_2).f3)) = some r := H
               have A37 := Aside0.mk A370
               clear A370
               have H' := Aside0.mk H
               clear H
               try go_wp2
               have n0_ := Aside0.mk (blk_drew BK367.out)
               have n1_ := Aside0.mk (blk_drew BK377.out)
               have n2_ := Aside0.mk (below_drew1 HB.out)
               clear BK367
               clear BK377
               clear HB
               have BK367 := n0_
               have BK377 := n1_
               have HB := n2_
               clear n0_ n1_ n2_
               refine start_ (n := 8) (S := fun w' => w'.cell? ⟨gb377, 0, none⟩ = some (.int .u8 ((rd_T36 l0_0 x11_2).f0)) ∧ w'.cell? ⟨gb377, 1, none⟩ = some (.int .u8 ((rd_T36 l0_0 x11_2).f1)) ∧ w'.cell? ⟨gb377, 2, none⟩ = some (.int .u8 ((rd_T36 l0_0 x11_2).f2)) ∧ w'.cell? ⟨gb377, 3, none⟩ = some (.int .u8 ((rd_T36 l0_0 x11_2).f3)) ∧ w'.cell? ⟨gb367, 0, none⟩ = some (.slice (some ad376) l0_0.length c0_0) ∧ w'.cell? ⟨gb367, 1, none⟩ = some (.int .i64 a0_1) ∧ w'.cell? ⟨gb367, 2, none⟩ = some (.int .i64 a0_2) ∧ w'.cell? ⟨gb367, 3, none⟩ = some (.int .i64 a0_3) ∧ w'.cell? ⟨gb367, 4, none⟩ = some (.int .i64 a0_4) ∧ w'.cell? ⟨gb367, 5, none⟩ = some (.int .i64 a0_5) ∧ w'.cell? ⟨gb367, 6, none⟩ = some (.bool a0_6)) (ds := []) #[false, false, false, false, false, false, false, false] (by kernel_rfl) rfl rfl ⟨(blk_cell BK377.out 0).trans rfl, (blk_cell BK377.out 1).trans rfl, (blk_cell BK377.out 2).trans rfl, (blk_cell BK377.out 3).trans rfl, (blk_cell BK367.out 0).trans rfl, (blk_cell BK367.out 1).trans rfl, (blk_cell BK367.out 2).trans rfl, (blk_cell BK367.out 3).trans rfl, (blk_cell BK367.out 4).trans rfl, (blk_cell BK367.out 5).trans rfl, (blk_cell BK367.out 6).trans rfl⟩ (fun hHeld => ?_); refine with_tabW flagstonelaw41_population_misses.tab19 flagstonelaw41_population_misses.bits19 (fun HT_ HW_ => ?_)
               generalize wr.drew = w38 at BK367 BK377 HB hHeld ⊢
               refine pure_ (i := 0) (N := some 81) (v := ?_) (a' := ?_) #[true, false, false, false, false, false, false, false] rfl rfl (any_of HT_.out (by kernel_rfl)) (fun _ _ _ h => h) (Or.inl ⟨by rfl, ?_⟩) ?_ ?_
               rotate_left
               ·intro w'
                go_simp
                with_reducible rfl
               rotate_left
               ·simp only [Act.put, List.setIfInBounds_toArray, List.set_cons_zero, List.set_cons_succ, i64_w, i32_w]
                rfl
               refine pure_ (i := 4) (N := some 85) (v := ?_) (a' := ?_) #[true, false, false, false, true, false, false, false] rfl rfl (any_of HT_.out (by kernel_rfl)) (fun _ _ _ h => h) (Or.inl ⟨by rfl, ?_⟩) ?_ ?_
               rotate_left
               ·intro w'
                go_simp
                with_reducible rfl
               rotate_left
               ·simp only [Act.put, List.setIfInBounds_toArray, List.set_cons_zero, List.set_cons_succ, i64_w, i32_w]
                rfl
               refine take_ (i := 1) (N := some 82) (v := ?_) (a' := ?_) #[true, true, false, false, true, false, false, false] rfl rfl (take_ofW HT_.out HW_.out (by kernel_rfl)) (fun _ _ _ h => h) (Or.inl ⟨by rfl, ?_⟩) hHeld ?_ ?_
               rotate_left
               ·rintro w' ⟨s0, s1, s2, s3, s4, s5, s6, s7, s8, s9, s10⟩
                go_simp
                with_reducible rfl
               rotate_left
               ·simp only [Act.put, List.setIfInBounds_toArray, List.set_cons_zero, List.set_cons_succ, i64_w, i32_w]
                rfl
               refine pure_ (i := 2) (N := some 83) (v := ?_) (a' := ?_) #[true, true, true, false, true, false, false, false] rfl rfl (any_of HT_.out (by kernel_rfl)) (fun _ _ _ h => h) (Or.inl ⟨by rfl, ?_⟩) ?_ ?_
               rotate_left
               ·intro w'
                go_simp
                with_reducible rfl
               rotate_left
               ·simp only [Act.put, List.setIfInBounds_toArray, List.set_cons_zero, List.set_cons_succ, i64_w, i32_w]
                rfl
               refine pure_ (i := 3) (N := some 84) (v := ?_) (a' := ?_) #[true, true, true, true, true, false, false, false] rfl rfl (any_of HT_.out (by kernel_rfl)) (fun _ _ _ h => h) (Or.inl ⟨by rfl, ?_⟩) ?_ ?_
               rotate_left
               ·intro w'
                go_simp
                with_reducible rfl
               rotate_left
               ·simp only [Act.put, List.setIfInBounds_toArray, List.set_cons_zero, List.set_cons_succ, i64_w, i32_w]
                rfl
               refine pure_ (i := 6) (N := some 14) (v := ?_) (a' := ?_) #[true, true, true, true, true, false, true, false] rfl rfl (any_of HT_.out (by kernel_rfl)) (fun _ _ _ h => h) (Or.inl ⟨by rfl, ?_⟩) ?_ ?_
               rotate_left
               ·intro w'
                go_simp
                with_reducible rfl
               rotate_left
               ·simp only [Act.put, List.setIfInBounds_toArray, List.set_cons_zero, List.set_cons_succ, i64_w, i32_w]
                rfl
               refine take_ (i := 5) (N := some 86) (v := ?_) (a' := ?_) #[true, true, true, true, true, true, true, false] rfl rfl (take_ofW HT_.out HW_.out (by kernel_rfl)) (fun _ _ _ h => h) (Or.inl ⟨by rfl, ?_⟩) hHeld ?_ ?_
               rotate_left
               ·rintro w' ⟨s0, s1, s2, s3, s4, s5, s6, s7, s8, s9, s10⟩
                go_simp
                with_reducible rfl
               rotate_left
               ·simp only [Act.put, List.setIfInBounds_toArray, List.set_cons_zero, List.set_cons_succ, i64_w, i32_w]
                rfl
               refine pure_ (i := 7) (N := some 15) (v := ?_) (a' := ?_) #[true, true, true, true, true, true, true, true] rfl rfl (any_of HT_.out (by kernel_rfl)) (fun _ _ _ h => h) (Or.inl ⟨by rfl, ?_⟩) ?_ ?_
               rotate_left
               ·intro w'
                go_simp
                with_reducible rfl
               rotate_left
               ·simp only [Act.put, List.setIfInBounds_toArray, List.set_cons_zero, List.set_cons_succ, i64_w, i32_w]
                rfl
               refine done_ (done_of HT_.out (by kernel_rfl)) ?_
               try go_wp2
               have n0_ := Aside0.mk (blk_drew BK367.out)
               have n1_ := Aside0.mk (blk_drew BK377.out)
               have n2_ := Aside0.mk (below_drew1 HB.out)
               clear BK367
               clear BK377
               clear HB
               have BK367 := n0_
               have BK377 := n1_
               have HB := n2_
               clear n0_ n1_ n2_
               refine start_ (n := 8) (S := fun w' => w'.cell? ⟨gb377, 0, none⟩ = some (.int .u8 ((rd_T36 l0_0 x11_2).f0)) ∧ w'.cell? ⟨gb377, 1, none⟩ = some (.int .u8 ((rd_T36 l0_0 x11_2).f1)) ∧ w'.cell? ⟨gb377, 2, none⟩ = some (.int .u8 ((rd_T36 l0_0 x11_2).f2)) ∧ w'.cell? ⟨gb377, 3, none⟩ = some (.int .u8 ((rd_T36 l0_0 x11_2).f3)) ∧ w'.cell? ⟨gb367, 0, none⟩ = some (.slice (some ad376) l0_0.length c0_0) ∧ w'.cell? ⟨gb367, 1, none⟩ = some (.int .i64 a0_1) ∧ w'.cell? ⟨gb367, 2, none⟩ = some (.int .i64 a0_2) ∧ w'.cell? ⟨gb367, 3, none⟩ = some (.int .i64 a0_3) ∧ w'.cell? ⟨gb367, 4, none⟩ = some (.int .i64 a0_4) ∧ w'.cell? ⟨gb367, 5, none⟩ = some (.int .i64 a0_5) ∧ w'.cell? ⟨gb367, 6, none⟩ = some (.bool a0_6)) (ds := []) #[false, false, false, false, false, false, false, false] (by kernel_rfl) rfl rfl ⟨(blk_cell BK377.out 0).trans rfl, (blk_cell BK377.out 1).trans rfl, (blk_cell BK377.out 2).trans rfl, (blk_cell BK377.out 3).trans rfl, (blk_cell BK367.out 0).trans rfl, (blk_cell BK367.out 1).trans rfl, (blk_cell BK367.out 2).trans rfl, (blk_cell BK367.out 3).trans rfl, (blk_cell BK367.out 4).trans rfl, (blk_cell BK367.out 5).trans rfl, (blk_cell BK367.out 6).trans rfl⟩ (fun hHeld => ?_); refine with_tabW flagstonelaw41_population_misses.tab21 flagstonelaw41_population_misses.bits21 (fun HT_ HW_ => ?_)
               generalize w38.drew = w39 at BK367 BK377 HB hHeld ⊢
               refine pure_ (i := 0) (N := some 89) (v := ?_) (a' := ?_) #[true, false, false, false, false, false, false, false] rfl rfl (any_of HT_.out (by kernel_rfl)) (fun _ _ _ h => h) (Or.inl ⟨by rfl, ?_⟩) ?_ ?_
               rotate_left
               ·intro w'
                go_simp
                with_reducible rfl
               rotate_left
               ·simp only [Act.put, List.setIfInBounds_toArray, List.set_cons_zero, List.set_cons_succ, i64_w, i32_w]
                rfl
               refine pure_ (i := 4) (N := some 93) (v := ?_) (a' := ?_) #[true, false, false, false, true, false, false, false] rfl rfl (any_of HT_.out (by kernel_rfl)) (fun _ _ _ h => h) (Or.inl ⟨by rfl, ?_⟩) ?_ ?_
               rotate_left
               ·intro w'
                go_simp
                with_reducible rfl
               rotate_left
               ·simp only [Act.put, List.setIfInBounds_toArray, List.set_cons_zero, List.set_cons_succ, i64_w, i32_w]
                rfl
               refine take_ (i := 1) (N := some 90) (v := ?_) (a' := ?_) #[true, true, false, false, true, false, false, false] rfl rfl (take_ofW HT_.out HW_.out (by kernel_rfl)) (fun _ _ _ h => h) (Or.inl ⟨by rfl, ?_⟩) hHeld ?_ ?_
               rotate_left
               ·rintro w' ⟨s0, s1, s2, s3, s4, s5, s6, s7, s8, s9, s10⟩
                go_simp
                with_reducible rfl
               rotate_left
               ·simp only [Act.put, List.setIfInBounds_toArray, List.set_cons_zero, List.set_cons_succ, i64_w, i32_w]
                rfl
               refine pure_ (i := 2) (N := some 91) (v := ?_) (a' := ?_) #[true, true, true, false, true, false, false, false] rfl rfl (any_of HT_.out (by kernel_rfl)) (fun _ _ _ h => h) (Or.inl ⟨by rfl, ?_⟩) ?_ ?_
               rotate_left
               ·intro w'
                go_simp
                with_reducible rfl
               rotate_left
               ·simp only [Act.put, List.setIfInBounds_toArray, List.set_cons_zero, List.set_cons_succ, i64_w, i32_w]
                rfl
               refine pure_ (i := 3) (N := some 92) (v := ?_) (a' := ?_) #[true, true, true, true, true, false, false, false] rfl rfl (any_of HT_.out (by kernel_rfl)) (fun _ _ _ h => h) (Or.inl ⟨by rfl, ?_⟩) ?_ ?_
               rotate_left
               ·intro w'
                go_simp
                with_reducible rfl
               rotate_left
               ·simp only [Act.put, List.setIfInBounds_toArray, List.set_cons_zero, List.set_cons_succ, i64_w, i32_w]
                rfl
               refine pure_ (i := 6) (N := some 14) (v := ?_) (a' := ?_) #[true, true, true, true, true, false, true, false] rfl rfl (any_of HT_.out (by kernel_rfl)) (fun _ _ _ h => h) (Or.inl ⟨by rfl, ?_⟩) ?_ ?_
               rotate_left
               ·intro w'
                go_simp
                with_reducible rfl
               rotate_left
               ·simp only [Act.put, List.setIfInBounds_toArray, List.set_cons_zero, List.set_cons_succ, i64_w, i32_w]
                rfl
               refine take_ (i := 5) (N := some 94) (v := ?_) (a' := ?_) #[true, true, true, true, true, true, true, false] rfl rfl (take_ofW HT_.out HW_.out (by kernel_rfl)) (fun _ _ _ h => h) (Or.inl ⟨by rfl, ?_⟩) hHeld ?_ ?_
               rotate_left
               ·rintro w' ⟨s0, s1, s2, s3, s4, s5, s6, s7, s8, s9, s10⟩
                go_simp
                with_reducible rfl
               rotate_left
               ·simp only [Act.put, List.setIfInBounds_toArray, List.set_cons_zero, List.set_cons_succ, i64_w, i32_w]
                rfl
               refine pure_ (i := 7) (N := some 15) (v := ?_) (a' := ?_) #[true, true, true, true, true, true, true, true] rfl rfl (any_of HT_.out (by kernel_rfl)) (fun _ _ _ h => h) (Or.inl ⟨by rfl, ?_⟩) ?_ ?_
               rotate_left
               ·intro w'
                go_simp
                with_reducible rfl
               rotate_left
               ·simp only [Act.put, List.setIfInBounds_toArray, List.set_cons_zero, List.set_cons_succ, i64_w, i32_w]
                rfl
               refine done_ (done_of HT_.out (by kernel_rfl)) ?_
               try go_wp2
               have n0_ := Aside0.mk (blk_drew BK367.out)
               have n1_ := Aside0.mk (blk_drew BK377.out)
               have n2_ := Aside0.mk (below_drew1 HB.out)
               clear BK367
               clear BK377
               clear HB
               have BK367 := n0_
               have BK377 := n1_
               have HB := n2_
               clear n0_ n1_ n2_
               refine start_ (n := 14) (S := fun w' => w'.cell? ⟨gb377, 0, none⟩ = some (.int .u8 ((rd_T36 l0_0 x11_2).f0)) ∧ w'.cell? ⟨gb377, 1, none⟩ = some (.int .u8 ((rd_T36 l0_0 x11_2).f1)) ∧ w'.cell? ⟨gb377, 2, none⟩ = some (.int .u8 ((rd_T36 l0_0 x11_2).f2)) ∧ w'.cell? ⟨gb377, 3, none⟩ = some (.int .u8 ((rd_T36 l0_0 x11_2).f3))) (ds := []) #[false, false, false, false, false, false, false, false, false, false, false, false, false, false] (by kernel_rfl) rfl rfl ⟨(blk_cell BK377.out 0).trans rfl, (blk_cell BK377.out 1).trans rfl, (blk_cell BK377.out 2).trans rfl, (blk_cell BK377.out 3).trans rfl⟩ (fun hHeld => ?_); refine with_tabW flagstonelaw41_population_misses.tab22 flagstonelaw41_population_misses.bits22 (fun HT_ HW_ => ?_)
               generalize w39.drew = w40 at BK367 BK377 HB hHeld ⊢
               refine pure_ (i := 1) (N := some 96) (v := ?_) (a' := ?_) #[false, true, false, false, false, false, false, false, false, false, false, false, false, false] rfl rfl (any_of HT_.out (by kernel_rfl)) (fun _ _ _ h => h) (Or.inl ⟨by rfl, ?_⟩) ?_ ?_
               rotate_left
               ·intro w'
                go_simp
                with_reducible rfl
               rotate_left
               ·simp only [Act.put, List.setIfInBounds_toArray, List.set_cons_zero, List.set_cons_succ, i64_w, i32_w]
                rfl
               refine pure_ (i := 3) (N := some 98) (v := ?_) (a' := ?_) #[false, true, false, true, false, false, false, false, false, false, false, false, false, false] rfl rfl (any_of HT_.out (by kernel_rfl)) (fun _ _ _ h => h) (Or.inl ⟨by rfl, ?_⟩) ?_ ?_
               rotate_left
               ·intro w'
                go_simp
                with_reducible rfl
               rotate_left
               ·simp only [Act.put, List.setIfInBounds_toArray, List.set_cons_zero, List.set_cons_succ, i64_w, i32_w]
                rfl
               refine pure_ (i := 4) (N := some 99) (v := ?_) (a' := ?_) #[false, true, false, true, true, false, false, false, false, false, false, false, false, false] rfl rfl (any_of HT_.out (by kernel_rfl)) (fun _ _ _ h => h) (Or.inl ⟨by rfl, ?_⟩) ?_ ?_
               rotate_left
               ·intro w'
                go_simp
                with_reducible rfl
               rotate_left
               ·simp only [Act.put, List.setIfInBounds_toArray, List.set_cons_zero, List.set_cons_succ, i64_w, i32_w]
                rfl
               refine pure_ (i := 5) (N := some 100) (v := ?_) (a' := ?_) #[false, true, false, true, true, true, false, false, false, false, false, false, false, false] rfl rfl (any_of HT_.out (by kernel_rfl)) (fun _ _ _ h => h) (Or.inl ⟨by rfl, ?_⟩) ?_ ?_
               rotate_left
               ·intro w'
                go_simp
                with_reducible rfl
               rotate_left
               ·simp only [Act.put, List.setIfInBounds_toArray, List.set_cons_zero, List.set_cons_succ, i64_w, i32_w]
                rfl
               refine pure_ (i := 6) (N := some 101) (v := ?_) (a' := ?_) #[false, true, false, true, true, true, true, false, false, false, false, false, false, false] rfl rfl (any_of HT_.out (by kernel_rfl)) (fun _ _ _ h => h) (Or.inl ⟨by rfl, ?_⟩) ?_ ?_
               rotate_left
               ·intro w'
                go_simp
                with_reducible rfl
               rotate_left
               ·simp only [Act.put, List.setIfInBounds_toArray, List.set_cons_zero, List.set_cons_succ, i64_w, i32_w]
                rfl
               refine take_ (i := 7) (N := some 102) (v := ?_) (a' := ?_) #[false, true, false, true, true, true, true, true, false, false, false, false, false, false] rfl rfl (take_ofW HT_.out HW_.out (by kernel_rfl)) (fun _ _ _ h => h) (Or.inl ⟨by rfl, ?_⟩) hHeld ?_ ?_
               rotate_left
               ·rintro w' ⟨s0, s1, s2, s3⟩
                go_simp
                with_reducible rfl
               rotate_left
               ·simp only [Act.put, List.setIfInBounds_toArray, List.set_cons_zero, List.set_cons_succ, i64_w, i32_w]
                rfl
               refine pure_ (i := 8) (N := some 103) (v := ?_) (a' := ?_) #[false, true, false, true, true, true, true, true, true, false, false, false, false, false] rfl rfl (any_of HT_.out (by kernel_rfl)) (fun _ _ _ h => h) (Or.inl ⟨by rfl, ?_⟩) ?_ ?_
               rotate_left
               ·intro w'
                go_simp
                with_reducible rfl
               rotate_left
               ·simp only [Act.put, List.setIfInBounds_toArray, List.set_cons_zero, List.set_cons_succ, i64_w, i32_w]
                rfl
               refine pure_ (i := 9) (N := some 104) (v := ?_) (a' := ?_) #[false, true, false, true, true, true, true, true, true, true, false, false, false, false] rfl rfl (any_of HT_.out (by kernel_rfl)) (fun _ _ _ h => h) (Or.inl ⟨by rfl, ?_⟩) ?_ ?_
               rotate_left
               ·intro w'
                go_simp
                with_reducible rfl
               rotate_left
               ·simp only [Act.put, List.setIfInBounds_toArray, List.set_cons_zero, List.set_cons_succ, i64_w, i32_w]
                rfl
               refine pure_ (i := 10) (N := some 105) (v := ?_) (a' := ?_) #[false, true, false, true, true, true, true, true, true, true, true, false, false, false] rfl rfl (any_of HT_.out (by kernel_rfl)) (fun _ _ _ h => h) (Or.inl ⟨by rfl, ?_⟩) ?_ ?_
               rotate_left
               ·intro w'
                go_simp
                with_reducible rfl
               rotate_left
               ·simp only [Act.put, List.setIfInBounds_toArray, List.set_cons_zero, List.set_cons_succ, i64_w, i32_w]
                rfl
               refine join_ (σ := Value × Value × Value) 2 #[true, true, true, true, true, true, true, true, true, true, true, true, false, false] (fun s_ => [(95, s_.1), (97, s_.2.1), (106, s_.2.2)]) (fun s_ w' => (w'.cell? ⟨gb377, 0, none⟩ = some (.int .u8 ((rd_T36 l0_0 x11_2).f0)) ∧ w'.cell? ⟨gb377, 1, none⟩ = some (.int .u8 ((rd_T36 l0_0 x11_2).f1)) ∧ w'.cell? ⟨gb377, 2, none⟩ = some (.int .u8 ((rd_T36 l0_0 x11_2).f2)) ∧ w'.cell? ⟨gb377, 3, none⟩ = some (.int .u8 ((rd_T36 l0_0 x11_2).f3))) ∧ (Kd.R k70 70 w' w.heap.size (fun k_ => some k_ ≠ (s_.2.2 : Value).ownBlock) s_.2.1 y381) ∧ (Kd.R k70 70 w' w.heap.size (fun k_ => some k_ ≠ (s_.2.1 : Value).ownBlock) s_.2.2 y384) ∧ (w'.heap[gb367]? = some (.cells #[.slice (some ad376) l0_0.length c0_0, .int .i64 a0_1, .int .i64 a0_2, .int .i64 a0_3, .int .i64 a0_4, .int .i64 a0_5, .bool a0_6] 39 (0, 0))) ∧ (w'.heap[gb377]? = some (.cells #[.int .u8 ((rd_T36 l0_0 x11_2).f0), .int .u8 ((rd_T36 l0_0 x11_2).f1), .int .u8 ((rd_T36 l0_0 x11_2).f2), .int .u8 ((rd_T36 l0_0 x11_2).f3)] 36 (0, 0))) ∧ (Below w.heap.size w w')) ?_ ?_
               rotate_left
               ·intro hCont
                refine two_ (i := 0) (j := 11) (Ni := some 95) (Nj := some 106) #[true, true, false, true, true, true, true, true, true, true, true, false, false, false] #[false, true, false, true, true, true, true, true, true, true, true, true, false, false] rfl rfl rfl rfl (two_of HT_.out (by kernel_rfl)) (by decide) (by decide) (fun K hK => ?_) (fun K hK => ?_)
                ·skip
                 refine Kd.R_lit_step k70 _ 70 ?hg (N := 95) ?hd (xs := ([] : List (S70))) (inner := []) (ok := fun _ => True) (okp := fun _ => True) ?hr ?hp (fun _ hk => hk) trivial (Below.refl _ _) (Nat.le_refl _) (by simp) ?_; (case hd => rfl); (case hg => rfl); (case hr => first | (go_simp; done) | (go_simp; rfl)); (case hp => exact (Reps.none _ _))
                 intro v379 w41 ho42 hb hg_ hnew_
                 clear hg_ hnew_
                 (first | rw [← Ny378.out] at ho42 | (simp only [Int.reduceToNat] at ho42; rw [← Ny378.out] at ho42))
                 have n0_ := Aside0.mk (Kd.R_lower ho42 (below_size (by repeat (first | (with_reducible first | exact HB.out | apply below_alloc | apply pw_below_drewN | apply below_drew1 | refine below_set ?_ GE367.out | refine below_set ?_ GE377.out) | exact HB.out))))
                 have n1_ := Aside0.mk (blk_below (g := gb367) (o := .cells #[.slice (some ad376) l0_0.length c0_0, .int .i64 a0_1, .int .i64 a0_2, .int .i64 a0_3, .int .i64 a0_4, .int .i64 a0_5, .bool a0_6] 39 (0, 0)) (by (with_reducible repeat (first | refine blk_drewN ?_ _ | refine blk_drew ?_ | refine blk_alloc ?_ _)); exact BK367.out) hb)
                 have n2_ := Aside0.mk (blk_below (g := gb377) (o := .cells #[.int .u8 ((rd_T36 l0_0 x11_2).f0), .int .u8 ((rd_T36 l0_0 x11_2).f1), .int .u8 ((rd_T36 l0_0 x11_2).f2), .int .u8 ((rd_T36 l0_0 x11_2).f3)] 36 (0, 0)) (by (with_reducible repeat (first | refine blk_drewN ?_ _ | refine blk_drew ?_ | refine blk_alloc ?_ _)); exact BK377.out) hb)
                 have n3_ := Aside0.mk (below_step (by repeat (first | (with_reducible first | exact HB.out | apply below_alloc | apply pw_below_drewN | apply below_drew1 | refine below_set ?_ GE367.out | refine below_set ?_ GE377.out) | exact HB.out)) hb)
                 clear BK367
                 clear BK377
                 clear HB
                 have HO380 := n0_
                 have BK367 := n1_
                 have BK377 := n2_
                 have HB := n3_
                 clear n0_ n1_ n2_ n3_
                 clear hb ho42
                 refine hK.out _ _ ⟨(blk_cell BK377.out 0).trans rfl, (blk_cell BK377.out 1).trans rfl, (blk_cell BK377.out 2).trans rfl, (blk_cell BK377.out 3).trans rfl⟩ (fun hHeld => ?_)
                 clear hK K
                 refine norm_ (a' := ?_) ?_ ?_
                 rotate_left
                 ·show Act.put _ (some 95) _ = _
                  simp only [Act.put, List.setIfInBounds_toArray, List.set_cons_zero, List.set_cons_succ, i64_w, i32_w]
                  rfl
                 refine two_ (i := 2) (j := 11) (Ni := some 97) (Nj := some 106) #[true, true, true, true, true, true, true, true, true, true, true, false, false, false] #[true, true, false, true, true, true, true, true, true, true, true, true, false, false] rfl rfl rfl rfl (two_of HT_.out (by kernel_rfl)) (by decide) (by decide) (fun K hK => ?_) (fun K hK => ?_)
                 ·skip
                  refine Kd.R_append_rows_step k70 (w0 := w) w.heap.size (by rfl) (.tmp 95) (.tmp 96) 62 70 (.agg #[(.string ⟨#[]⟩), (.string ⟨#[]⟩), (.int .i64 0), (.int .i64 0), (.int .i64 0), (.int .i64 0), (.int .i64 0), (.int .i64 0), (.int .i64 0), (.bool false)]) 96 rfl Try.underlying62 info70 rfl (by decide) (by omega) v379 y378 l1 _ _ _ (fun _ => True) (fun _ => False) rfl rfl ?aO ?aR (fun _ _ h => h) (fun _ h => h.elim) ?aF ?aB ?aS ?aL ?_
                  (case aR => repeat (first | exact (Kd.C_below HR1.out HB.out) | (with_reducible refine Kd.C_alloc ?_ _) | (with_reducible refine Kd.C_drewN ?_ _) | (with_reducible refine Kd.C_drew ?_)))
                  (case aB => exact (by repeat (first | (with_reducible first | exact HB.out | apply below_alloc | apply pw_below_drewN | apply below_drew1 | refine below_set ?_ GE367.out | refine below_set ?_ GE377.out) | exact HB.out)))
                  (case aF => exact (fun _ _ => trivial))
                  (case aO => exact (by (with_reducible repeat (first | apply Kd.R_alloc | apply Kd.R_drewN | apply Kd.R_drew)); exact HO380.out))
                  (case aS => exact (below_size (by repeat (first | (with_reducible first | exact HB.out | apply below_alloc | apply pw_below_drewN | apply below_drew1 | refine below_set ?_ GE367.out | refine below_set ?_ GE377.out) | exact HB.out))))
                  (case aL => have := LMc35.out; omega)
                  intro v382 w43 ho hb hg hat
                  rw [← Ny381.out] at ho
                  have n0_ := Aside0.mk (blk_grown (g := gb367) (o := .cells #[.slice (some ad376) l0_0.length c0_0, .int .i64 a0_1, .int .i64 a0_2, .int .i64 a0_3, .int .i64 a0_4, .int .i64 a0_5, .bool a0_6] 39 (0, 0)) (by (with_reducible repeat (first | refine blk_drewN ?_ _ | refine blk_drew ?_ | refine blk_alloc ?_ _)); exact BK367.out) hg (Kd.R_ne HO380.out BK367.out (by decide)))
                  have n1_ := Aside0.mk (blk_grown (g := gb377) (o := .cells #[.int .u8 ((rd_T36 l0_0 x11_2).f0), .int .u8 ((rd_T36 l0_0 x11_2).f1), .int .u8 ((rd_T36 l0_0 x11_2).f2), .int .u8 ((rd_T36 l0_0 x11_2).f3)] 36 (0, 0)) (by (with_reducible repeat (first | refine blk_drewN ?_ _ | refine blk_drew ?_ | refine blk_alloc ?_ _)); exact BK377.out) hg (Kd.R_ne HO380.out BK377.out (by decide)))
                  have n2_ := Aside0.mk (hb)
                  have n3_ := Aside0.mk (ho)
                  clear BK367
                  clear BK377
                  clear HB
                  clear HO380
                  have BK367 := n0_
                  have BK377 := n1_
                  have HB := n2_
                  have HO383 := n3_
                  clear n0_ n1_ n2_ n3_
                  clear ho hb hg hat
                  refine hK.out _ _ ⟨(blk_cell BK377.out 0).trans rfl, (blk_cell BK377.out 1).trans rfl, (blk_cell BK377.out 2).trans rfl, (blk_cell BK377.out 3).trans rfl⟩ (fun hHeld => ?_)
                  clear hK K
                  refine norm_ (a' := ?_) ?_ ?_
                  rotate_left
                  ·show Act.put _ (some 97) _ = _
                   simp only [Act.put, List.setIfInBounds_toArray, List.set_cons_zero, List.set_cons_succ, i64_w, i32_w]
                   rfl
                  refine one_ (i := 11) (N := some 106) #[true, true, true, true, true, true, true, true, true, true, true, true, false, false] rfl rfl (one_of HT_.out (by kernel_rfl)) (by decide) (fun K hK => ?_)
                  refine Kd.R_lit_step k70 _ 70 ?hg (N := 106) ?hd (xs := ([(⟨(⟨(⟨#[]⟩ : ByteArray), (⟨#[]⟩ : ByteArray), 0, 0, x13_3, 1⟩ : S68), Int.tmod (wrap64 (((rd_T36 l0_0 x11_2).f3))) 21, 0, Int.tmod (wrap64 (((rd_T36 l0_0 x11_2).f1))) 3, false⟩ : S70)] : List (S70))) (inner := [.string (⟨#[]⟩ : ByteArray), .string (⟨#[]⟩ : ByteArray), .int .i64 0, .int .i64 0, .int .i64 x13_3, .int .i64 1, .int .i64 (Int.tmod (wrap64 (((rd_T36 l0_0 x11_2).f3))) 21), .int .i64 0, .int .i64 (Int.tmod (wrap64 (((rd_T36 l0_0 x11_2).f1))) 3), .bool false]) (ok := fun _ => True) (okp := fun _ => True) ?hr ?hp (fun _ hk => hk) trivial (Below.refl _ _) (Nat.le_refl _) (by simp) ?_; (case hd => rfl); (case hg => rfl); (case hr => first | (go_simp; done) | (go_simp; rfl)); (case hp => exact (Reps.c10 (show Kd.M k70 _ _ _ (⟨(⟨(⟨#[]⟩ : ByteArray), (⟨#[]⟩ : ByteArray), 0, 0, x13_3, 1⟩ : S68), Int.tmod (wrap64 (((rd_T36 l0_0 x11_2).f3))) 21, 0, Int.tmod (wrap64 (((rd_T36 l0_0 x11_2).f1))) 3, false⟩ : S70) [.string (⟨#[]⟩ : ByteArray), .string (⟨#[]⟩ : ByteArray), .int .i64 0, .int .i64 0, .int .i64 x13_3, .int .i64 1, .int .i64 (Int.tmod (wrap64 (((rd_T36 l0_0 x11_2).f3))) 21), .int .i64 0, .int .i64 (Int.tmod (wrap64 (((rd_T36 l0_0 x11_2).f1))) 3), .bool false] from (k70_mkM _ _ _ (⟨(⟨(⟨#[]⟩ : ByteArray), (⟨#[]⟩ : ByteArray), 0, 0, x13_3, 1⟩ : S68), Int.tmod (wrap64 (((rd_T36 l0_0 x11_2).f3))) 21, 0, Int.tmod (wrap64 (((rd_T36 l0_0 x11_2).f1))) 3, false⟩ : S70) )) (Reps.none _ _)))
                  intro v385 w44 ho45 hb hg_ hnew_
                  clear hg_ hnew_
                  (first | rw [← Ny384.out] at ho45 | (simp only [Int.reduceToNat] at ho45; rw [← Ny384.out] at ho45))
                  have n0_ := Aside0.mk (Kd.R_elder' (by (with_reducible repeat (first | apply Kd.R_alloc | apply Kd.R_drewN | apply Kd.R_drew)); exact HO383.out) (Kd.R_base ho45) hb)
                  have n1_ := Aside0.mk (Kd.R_lower (Kd.R_new' ho45 (Kd.R_lt (by (with_reducible repeat (first | apply Kd.R_alloc | apply Kd.R_drewN | apply Kd.R_drew)); exact HO383.out))) (below_size (by repeat (first | (with_reducible first | exact HB.out | apply below_alloc | apply pw_below_drewN | apply below_drew1 | refine below_set ?_ GE367.out | refine below_set ?_ GE377.out) | exact HB.out))))
                  have n2_ := Aside0.mk (blk_below (g := gb367) (o := .cells #[.slice (some ad376) l0_0.length c0_0, .int .i64 a0_1, .int .i64 a0_2, .int .i64 a0_3, .int .i64 a0_4, .int .i64 a0_5, .bool a0_6] 39 (0, 0)) (by (with_reducible repeat (first | refine blk_drewN ?_ _ | refine blk_drew ?_ | refine blk_alloc ?_ _)); exact BK367.out) hb)
                  have n3_ := Aside0.mk (blk_below (g := gb377) (o := .cells #[.int .u8 ((rd_T36 l0_0 x11_2).f0), .int .u8 ((rd_T36 l0_0 x11_2).f1), .int .u8 ((rd_T36 l0_0 x11_2).f2), .int .u8 ((rd_T36 l0_0 x11_2).f3)] 36 (0, 0)) (by (with_reducible repeat (first | refine blk_drewN ?_ _ | refine blk_drew ?_ | refine blk_alloc ?_ _)); exact BK377.out) hb)
                  have n4_ := Aside0.mk (below_step (by repeat (first | (with_reducible first | exact HB.out | apply below_alloc | apply pw_below_drewN | apply below_drew1 | refine below_set ?_ GE367.out | refine below_set ?_ GE377.out) | exact HB.out)) hb)
                  clear HO383
                  clear BK367
                  clear BK377
                  clear HB
                  have HO383 := n0_
                  have HO386 := n1_
                  have BK367 := n2_
                  have BK377 := n3_
                  have HB := n4_
                  clear n0_ n1_ n2_ n3_ n4_
                  clear hb ho45
                  refine hK.out _ _ ⟨(blk_cell BK377.out 0).trans rfl, (blk_cell BK377.out 1).trans rfl, (blk_cell BK377.out 2).trans rfl, (blk_cell BK377.out 3).trans rfl⟩ (fun hHeld => ?_)
                  clear hK K
                  refine norm_ (a' := ?_) ?_ ?_
                  rotate_left
                  ·show Act.put _ (some 106) _ = _
                   simp only [Act.put, List.setIfInBounds_toArray, List.set_cons_zero, List.set_cons_succ, i64_w, i32_w]
                   rfl
                  exact norm_ (by simp only [putAll, Act.put, List.setIfInBounds_toArray, List.set_cons_zero, List.set_cons_succ]) (hCont (v379, v382, v385) _ ⟨hHeld, (by (with_reducible repeat (first | apply Kd.R_alloc | apply Kd.R_drewN | apply Kd.R_drew)); exact Kd.R_mono HO383.out (fun _ hk => hk.2)), (by (with_reducible repeat (first | apply Kd.R_alloc | apply Kd.R_drewN | apply Kd.R_drew)); exact Kd.R_mono HO386.out (fun _ hk => hk.2)), (by (with_reducible repeat (first | refine blk_drewN ?_ _ | refine blk_drew ?_ | refine blk_alloc ?_ _)); exact BK367.out), (by (with_reducible repeat (first | refine blk_drewN ?_ _ | refine blk_drew ?_ | refine blk_alloc ?_ _)); exact BK377.out), (by repeat (first | (with_reducible first | exact HB.out | apply below_alloc | apply pw_below_drewN | apply below_drew1 | refine below_set ?_ GE367.out | refine below_set ?_ GE377.out) | exact HB.out))⟩)
                 ·skip
                  refine Kd.R_lit_step k70 _ 70 ?hg (N := 106) ?hd (xs := ([(⟨(⟨(⟨#[]⟩ : ByteArray), (⟨#[]⟩ : ByteArray), 0, 0, x13_3, 1⟩ : S68), Int.tmod (wrap64 (((rd_T36 l0_0 x11_2).f3))) 21, 0, Int.tmod (wrap64 (((rd_T36 l0_0 x11_2).f1))) 3, false⟩ : S70)] : List (S70))) (inner := [.string (⟨#[]⟩ : ByteArray), .string (⟨#[]⟩ : ByteArray), .int .i64 0, .int .i64 0, .int .i64 x13_3, .int .i64 1, .int .i64 (Int.tmod (wrap64 (((rd_T36 l0_0 x11_2).f3))) 21), .int .i64 0, .int .i64 (Int.tmod (wrap64 (((rd_T36 l0_0 x11_2).f1))) 3), .bool false]) (ok := fun _ => True) (okp := fun _ => True) ?hr ?hp (fun _ hk => hk) trivial (Below.refl _ _) (Nat.le_refl _) (by simp) ?_; (case hd => rfl); (case hg => rfl); (case hr => first | (go_simp; done) | (go_simp; rfl)); (case hp => exact (Reps.c10 (show Kd.M k70 _ _ _ (⟨(⟨(⟨#[]⟩ : ByteArray), (⟨#[]⟩ : ByteArray), 0, 0, x13_3, 1⟩ : S68), Int.tmod (wrap64 (((rd_T36 l0_0 x11_2).f3))) 21, 0, Int.tmod (wrap64 (((rd_T36 l0_0 x11_2).f1))) 3, false⟩ : S70) [.string (⟨#[]⟩ : ByteArray), .string (⟨#[]⟩ : ByteArray), .int .i64 0, .int .i64 0, .int .i64 x13_3, .int .i64 1, .int .i64 (Int.tmod (wrap64 (((rd_T36 l0_0 x11_2).f3))) 21), .int .i64 0, .int .i64 (Int.tmod (wrap64 (((rd_T36 l0_0 x11_2).f1))) 3), .bool false] from (k70_mkM _ _ _ (⟨(⟨(⟨#[]⟩ : ByteArray), (⟨#[]⟩ : ByteArray), 0, 0, x13_3, 1⟩ : S68), Int.tmod (wrap64 (((rd_T36 l0_0 x11_2).f3))) 21, 0, Int.tmod (wrap64 (((rd_T36 l0_0 x11_2).f1))) 3, false⟩ : S70) )) (Reps.none _ _)))
                  intro v385 w43 ho44 hb hg_ hnew_
                  clear hg_ hnew_
                  (first | rw [← Ny384.out] at ho44 | (simp only [Int.reduceToNat] at ho44; rw [← Ny384.out] at ho44))
                  have n0_ := Aside0.mk (Kd.R_elder' (by (with_reducible repeat (first | apply Kd.R_alloc | apply Kd.R_drewN | apply Kd.R_drew)); exact HO380.out) (Kd.R_base ho44) hb)
                  have n1_ := Aside0.mk (Kd.R_lower (Kd.R_new' ho44 (Kd.R_lt (by (with_reducible repeat (first | apply Kd.R_alloc | apply Kd.R_drewN | apply Kd.R_drew)); exact HO380.out))) (below_size (by repeat (first | (with_reducible first | exact HB.out | apply below_alloc | apply pw_below_drewN | apply below_drew1 | refine below_set ?_ GE367.out | refine below_set ?_ GE377.out) | exact HB.out))))
                  have n2_ := Aside0.mk (blk_below (g := gb367) (o := .cells #[.slice (some ad376) l0_0.length c0_0, .int .i64 a0_1, .int .i64 a0_2, .int .i64 a0_3, .int .i64 a0_4, .int .i64 a0_5, .bool a0_6] 39 (0, 0)) (by (with_reducible repeat (first | refine blk_drewN ?_ _ | refine blk_drew ?_ | refine blk_alloc ?_ _)); exact BK367.out) hb)
                  have n3_ := Aside0.mk (blk_below (g := gb377) (o := .cells #[.int .u8 ((rd_T36 l0_0 x11_2).f0), .int .u8 ((rd_T36 l0_0 x11_2).f1), .int .u8 ((rd_T36 l0_0 x11_2).f2), .int .u8 ((rd_T36 l0_0 x11_2).f3)] 36 (0, 0)) (by (with_reducible repeat (first | refine blk_drewN ?_ _ | refine blk_drew ?_ | refine blk_alloc ?_ _)); exact BK377.out) hb)
                  have n4_ := Aside0.mk (below_step (by repeat (first | (with_reducible first | exact HB.out | apply below_alloc | apply pw_below_drewN | apply below_drew1 | refine below_set ?_ GE367.out | refine below_set ?_ GE377.out) | exact HB.out)) hb)
                  clear HO380
                  clear BK367
                  clear BK377
                  clear HB
                  have HO380 := n0_
                  have HO386 := n1_
                  have BK367 := n2_
                  have BK377 := n3_
                  have HB := n4_
                  clear n0_ n1_ n2_ n3_ n4_
                  clear hb ho44
                  refine hK.out _ _ ⟨(blk_cell BK377.out 0).trans rfl, (blk_cell BK377.out 1).trans rfl, (blk_cell BK377.out 2).trans rfl, (blk_cell BK377.out 3).trans rfl⟩ (fun hHeld => ?_)
                  clear hK K
                  refine norm_ (a' := ?_) ?_ ?_
                  rotate_left
                  ·show Act.put _ (some 106) _ = _
                   simp only [Act.put, List.setIfInBounds_toArray, List.set_cons_zero, List.set_cons_succ, i64_w, i32_w]
                   rfl
                  refine one_ (i := 2) (N := some 97) #[true, true, true, true, true, true, true, true, true, true, true, true, false, false] rfl rfl (one_of HT_.out (by kernel_rfl)) (by decide) (fun K hK => ?_)
                  refine Kd.R_append_rows_step k70 (w0 := w) w.heap.size (by rfl) (.tmp 95) (.tmp 96) 62 70 (.agg #[(.string ⟨#[]⟩), (.string ⟨#[]⟩), (.int .i64 0), (.int .i64 0), (.int .i64 0), (.int .i64 0), (.int .i64 0), (.int .i64 0), (.int .i64 0), (.bool false)]) 96 rfl Try.underlying62 info70 rfl (by decide) (by omega) v379 y378 l1 _ _ _ (fun k_ => some k_ ≠ (v385 : Value).ownBlock) (fun _ => False) rfl rfl ?aO ?aR (fun _ _ h => h) (fun _ h => h.elim) ?aF ?aB ?aS ?aL ?_
                  (case aR => repeat (first | exact (Kd.C_below HR1.out HB.out) | (with_reducible refine Kd.C_alloc ?_ _) | (with_reducible refine Kd.C_drewN ?_ _) | (with_reducible refine Kd.C_drew ?_)))
                  (case aB => exact (by repeat (first | (with_reducible first | exact HB.out | apply below_alloc | apply pw_below_drewN | apply below_drew1 | refine below_set ?_ GE367.out | refine below_set ?_ GE377.out) | exact HB.out)))
                  (case aF => exact (fun k_ hk => Kd.fresh' (Kd.R_lt (by (with_reducible repeat (first | apply Kd.R_alloc | apply Kd.R_drewN | apply Kd.R_drew)); exact HO386.out)) k_ hk))
                  (case aO => exact (by (with_reducible repeat (first | apply Kd.R_alloc | apply Kd.R_drewN | apply Kd.R_drew)); exact Kd.R_mono HO380.out (fun _ hk => hk.2)))
                  (case aS => exact (below_size (by repeat (first | (with_reducible first | exact HB.out | apply below_alloc | apply pw_below_drewN | apply below_drew1 | refine below_set ?_ GE367.out | refine below_set ?_ GE377.out) | exact HB.out))))
                  (case aL => have := LMc35.out; omega)
                  intro v382 w45 ho hb hg hat
                  rw [← Ny381.out] at ho
                  have n0_ := Aside0.mk (blk_grown (g := gb367) (o := .cells #[.slice (some ad376) l0_0.length c0_0, .int .i64 a0_1, .int .i64 a0_2, .int .i64 a0_3, .int .i64 a0_4, .int .i64 a0_5, .bool a0_6] 39 (0, 0)) (by (with_reducible repeat (first | refine blk_drewN ?_ _ | refine blk_drew ?_ | refine blk_alloc ?_ _)); exact BK367.out) hg (Kd.R_ne HO380.out BK367.out (by decide)))
                  have n1_ := Aside0.mk (blk_grown (g := gb377) (o := .cells #[.int .u8 ((rd_T36 l0_0 x11_2).f0), .int .u8 ((rd_T36 l0_0 x11_2).f1), .int .u8 ((rd_T36 l0_0 x11_2).f2), .int .u8 ((rd_T36 l0_0 x11_2).f3)] 36 (0, 0)) (by (with_reducible repeat (first | refine blk_drewN ?_ _ | refine blk_drew ?_ | refine blk_alloc ?_ _)); exact BK377.out) hg (Kd.R_ne HO380.out BK377.out (by decide)))
                  have n2_ := Aside0.mk (Kd.R_after (ok := (fun _ => True)) (by (with_reducible repeat (first | apply Kd.R_alloc | apply Kd.R_drewN | apply Kd.R_drew)); exact HO386.out) hg hat)
                  have n3_ := Aside0.mk (hb)
                  have n4_ := Aside0.mk (ho)
                  clear BK367
                  clear BK377
                  clear HO386
                  clear HB
                  clear HO380
                  have BK367 := n0_
                  have BK377 := n1_
                  have HO386 := n2_
                  have HB := n3_
                  have HO383 := n4_
                  clear n0_ n1_ n2_ n3_ n4_
                  clear ho hb hg hat
                  refine hK.out _ _ ⟨(blk_cell BK377.out 0).trans rfl, (blk_cell BK377.out 1).trans rfl, (blk_cell BK377.out 2).trans rfl, (blk_cell BK377.out 3).trans rfl⟩ (fun hHeld => ?_)
                  clear hK K
                  refine norm_ (a' := ?_) ?_ ?_
                  rotate_left
                  ·show Act.put _ (some 97) _ = _
                   simp only [Act.put, List.setIfInBounds_toArray, List.set_cons_zero, List.set_cons_succ, i64_w, i32_w]
                   rfl
                  exact norm_ (by simp only [putAll, Act.put, List.setIfInBounds_toArray, List.set_cons_zero, List.set_cons_succ]) (hCont (v379, v382, v385) _ ⟨hHeld, (by (with_reducible repeat (first | apply Kd.R_alloc | apply Kd.R_drewN | apply Kd.R_drew)); exact HO383.out), (by (with_reducible repeat (first | apply Kd.R_alloc | apply Kd.R_drewN | apply Kd.R_drew)); exact Kd.R_mono HO386.out (fun _ hk => hk.2)), (by (with_reducible repeat (first | refine blk_drewN ?_ _ | refine blk_drew ?_ | refine blk_alloc ?_ _)); exact BK367.out), (by (with_reducible repeat (first | refine blk_drewN ?_ _ | refine blk_drew ?_ | refine blk_alloc ?_ _)); exact BK377.out), (by repeat (first | (with_reducible first | exact HB.out | apply below_alloc | apply pw_below_drewN | apply below_drew1 | refine below_set ?_ GE367.out | refine below_set ?_ GE377.out) | exact HB.out))⟩)
                ·skip
                 refine Kd.R_lit_step k70 _ 70 ?hg (N := 106) ?hd (xs := ([(⟨(⟨(⟨#[]⟩ : ByteArray), (⟨#[]⟩ : ByteArray), 0, 0, x13_3, 1⟩ : S68), Int.tmod (wrap64 (((rd_T36 l0_0 x11_2).f3))) 21, 0, Int.tmod (wrap64 (((rd_T36 l0_0 x11_2).f1))) 3, false⟩ : S70)] : List (S70))) (inner := [.string (⟨#[]⟩ : ByteArray), .string (⟨#[]⟩ : ByteArray), .int .i64 0, .int .i64 0, .int .i64 x13_3, .int .i64 1, .int .i64 (Int.tmod (wrap64 (((rd_T36 l0_0 x11_2).f3))) 21), .int .i64 0, .int .i64 (Int.tmod (wrap64 (((rd_T36 l0_0 x11_2).f1))) 3), .bool false]) (ok := fun _ => True) (okp := fun _ => True) ?hr ?hp (fun _ hk => hk) trivial (Below.refl _ _) (Nat.le_refl _) (by simp) ?_; (case hd => rfl); (case hg => rfl); (case hr => first | (go_simp; done) | (go_simp; rfl)); (case hp => exact (Reps.c10 (show Kd.M k70 _ _ _ (⟨(⟨(⟨#[]⟩ : ByteArray), (⟨#[]⟩ : ByteArray), 0, 0, x13_3, 1⟩ : S68), Int.tmod (wrap64 (((rd_T36 l0_0 x11_2).f3))) 21, 0, Int.tmod (wrap64 (((rd_T36 l0_0 x11_2).f1))) 3, false⟩ : S70) [.string (⟨#[]⟩ : ByteArray), .string (⟨#[]⟩ : ByteArray), .int .i64 0, .int .i64 0, .int .i64 x13_3, .int .i64 1, .int .i64 (Int.tmod (wrap64 (((rd_T36 l0_0 x11_2).f3))) 21), .int .i64 0, .int .i64 (Int.tmod (wrap64 (((rd_T36 l0_0 x11_2).f1))) 3), .bool false] from (k70_mkM _ _ _ (⟨(⟨(⟨#[]⟩ : ByteArray), (⟨#[]⟩ : ByteArray), 0, 0, x13_3, 1⟩ : S68), Int.tmod (wrap64 (((rd_T36 l0_0 x11_2).f3))) 21, 0, Int.tmod (wrap64 (((rd_T36 l0_0 x11_2).f1))) 3, false⟩ : S70) )) (Reps.none _ _)))
                 intro v385 w41 ho42 hb hg_ hnew_
                 clear hg_ hnew_
                 (first | rw [← Ny384.out] at ho42 | (simp only [Int.reduceToNat] at ho42; rw [← Ny384.out] at ho42))
                 have n0_ := Aside0.mk (Kd.R_lower ho42 (below_size (by repeat (first | (with_reducible first | exact HB.out | apply below_alloc | apply pw_below_drewN | apply below_drew1 | refine below_set ?_ GE367.out | refine below_set ?_ GE377.out) | exact HB.out))))
                 have n1_ := Aside0.mk (blk_below (g := gb367) (o := .cells #[.slice (some ad376) l0_0.length c0_0, .int .i64 a0_1, .int .i64 a0_2, .int .i64 a0_3, .int .i64 a0_4, .int .i64 a0_5, .bool a0_6] 39 (0, 0)) (by (with_reducible repeat (first | refine blk_drewN ?_ _ | refine blk_drew ?_ | refine blk_alloc ?_ _)); exact BK367.out) hb)
                 have n2_ := Aside0.mk (blk_below (g := gb377) (o := .cells #[.int .u8 ((rd_T36 l0_0 x11_2).f0), .int .u8 ((rd_T36 l0_0 x11_2).f1), .int .u8 ((rd_T36 l0_0 x11_2).f2), .int .u8 ((rd_T36 l0_0 x11_2).f3)] 36 (0, 0)) (by (with_reducible repeat (first | refine blk_drewN ?_ _ | refine blk_drew ?_ | refine blk_alloc ?_ _)); exact BK377.out) hb)
                 have n3_ := Aside0.mk (below_step (by repeat (first | (with_reducible first | exact HB.out | apply below_alloc | apply pw_below_drewN | apply below_drew1 | refine below_set ?_ GE367.out | refine below_set ?_ GE377.out) | exact HB.out)) hb)
                 clear BK367
                 clear BK377
                 clear HB
                 have HO386 := n0_
                 have BK367 := n1_
                 have BK377 := n2_
                 have HB := n3_
                 clear n0_ n1_ n2_ n3_
                 clear hb ho42
                 refine hK.out _ _ ⟨(blk_cell BK377.out 0).trans rfl, (blk_cell BK377.out 1).trans rfl, (blk_cell BK377.out 2).trans rfl, (blk_cell BK377.out 3).trans rfl⟩ (fun hHeld => ?_)
                 clear hK K
                 refine norm_ (a' := ?_) ?_ ?_
                 rotate_left
                 ·show Act.put _ (some 106) _ = _
                  simp only [Act.put, List.setIfInBounds_toArray, List.set_cons_zero, List.set_cons_succ, i64_w, i32_w]
                  rfl
                 refine one_ (i := 0) (N := some 95) #[true, true, false, true, true, true, true, true, true, true, true, true, false, false] rfl rfl (one_of HT_.out (by kernel_rfl)) (by decide) (fun K hK => ?_)
                 refine Kd.R_lit_step k70 _ 70 ?hg (N := 95) ?hd (xs := ([] : List (S70))) (inner := []) (ok := fun _ => True) (okp := fun _ => True) ?hr ?hp (fun _ hk => hk) trivial (Below.refl _ _) (Nat.le_refl _) (by simp) ?_; (case hd => rfl); (case hg => rfl); (case hr => first | (go_simp; done) | (go_simp; rfl)); (case hp => exact (Reps.none _ _))
                 intro v379 w43 ho44 hb hg_ hnew_
                 clear hg_ hnew_
                 (first | rw [← Ny378.out] at ho44 | (simp only [Int.reduceToNat] at ho44; rw [← Ny378.out] at ho44))
                 have n0_ := Aside0.mk (Kd.R_elder' (by (with_reducible repeat (first | apply Kd.R_alloc | apply Kd.R_drewN | apply Kd.R_drew)); exact HO386.out) (Kd.R_base ho44) hb)
                 have n1_ := Aside0.mk (Kd.R_lower (Kd.R_new' ho44 (Kd.R_lt (by (with_reducible repeat (first | apply Kd.R_alloc | apply Kd.R_drewN | apply Kd.R_drew)); exact HO386.out))) (below_size (by repeat (first | (with_reducible first | exact HB.out | apply below_alloc | apply pw_below_drewN | apply below_drew1 | refine below_set ?_ GE367.out | refine below_set ?_ GE377.out) | exact HB.out))))
                 have n2_ := Aside0.mk (blk_below (g := gb367) (o := .cells #[.slice (some ad376) l0_0.length c0_0, .int .i64 a0_1, .int .i64 a0_2, .int .i64 a0_3, .int .i64 a0_4, .int .i64 a0_5, .bool a0_6] 39 (0, 0)) (by (with_reducible repeat (first | refine blk_drewN ?_ _ | refine blk_drew ?_ | refine blk_alloc ?_ _)); exact BK367.out) hb)
                 have n3_ := Aside0.mk (blk_below (g := gb377) (o := .cells #[.int .u8 ((rd_T36 l0_0 x11_2).f0), .int .u8 ((rd_T36 l0_0 x11_2).f1), .int .u8 ((rd_T36 l0_0 x11_2).f2), .int .u8 ((rd_T36 l0_0 x11_2).f3)] 36 (0, 0)) (by (with_reducible repeat (first | refine blk_drewN ?_ _ | refine blk_drew ?_ | refine blk_alloc ?_ _)); exact BK377.out) hb)
                 have n4_ := Aside0.mk (below_step (by repeat (first | (with_reducible first | exact HB.out | apply below_alloc | apply pw_below_drewN | apply below_drew1 | refine below_set ?_ GE367.out | refine below_set ?_ GE377.out) | exact HB.out)) hb)
                 clear HO386
                 clear BK367
                 clear BK377
                 clear HB
                 have HO386 := n0_
                 have HO380 := n1_
                 have BK367 := n2_
                 have BK377 := n3_
                 have HB := n4_
                 clear n0_ n1_ n2_ n3_ n4_
                 clear hb ho44
                 refine hK.out _ _ ⟨(blk_cell BK377.out 0).trans rfl, (blk_cell BK377.out 1).trans rfl, (blk_cell BK377.out 2).trans rfl, (blk_cell BK377.out 3).trans rfl⟩ (fun hHeld => ?_)
                 clear hK K
                 refine norm_ (a' := ?_) ?_ ?_
                 rotate_left
                 ·show Act.put _ (some 95) _ = _
                  simp only [Act.put, List.setIfInBounds_toArray, List.set_cons_zero, List.set_cons_succ, i64_w, i32_w]
                  rfl
                 refine one_ (i := 2) (N := some 97) #[true, true, true, true, true, true, true, true, true, true, true, true, false, false] rfl rfl (one_of HT_.out (by kernel_rfl)) (by decide) (fun K hK => ?_)
                 refine Kd.R_append_rows_step k70 (w0 := w) w.heap.size (by rfl) (.tmp 95) (.tmp 96) 62 70 (.agg #[(.string ⟨#[]⟩), (.string ⟨#[]⟩), (.int .i64 0), (.int .i64 0), (.int .i64 0), (.int .i64 0), (.int .i64 0), (.int .i64 0), (.int .i64 0), (.bool false)]) 96 rfl Try.underlying62 info70 rfl (by decide) (by omega) v379 y378 l1 _ _ _ (fun k_ => some k_ ≠ (v385 : Value).ownBlock) (fun _ => False) rfl rfl ?aO ?aR (fun _ _ h => h) (fun _ h => h.elim) ?aF ?aB ?aS ?aL ?_
                 (case aR => repeat (first | exact (Kd.C_below HR1.out HB.out) | (with_reducible refine Kd.C_alloc ?_ _) | (with_reducible refine Kd.C_drewN ?_ _) | (with_reducible refine Kd.C_drew ?_)))
                 (case aB => exact (by repeat (first | (with_reducible first | exact HB.out | apply below_alloc | apply pw_below_drewN | apply below_drew1 | refine below_set ?_ GE367.out | refine below_set ?_ GE377.out) | exact HB.out)))
                 (case aF => exact (fun k_ hk => Kd.fresh' (Kd.R_lt (by (with_reducible repeat (first | apply Kd.R_alloc | apply Kd.R_drewN | apply Kd.R_drew)); exact HO386.out)) k_ hk))
                 (case aO => exact (by (with_reducible repeat (first | apply Kd.R_alloc | apply Kd.R_drewN | apply Kd.R_drew)); exact Kd.R_mono HO380.out (fun _ hk => hk.2)))
                 (case aS => exact (below_size (by repeat (first | (with_reducible first | exact HB.out | apply below_alloc | apply pw_below_drewN | apply below_drew1 | refine below_set ?_ GE367.out | refine below_set ?_ GE377.out) | exact HB.out))))
                 (case aL => have := LMc35.out; omega)
                 intro v382 w45 ho hb hg hat
                 rw [← Ny381.out] at ho
                 have n0_ := Aside0.mk (blk_grown (g := gb367) (o := .cells #[.slice (some ad376) l0_0.length c0_0, .int .i64 a0_1, .int .i64 a0_2, .int .i64 a0_3, .int .i64 a0_4, .int .i64 a0_5, .bool a0_6] 39 (0, 0)) (by (with_reducible repeat (first | refine blk_drewN ?_ _ | refine blk_drew ?_ | refine blk_alloc ?_ _)); exact BK367.out) hg (Kd.R_ne HO380.out BK367.out (by decide)))
                 have n1_ := Aside0.mk (blk_grown (g := gb377) (o := .cells #[.int .u8 ((rd_T36 l0_0 x11_2).f0), .int .u8 ((rd_T36 l0_0 x11_2).f1), .int .u8 ((rd_T36 l0_0 x11_2).f2), .int .u8 ((rd_T36 l0_0 x11_2).f3)] 36 (0, 0)) (by (with_reducible repeat (first | refine blk_drewN ?_ _ | refine blk_drew ?_ | refine blk_alloc ?_ _)); exact BK377.out) hg (Kd.R_ne HO380.out BK377.out (by decide)))
                 have n2_ := Aside0.mk (Kd.R_after (ok := (fun _ => True)) (by (with_reducible repeat (first | apply Kd.R_alloc | apply Kd.R_drewN | apply Kd.R_drew)); exact HO386.out) hg hat)
                 have n3_ := Aside0.mk (hb)
                 have n4_ := Aside0.mk (ho)
                 clear BK367
                 clear BK377
                 clear HO386
                 clear HB
                 clear HO380
                 have BK367 := n0_
                 have BK377 := n1_
                 have HO386 := n2_
                 have HB := n3_
                 have HO383 := n4_
                 clear n0_ n1_ n2_ n3_ n4_
                 clear ho hb hg hat
                 refine hK.out _ _ ⟨(blk_cell BK377.out 0).trans rfl, (blk_cell BK377.out 1).trans rfl, (blk_cell BK377.out 2).trans rfl, (blk_cell BK377.out 3).trans rfl⟩ (fun hHeld => ?_)
                 clear hK K
                 refine norm_ (a' := ?_) ?_ ?_
                 rotate_left
                 ·show Act.put _ (some 97) _ = _
                  simp only [Act.put, List.setIfInBounds_toArray, List.set_cons_zero, List.set_cons_succ, i64_w, i32_w]
                  rfl
                 exact norm_ (by simp only [putAll, Act.put, List.setIfInBounds_toArray, List.set_cons_zero, List.set_cons_succ]) (hCont (v379, v382, v385) _ ⟨hHeld, (by (with_reducible repeat (first | apply Kd.R_alloc | apply Kd.R_drewN | apply Kd.R_drew)); exact HO383.out), (by (with_reducible repeat (first | apply Kd.R_alloc | apply Kd.R_drewN | apply Kd.R_drew)); exact Kd.R_mono HO386.out (fun _ hk => hk.2)), (by (with_reducible repeat (first | refine blk_drewN ?_ _ | refine blk_drew ?_ | refine blk_alloc ?_ _)); exact BK367.out), (by (with_reducible repeat (first | refine blk_drewN ?_ _ | refine blk_drew ?_ | refine blk_alloc ?_ _)); exact BK377.out), (by repeat (first | (with_reducible first | exact HB.out | apply below_alloc | apply pw_below_drewN | apply below_drew1 | refine below_set ?_ GE367.out | refine below_set ?_ GE377.out) | exact HB.out))⟩)
               rintro ⟨v379, v382, v385⟩ w46 ⟨hS_, h0_, h1_, h2_, h3_, h4_⟩
               have n0_ : Aside0 (Kd.R k70 70 w46 w.heap.size (fun k_ => some k_ ≠ (v385 : Value).ownBlock) v382 y381) := ⟨h0_⟩
               have n1_ : Aside0 (Kd.R k70 70 w46 w.heap.size (fun k_ => some k_ ≠ (v382 : Value).ownBlock) v385 y384) := ⟨h1_⟩
               have n2_ : Aside0 (w46.heap[gb367]? = some (.cells #[.slice (some ad376) l0_0.length c0_0, .int .i64 a0_1, .int .i64 a0_2, .int .i64 a0_3, .int .i64 a0_4, .int .i64 a0_5, .bool a0_6] 39 (0, 0))) := ⟨h2_⟩
               have n3_ : Aside0 (w46.heap[gb377]? = some (.cells #[.int .u8 ((rd_T36 l0_0 x11_2).f0), .int .u8 ((rd_T36 l0_0 x11_2).f1), .int .u8 ((rd_T36 l0_0 x11_2).f2), .int .u8 ((rd_T36 l0_0 x11_2).f3)] 36 (0, 0))) := ⟨h3_⟩
               have n4_ : Aside0 (Below w.heap.size w w46) := ⟨h4_⟩
               clear BK367
               clear BK377
               clear HB
               clear h0_ h1_ h2_ h3_ h4_
               have HO383 := n0_
               have HO386 := n1_
               have BK367 := n2_
               have BK377 := n3_
               have HB := n4_
               clear n0_ n1_ n2_ n3_ n4_
               have hHeld : w46.cell? ⟨gb377, 0, none⟩ = some (.int .u8 ((rd_T36 l0_0 x11_2).f0)) ∧ w46.cell? ⟨gb377, 1, none⟩ = some (.int .u8 ((rd_T36 l0_0 x11_2).f1)) ∧ w46.cell? ⟨gb377, 2, none⟩ = some (.int .u8 ((rd_T36 l0_0 x11_2).f2)) ∧ w46.cell? ⟨gb377, 3, none⟩ = some (.int .u8 ((rd_T36 l0_0 x11_2).f3)) := hS_
               obtain ⟨Ao48, co48, eo48⟩ := Kd.R_slice HO386.out
               (first | subst eo48 | (injection eo48 with f1_ f2_ f3_; have f4_ := f1_.symm; have f5_ := f3_.symm; clear f1_ f2_ f3_; subst f4_; subst f5_))
               refine norm_ (a' := ?_) ?_ ?_
               rotate_left
               ·simp only [putAll, Act.put, List.setIfInBounds_toArray, List.set_cons_zero, List.set_cons_succ]
                rfl
               refine one_ (i := 12) (N := some 107) #[true, true, true, true, true, true, true, true, true, true, true, true, true, false] rfl rfl (one_of HT_.out (by kernel_rfl)) (by decide) (fun K hK => ?_)
               refine Kd.R_append_rows_step k70 (w0 := w) w.heap.size (by rfl) (.tmp 97) (.tmp 106) 62 70 (.agg #[(.string ⟨#[]⟩), (.string ⟨#[]⟩), (.int .i64 0), (.int .i64 0), (.int .i64 0), (.int .i64 0), (.int .i64 0), (.int .i64 0), (.int .i64 0), (.bool false)]) 96 rfl Try.underlying62 info70 rfl (by decide) (by omega) v382 y381 y384 _ _ _ (fun k_ => some k_ ≠ (.slice Ao48 y384.length co48 : Value).ownBlock) (fun _ => False) rfl rfl ?aO ?aR (fun _ _ h => h) (fun _ h => h.elim) ?aF ?aB ?aS ?aL ?_
               (case aR => repeat (first | exact (Kd.R_reads' HO386.out).2.2 | (with_reducible refine Kd.C_alloc ?_ _) | (with_reducible refine Kd.C_drewN ?_ _) | (with_reducible refine Kd.C_drew ?_)))
               (case aB => exact (by repeat (first | (with_reducible first | exact HB.out | apply below_alloc | apply pw_below_drewN | apply below_drew1 | refine below_set ?_ GE367.out | refine below_set ?_ GE377.out) | exact HB.out)))
               (case aF => exact (fun k_ hk => Kd.fresh' (Kd.R_lt (by (with_reducible repeat (first | apply Kd.R_alloc | apply Kd.R_drewN | apply Kd.R_drew)); exact HO386.out)) k_ hk))
               (case aO => exact (by (with_reducible repeat (first | apply Kd.R_alloc | apply Kd.R_drewN | apply Kd.R_drew)); exact HO383.out))
               (case aS => exact (below_size (by repeat (first | (with_reducible first | exact HB.out | apply below_alloc | apply pw_below_drewN | apply below_drew1 | refine below_set ?_ GE367.out | refine below_set ?_ GE377.out) | exact HB.out))))
               (case aL => have := LMc36.out; omega)
               intro v388 w47 ho hb hg hat
               rw [← Ny387.out] at ho
               have n0_ := Aside0.mk (blk_grown (g := gb367) (o := .cells #[.slice (some ad376) l0_0.length c0_0, .int .i64 a0_1, .int .i64 a0_2, .int .i64 a0_3, .int .i64 a0_4, .int .i64 a0_5, .bool a0_6] 39 (0, 0)) (by (with_reducible repeat (first | refine blk_drewN ?_ _ | refine blk_drew ?_ | refine blk_alloc ?_ _)); exact BK367.out) hg (Kd.R_ne HO383.out BK367.out (by decide)))
               have n1_ := Aside0.mk (blk_grown (g := gb377) (o := .cells #[.int .u8 ((rd_T36 l0_0 x11_2).f0), .int .u8 ((rd_T36 l0_0 x11_2).f1), .int .u8 ((rd_T36 l0_0 x11_2).f2), .int .u8 ((rd_T36 l0_0 x11_2).f3)] 36 (0, 0)) (by (with_reducible repeat (first | refine blk_drewN ?_ _ | refine blk_drew ?_ | refine blk_alloc ?_ _)); exact BK377.out) hg (Kd.R_ne HO383.out BK377.out (by decide)))
               have n2_ := Aside0.mk (Kd.R_after (ok := (fun _ => True)) (by (with_reducible repeat (first | apply Kd.R_alloc | apply Kd.R_drewN | apply Kd.R_drew)); exact Kd.R_mono HO386.out (fun _ hk => ⟨trivial, hk⟩)) hg hat)
               have n3_ := Aside0.mk (hb)
               have n4_ := Aside0.mk (ho)
               clear BK367
               clear BK377
               clear HO386
               clear HB
               clear HO383
               have BK367 := n0_
               have BK377 := n1_
               have HO386 := n2_
               have HB := n3_
               have HO389 := n4_
               clear n0_ n1_ n2_ n3_ n4_
               clear ho hb hg hat
               refine hK.out _ _ ⟨(blk_cell BK377.out 0).trans rfl, (blk_cell BK377.out 1).trans rfl, (blk_cell BK377.out 2).trans rfl, (blk_cell BK377.out 3).trans rfl⟩ (fun hHeld => ?_)
               clear hK K
               refine norm_ (a' := ?_) ?_ ?_
               rotate_left
               ·show Act.put _ (some 107) _ = _
                simp only [Act.put, List.setIfInBounds_toArray, List.set_cons_zero, List.set_cons_succ, i64_w, i32_w]
                rfl
               refine pure_ (i := 13) (N := some 16) (v := ?_) (a' := ?_) #[true, true, true, true, true, true, true, true, true, true, true, true, true, true] rfl rfl (any_of HT_.out (by kernel_rfl)) (fun _ _ _ h => h) (Or.inl ⟨by rfl, ?_⟩) ?_ ?_
               rotate_left
               ·intro w'
                go_simp
                with_reducible rfl
               rotate_left
               ·simp only [Act.put, List.setIfInBounds_toArray, List.set_cons_zero, List.set_cons_succ, i64_w, i32_w]
                rfl
               refine done_ (done_of HT_.out (by kernel_rfl)) ?_
               try go_wp2
               have n0_ := Aside0.mk (Kd.R_drew HO386.out)
               have n1_ := Aside0.mk (Kd.R_drew HO389.out)
               have n2_ := Aside0.mk (blk_drew BK367.out)
               have n3_ := Aside0.mk (blk_drew BK377.out)
               have n4_ := Aside0.mk (below_drew1 HB.out)
               clear HO386
               clear HO389
               clear BK367
               clear BK377
               clear HB
               have HO386 := n0_
               have HO389 := n1_
               have BK367 := n2_
               have BK377 := n3_
               have HB := n4_
               clear n0_ n1_ n2_ n3_ n4_
               obtain ⟨Ao50, co50, eo50⟩ := Kd.R_slice HO389.out
               (first | subst eo50 | (injection eo50 with f1_ f2_ f3_; have f4_ := f1_.symm; have f5_ := f3_.symm; clear f1_ f2_ f3_; subst f4_; subst f5_))
               refine start_ (n := 15) (S := fun w' => w'.cell? ⟨gb377, 0, none⟩ = some (.int .u8 ((rd_T36 l0_0 x11_2).f0)) ∧ w'.cell? ⟨gb377, 1, none⟩ = some (.int .u8 ((rd_T36 l0_0 x11_2).f1)) ∧ w'.cell? ⟨gb377, 2, none⟩ = some (.int .u8 ((rd_T36 l0_0 x11_2).f2)) ∧ w'.cell? ⟨gb377, 3, none⟩ = some (.int .u8 ((rd_T36 l0_0 x11_2).f3)) ∧ w'.cell? ⟨gb367, 0, none⟩ = some (.slice (some ad376) l0_0.length c0_0) ∧ w'.cell? ⟨gb367, 1, none⟩ = some (.int .i64 a0_1) ∧ w'.cell? ⟨gb367, 2, none⟩ = some (.int .i64 a0_2) ∧ w'.cell? ⟨gb367, 3, none⟩ = some (.int .i64 a0_3) ∧ w'.cell? ⟨gb367, 4, none⟩ = some (.int .i64 a0_4) ∧ w'.cell? ⟨gb367, 5, none⟩ = some (.int .i64 a0_5) ∧ w'.cell? ⟨gb367, 6, none⟩ = some (.bool a0_6)) (ds := []) #[false, false, false, false, false, false, false, false, false, false, false, false, false, false, false] (by kernel_rfl) rfl rfl ⟨(blk_cell BK377.out 0).trans rfl, (blk_cell BK377.out 1).trans rfl, (blk_cell BK377.out 2).trans rfl, (blk_cell BK377.out 3).trans rfl, (blk_cell BK367.out 0).trans rfl, (blk_cell BK367.out 1).trans rfl, (blk_cell BK367.out 2).trans rfl, (blk_cell BK367.out 3).trans rfl, (blk_cell BK367.out 4).trans rfl, (blk_cell BK367.out 5).trans rfl, (blk_cell BK367.out 6).trans rfl⟩ (fun hHeld => ?_); refine with_tabW flagstonelaw41_population_misses.tab23 flagstonelaw41_population_misses.bits23 (fun HT_ HW_ => ?_)
               generalize w47.drew = w49 at HO386 HO389 BK367 BK377 HB hHeld ⊢
               refine pure_ (i := 0) (N := some 108) (v := ?_) (a' := ?_) #[true, false, false, false, false, false, false, false, false, false, false, false, false, false, false] rfl rfl (any_of HT_.out (by kernel_rfl)) (fun _ _ _ h => h) (Or.inl ⟨by rfl, ?_⟩) ?_ ?_
               rotate_left
               ·intro w'
                go_simp
                with_reducible rfl
               rotate_left
               ·simp only [Act.put, List.setIfInBounds_toArray, List.set_cons_zero, List.set_cons_succ, i64_w, i32_w]
                rfl
               refine pure_ (i := 1) (N := some 109) (v := ?_) (a' := ?_) #[true, true, false, false, false, false, false, false, false, false, false, false, false, false, false] rfl rfl (any_of HT_.out (by kernel_rfl)) (fun _ _ _ h => h) (Or.inl ⟨by rfl, ?_⟩) ?_ ?_
               rotate_left
               ·intro w'
                go_simp
                with_reducible rfl
               rotate_left
               ·simp only [Act.put, List.setIfInBounds_toArray, List.set_cons_zero, List.set_cons_succ, i64_w, i32_w]
                rfl
               refine pure_ (i := 2) (N := some 110) (v := ?_) (a' := ?_) #[true, true, true, false, false, false, false, false, false, false, false, false, false, false, false] rfl rfl (any_of HT_.out (by kernel_rfl)) (fun _ _ _ h => h) (Or.inl ⟨by rfl, ?_⟩) ?_ ?_
               rotate_left
               ·intro w'
                go_simp
                with_reducible rfl
               rotate_left
               ·simp only [Act.put, List.setIfInBounds_toArray, List.set_cons_zero, List.set_cons_succ, i64_w, i32_w]
                rfl
               refine pure_ (i := 9) (N := some 117) (v := ?_) (a' := ?_) #[true, true, true, false, false, false, false, false, false, true, false, false, false, false, false] rfl rfl (any_of HT_.out (by kernel_rfl)) (fun _ _ _ h => h) (Or.inl ⟨by rfl, ?_⟩) ?_ ?_
               rotate_left
               ·intro w'
                go_simp
                with_reducible rfl
               rotate_left
               ·simp only [Act.put, List.setIfInBounds_toArray, List.set_cons_zero, List.set_cons_succ, i64_w, i32_w]
                rfl
               refine pure_ (i := 10) (N := some 118) (v := ?_) (a' := ?_) #[true, true, true, false, false, false, false, false, false, true, true, false, false, false, false] rfl rfl (any_of HT_.out (by kernel_rfl)) (fun _ _ _ h => h) (Or.inl ⟨by rfl, ?_⟩) ?_ ?_
               rotate_left
               ·intro w'
                go_simp
                with_reducible rfl
               rotate_left
               ·simp only [Act.put, List.setIfInBounds_toArray, List.set_cons_zero, List.set_cons_succ, i64_w, i32_w]
                rfl
               refine take_ (i := 3) (N := some 111) (v := ?_) (a' := ?_) #[true, true, true, true, false, false, false, false, false, true, true, false, false, false, false] rfl rfl (take_ofW HT_.out HW_.out (by kernel_rfl)) (fun _ _ _ h => h) (Or.inl ⟨by rfl, ?_⟩) hHeld ?_ ?_
               rotate_left
               ·rintro w' ⟨s0, s1, s2, s3, s4, s5, s6, s7, s8, s9, s10⟩
                go_simp
                with_reducible rfl
               rotate_left
               ·simp only [Act.put, List.setIfInBounds_toArray, List.set_cons_zero, List.set_cons_succ, i64_w, i32_w]
                rfl
               refine pure_ (i := 4) (N := some 112) (v := ?_) (a' := ?_) #[true, true, true, true, true, false, false, false, false, true, true, false, false, false, false] rfl rfl (any_of HT_.out (by kernel_rfl)) (fun _ _ _ h => h) (Or.inl ⟨by rfl, ?_⟩) ?_ ?_
               rotate_left
               ·intro w'
                go_simp
                with_reducible rfl
               rotate_left
               ·simp only [Act.put, List.setIfInBounds_toArray, List.set_cons_zero, List.set_cons_succ, i64_w, i32_w]
                rfl
               refine pure_ (i := 5) (N := some 113) (v := ?_) (a' := ?_) #[true, true, true, true, true, true, false, false, false, true, true, false, false, false, false] rfl rfl (any_of HT_.out (by kernel_rfl)) (fun _ _ _ h => h) (Or.inl ⟨by rfl, ?_⟩) ?_ ?_
               rotate_left
               ·intro w'
                go_simp
                with_reducible rfl
               rotate_left
               ·simp only [Act.put, List.setIfInBounds_toArray, List.set_cons_zero, List.set_cons_succ, i64_w, i32_w]
                rfl
               refine pure_ (i := 6) (N := some 114) (v := ?_) (a' := ?_) #[true, true, true, true, true, true, true, false, false, true, true, false, false, false, false] rfl rfl (any_of HT_.out (by kernel_rfl)) (fun _ _ _ h => h) (Or.inl ⟨by rfl, ?_⟩) ?_ ?_
               rotate_left
               ·intro w'
                go_simp
                with_reducible rfl
               rotate_left
               ·simp only [Act.put, List.setIfInBounds_toArray, List.set_cons_zero, List.set_cons_succ, i64_w, i32_w]
                rfl
               refine pure_ (i := 7) (N := some 115) (v := ?_) (a' := ?_) #[true, true, true, true, true, true, true, true, false, true, true, false, false, false, false] rfl rfl (any_of HT_.out (by kernel_rfl)) (fun _ _ _ h => h) (Or.inl ⟨by rfl, ?_⟩) ?_ ?_
               rotate_left
               ·intro w'
                go_simp
                with_reducible rfl
               rotate_left
               ·simp only [Act.put, List.setIfInBounds_toArray, List.set_cons_zero, List.set_cons_succ, i64_w, i32_w]
                rfl
               refine take_ (i := 8) (N := some 116) (v := ?_) (a' := ?_) #[true, true, true, true, true, true, true, true, true, true, true, false, false, false, false] rfl rfl (take_ofW HT_.out HW_.out (by kernel_rfl)) (fun _ _ _ h => h) (Or.inl ⟨by rfl, ?_⟩) hHeld ?_ ?_
               rotate_left
               ·rintro w' ⟨s0, s1, s2, s3, s4, s5, s6, s7, s8, s9, s10⟩
                go_simp
                with_reducible rfl
               rotate_left
               ·simp only [Act.put, List.setIfInBounds_toArray, List.set_cons_zero, List.set_cons_succ, i64_w, i32_w]
                rfl
               refine one_ (i := 11) (N := some 119) #[true, true, true, true, true, true, true, true, true, true, true, true, false, false, false] rfl rfl (one_of HT_.out (by kernel_rfl)) (by decide) (fun K hK => ?_)
               refine goes_ Try.func17 (by kernel_rfl) rfl #[.agg #[.slice (some ad376) l0_0.length c0_0, .int .i64 a0_1, .int .i64 a0_2, .int .i64 a0_3, .int .i64 a0_4, .int .i64 a0_5, .bool a0_6], .slice Ao50 y387.length co50, .int .i64 a2] (by rfl) rfl rfl (by (try simp only [List.map_toArray, List.map_cons, List.map_nil]); first | done | rfl | (simp only [List.length_drop, List.length_take]; rfl)) ?_
               with_reducible refine (ih k3 (by have := HJ4.out; have := HK2.out; have := HK3.out; omega) _ _ l0_0 a0_1 a0_2 a0_3 a0_4 a0_5 a0_6 _ _ y387 a2 t390 _ ?side1 ?side2 ?side3 ?side4 A37.out).mono ?_
               (case side1 => repeat (first | exact (Kd.C_below HR0_0.out HB.out) | (with_reducible refine Kd.C_alloc ?_ _) | (with_reducible refine Kd.C_drewN ?_ _) | (with_reducible refine Kd.C_drew ?_)))
               (case side2 => exact HC0_0.out)
               (case side3 => repeat (first | exact (Kd.R_reads' HO389.out).2.2 | (with_reducible refine Kd.C_alloc ?_ _) | (with_reducible refine Kd.C_drewN ?_ _) | (with_reducible refine Kd.C_drew ?_)))
               (case side4 => exact (Kd.R_reads' HO389.out).2.1)
               rintro e w51 ⟨rfl, hb⟩
               refine ⟨_, rfl, ?_⟩
               have n0_ := Aside0.mk (Kd.R_below (by (with_reducible repeat (first | apply Kd.R_alloc | apply Kd.R_drewN | apply Kd.R_drew)); exact HO386.out) hb)
               have n1_ := Aside0.mk (Kd.R_below (by (with_reducible repeat (first | apply Kd.R_alloc | apply Kd.R_drewN | apply Kd.R_drew)); exact HO389.out) hb)
               have n2_ := Aside0.mk (blk_below (g := gb367) (o := .cells #[.slice (some ad376) l0_0.length c0_0, .int .i64 a0_1, .int .i64 a0_2, .int .i64 a0_3, .int .i64 a0_4, .int .i64 a0_5, .bool a0_6] 39 (0, 0)) (by (with_reducible repeat (first | refine blk_drewN ?_ _ | refine blk_drew ?_ | refine blk_alloc ?_ _)); exact BK367.out) hb)
               have n3_ := Aside0.mk (blk_below (g := gb377) (o := .cells #[.int .u8 ((rd_T36 l0_0 x11_2).f0), .int .u8 ((rd_T36 l0_0 x11_2).f1), .int .u8 ((rd_T36 l0_0 x11_2).f2), .int .u8 ((rd_T36 l0_0 x11_2).f3)] 36 (0, 0)) (by (with_reducible repeat (first | refine blk_drewN ?_ _ | refine blk_drew ?_ | refine blk_alloc ?_ _)); exact BK377.out) hb)
               have n4_ := Aside0.mk (below_step (by repeat (first | (with_reducible first | exact HB.out | apply below_alloc | apply pw_below_drewN | apply below_drew1 | refine below_set ?_ GE367.out | refine below_set ?_ GE377.out) | exact HB.out)) hb)
               clear HO386
               clear HO389
               clear BK367
               clear BK377
               clear HB
               have HO386 := n0_
               have HO389 := n1_
               have BK367 := n2_
               have BK377 := n3_
               have HB := n4_
               clear n0_ n1_ n2_ n3_ n4_
               (try clear hb)
               (try clear hb2)
               (try clear hk)
               (try clear hi)
               refine hK.out _ _ ⟨(blk_cell BK377.out 0).trans rfl, (blk_cell BK377.out 1).trans rfl, (blk_cell BK377.out 2).trans rfl, (blk_cell BK377.out 3).trans rfl, (blk_cell BK367.out 0).trans rfl, (blk_cell BK367.out 1).trans rfl, (blk_cell BK367.out 2).trans rfl, (blk_cell BK367.out 3).trans rfl, (blk_cell BK367.out 4).trans rfl, (blk_cell BK367.out 5).trans rfl, (blk_cell BK367.out 6).trans rfl⟩ (fun hHeld => ?_)
               clear hK K
               refine norm_ (a' := ?_) ?_ ?_
               rotate_left
               ·show Act.put _ (some 119) _ = _
                simp only [Act.put, List.setIfInBounds_toArray, List.set_cons_zero, List.set_cons_succ, i64_w, i32_w]
                rfl
               refine pure_ (i := 12) (N := some 120) (v := ?_) (a' := ?_) #[true, true, true, true, true, true, true, true, true, true, true, true, true, false, false] rfl rfl (any_of HT_.out (by kernel_rfl)) (fun _ _ _ h => h) (Or.inl ⟨by rfl, ?_⟩) ?_ ?_
               rotate_left
               ·intro w'
                go_simp
                with_reducible rfl
               rotate_left
               ·simp only [Act.put, List.setIfInBounds_toArray, List.set_cons_zero, List.set_cons_succ, i64_w, i32_w]
                rfl
               refine pure_ (i := 13) (N := some 121) (v := ?_) (a' := ?_) #[true, true, true, true, true, true, true, true, true, true, true, true, true, true, false] rfl rfl (any_of HT_.out (by kernel_rfl)) (fun _ _ _ h => h) (Or.inl ⟨by rfl, ?_⟩) ?_ ?_
               rotate_left
               ·intro w'
                go_simp
                with_reducible rfl
               rotate_left
               ·simp only [Act.put, List.setIfInBounds_toArray, List.set_cons_zero, List.set_cons_succ, i64_w, i32_w]
                rfl
               refine pure_ (i := 14) (N := some 10) (v := ?_) (a' := ?_) #[true, true, true, true, true, true, true, true, true, true, true, true, true, true, true] rfl rfl (any_of HT_.out (by kernel_rfl)) (fun _ _ _ h => h) (Or.inl ⟨by rfl, ?_⟩) ?_ ?_
               rotate_left
               ·intro w'
                go_simp
                with_reducible rfl
               rotate_left
               ·simp only [Act.put, List.setIfInBounds_toArray, List.set_cons_zero, List.set_cons_succ, i64_w, i32_w]
                rfl
               refine done_ (done_of HT_.out (by kernel_rfl)) ?_
               try go_wp2
               go_roundg k3
               case measure => have := HJ4.out; have := HK2.out; have := HK3.out; omega
               case rel => exact ⟨(wrap64 (x10_3 + (wrap64 ((wrap64 (a0_3 * (wrap64 (1 + (Int.tmod (wrap64 (((rd_T36 l0_0 x11_2).f0))) 3))))) * t390)))), (wrap64 (x13_3 + 1)), (by first | rfl | (simp; done) | (simp [*]; done) | exact congrArg (Value.int _) (by unfold wrap64; omega)), (by first | rfl | (simp; done) | (simp [*]; done) | exact congrArg (Value.int _) (by unfold wrap64; omega)), H', ⟨by have := HJ4.out; have := HK2.out; have := HK3.out; omega⟩, ⟨by (with_reducible repeat (first | refine blk_drewN ?_ _ | refine blk_drew ?_ | refine blk_alloc ?_ _)); exact BK367.out⟩, ⟨by (with_reducible repeat (first | refine blk_drewN ?_ _ | refine blk_drew ?_ | refine blk_alloc ?_ _)); exact BK377.out⟩, ⟨by repeat (first | (with_reducible first | exact HB.out | apply below_alloc | apply pw_below_drewN | apply below_drew1 | refine below_set ?_ GE367.out | refine below_set ?_ GE377.out) | exact HB.out)⟩⟩
              ·rw [if_neg c36] at H
               exact absurd H (by simp)
             ·rw [if_neg c35] at H
              exact absurd H (by simp)
            ·rw [if_neg c34] at H
             have c34b0 : (x13_3 == 2) = false := beq_eq_false_iff_ne.mpr c34
             have c34b1 : (x13_3 != 2) = true := bne_iff_ne.mpr c34
             obtain ⟨y391, hy391⟩ : ∃ y_ : List (S70), y_ = (([] : List (S70))) := ⟨_, rfl⟩
             replace H : (if y391.length + l1.length < 1466015503701 then ((some (y391 ++ l1 : List (S70))).bind fun y394 => ((some (([(⟨(⟨(⟨#[]⟩ : ByteArray), (⟨#[]⟩ : ByteArray), 0, 0, x13_3, 1⟩ : S68), Int.tmod (wrap64 (((rd_T36 l0_0 x11_2).f2))) 21, 0, Int.tmod (wrap64 (((rd_T36 l0_0 x11_2).f1))) 3, false⟩ : S70)] : List (S70)) : List (S70))).bind fun y397 => (if y394.length + y397.length < 1466015503701 then ((flagstonelaw41_population_misses.f k3 l0_0 a0_1 a0_2 a0_3 a0_4 a0_5 a0_6 (y394 ++ y397) a2).bind fun t403 => (flagstonelaw41_population_misses.l2 k3 l1 a2 (wrap64 (x10_3 + (wrap64 ((wrap64 (a0_2 * (wrap64 (1 + (Int.tmod (wrap64 (((rd_T36 l0_0 x11_2).f0))) 3))))) * t403)))) x11_2 (wrap64 (x13_3 + 1)) l0_0 a0_1 a0_2 a0_3 a0_4 a0_5 a0_6 ((rd_T36 l0_0 x11_2).f0) ((rd_T36 l0_0 x11_2).f1) ((rd_T36 l0_0 x11_2).f2) ((rd_T36 l0_0 x11_2).f3))) else (none)))) else (none)) = some r := by first | (rw [hy391]; with_reducible exact H) | (have H2_ := (Option.bind_some _ _).symm.trans H; rw [hy391]; with_reducible exact H2_) | (have H2_ := (Option.bind_some _ _).symm.trans H; with_reducible exact H2_) | with_reducible exact H | (rw [hy391]; exact H) | exact H
             have Ny391 := Aside0.mk hy391
             clear hy391
             by_cases c52 : y391.length + l1.length < 1466015503701
             ·rw [if_pos c52] at H
              have LMc52 := Aside0.mk c52
              clear c52
              obtain ⟨y394, hy394⟩ : ∃ y_ : List (S70), y_ = (y391 ++ l1) := ⟨_, rfl⟩
              replace H : ((some (([(⟨(⟨(⟨#[]⟩ : ByteArray), (⟨#[]⟩ : ByteArray), 0, 0, x13_3, 1⟩ : S68), Int.tmod (wrap64 (((rd_T36 l0_0 x11_2).f2))) 21, 0, Int.tmod (wrap64 (((rd_T36 l0_0 x11_2).f1))) 3, false⟩ : S70)] : List (S70)) : List (S70))).bind fun y397 => (if y394.length + y397.length < 1466015503701 then ((flagstonelaw41_population_misses.f k3 l0_0 a0_1 a0_2 a0_3 a0_4 a0_5 a0_6 (y394 ++ y397) a2).bind fun t403 => (flagstonelaw41_population_misses.l2 k3 l1 a2 (wrap64 (x10_3 + (wrap64 ((wrap64 (a0_2 * (wrap64 (1 + (Int.tmod (wrap64 (((rd_T36 l0_0 x11_2).f0))) 3))))) * t403)))) x11_2 (wrap64 (x13_3 + 1)) l0_0 a0_1 a0_2 a0_3 a0_4 a0_5 a0_6 ((rd_T36 l0_0 x11_2).f0) ((rd_T36 l0_0 x11_2).f1) ((rd_T36 l0_0 x11_2).f2) ((rd_T36 l0_0 x11_2).f3))) else (none))) = some r := by first | (rw [hy394]; with_reducible exact H) | (have H2_ := (Option.bind_some _ _).symm.trans H; rw [hy394]; with_reducible exact H2_) | (have H2_ := (Option.bind_some _ _).symm.trans H; with_reducible exact H2_) | with_reducible exact H | (rw [hy394]; exact H) | exact H
              have Ny394 := Aside0.mk hy394
              clear hy394
              obtain ⟨y397, hy397⟩ : ∃ y_ : List (S70), y_ = (([(⟨(⟨(⟨#[]⟩ : ByteArray), (⟨#[]⟩ : ByteArray), 0, 0, x13_3, 1⟩ : S68), Int.tmod (wrap64 (((rd_T36 l0_0 x11_2).f2))) 21, 0, Int.tmod (wrap64 (((rd_T36 l0_0 x11_2).f1))) 3, false⟩ : S70)] : List (S70))) := ⟨_, rfl⟩
              replace H : (if y394.length + y397.length < 1466015503701 then ((flagstonelaw41_population_misses.f k3 l0_0 a0_1 a0_2 a0_3 a0_4 a0_5 a0_6 (y394 ++ y397) a2).bind fun t403 => (flagstonelaw41_population_misses.l2 k3 l1 a2 (wrap64 (x10_3 + (wrap64 ((wrap64 (a0_2 * (wrap64 (1 + (Int.tmod (wrap64 (((rd_T36 l0_0 x11_2).f0))) 3))))) * t403)))) x11_2 (wrap64 (x13_3 + 1)) l0_0 a0_1 a0_2 a0_3 a0_4 a0_5 a0_6 ((rd_T36 l0_0 x11_2).f0) ((rd_T36 l0_0 x11_2).f1) ((rd_T36 l0_0 x11_2).f2) ((rd_T36 l0_0 x11_2).f3))) else (none)) = some r := by first | (rw [hy397]; with_reducible exact H) | (have H2_ := (Option.bind_some _ _).symm.trans H; rw [hy397]; with_reducible exact H2_) | (have H2_ := (Option.bind_some _ _).symm.trans H; with_reducible exact H2_) | with_reducible exact H | (rw [hy397]; exact H) | exact H
              have Ny397 := Aside0.mk hy397
              clear hy397
              by_cases c53 : y394.length + y397.length < 1466015503701
              ·rw [if_pos c53] at H
               have LMc53 := Aside0.mk c53
               clear c53
               obtain ⟨y400, hy400⟩ : ∃ y_ : List (S70), y_ = (y394 ++ y397) := ⟨_, rfl⟩
               replace H : ((flagstonelaw41_population_misses.f k3 l0_0 a0_1 a0_2 a0_3 a0_4 a0_5 a0_6 y400 a2).bind fun t403 => (flagstonelaw41_population_misses.l2 k3 l1 a2 (wrap64 (x10_3 + (wrap64 ((wrap64 (a0_2 * (wrap64 (1 + (Int.tmod (wrap64 (((rd_T36 l0_0 x11_2).f0))) 3))))) * t403)))) x11_2 (wrap64 (x13_3 + 1)) l0_0 a0_1 a0_2 a0_3 a0_4 a0_5 a0_6 ((rd_T36 l0_0 x11_2).f0) ((rd_T36 l0_0 x11_2).f1) ((rd_T36 l0_0 x11_2).f2) ((rd_T36 l0_0 x11_2).f3))) = some r := by first | (rw [hy400]; with_reducible exact H) | (have H2_ := (Option.bind_some _ _).symm.trans H; rw [hy400]; with_reducible exact H2_) | (have H2_ := (Option.bind_some _ _).symm.trans H; with_reducible exact H2_) | with_reducible exact H | (rw [hy400]; exact H) | exact H
               have Ny400 := Aside0.mk hy400
               clear hy400
               replace H := Option.bind_eq_some_iff.mp H
               obtain ⟨t403, A540, H⟩ := H
               replace H : (flagstonelaw41_population_misses.l2 k3 l1 a2 (wrap64 (x10_3 + (wrap64 ((wrap64 (a0_2 * (wrap64 (1 + (Int.tmod (wrap64 (((rd_T36 l0_0 x11_2).f0))) 3))))) * t403)))) x11_2 (wrap64 (x13_3 + 1)) l0_0 a0_1 a0_2 a0_3 a0_4 a0_5 a0_6 ((rd_T36 l0_0 x11_2).f0) ((rd_T36 l0_0 x11_2).f1) ((rd_T36 l0_0 x11_2).f2) ((rd_T36 l0_0 x11_2).f3)) = some r := H
               have A54 := Aside0.mk A540
               clear A540
               have H' := Aside0.mk H
               clear H
               try go_wp2
               have n0_ := Aside0.mk (blk_drew BK367.out)
               have n1_ := Aside0.mk (blk_drew BK377.out)
               have n2_ := Aside0.mk (below_drew1 HB.out)
               clear BK367
               clear BK377
               clear HB
               have BK367 := n0_
               have BK377 := n1_
               have HB := n2_
               clear n0_ n1_ n2_
               refine start_ (n := 8) (S := fun w' => w'.cell? ⟨gb377, 0, none⟩ = some (.int .u8 ((rd_T36 l0_0 x11_2).f0)) ∧ w'.cell? ⟨gb377, 1, none⟩ = some (.int .u8 ((rd_T36 l0_0 x11_2).f1)) ∧ w'.cell? ⟨gb377, 2, none⟩ = some (.int .u8 ((rd_T36 l0_0 x11_2).f2)) ∧ w'.cell? ⟨gb377, 3, none⟩ = some (.int .u8 ((rd_T36 l0_0 x11_2).f3)) ∧ w'.cell? ⟨gb367, 0, none⟩ = some (.slice (some ad376) l0_0.length c0_0) ∧ w'.cell? ⟨gb367, 1, none⟩ = some (.int .i64 a0_1) ∧ w'.cell? ⟨gb367, 2, none⟩ = some (.int .i64 a0_2) ∧ w'.cell? ⟨gb367, 3, none⟩ = some (.int .i64 a0_3) ∧ w'.cell? ⟨gb367, 4, none⟩ = some (.int .i64 a0_4) ∧ w'.cell? ⟨gb367, 5, none⟩ = some (.int .i64 a0_5) ∧ w'.cell? ⟨gb367, 6, none⟩ = some (.bool a0_6)) (ds := []) #[false, false, false, false, false, false, false, false] (by kernel_rfl) rfl rfl ⟨(blk_cell BK377.out 0).trans rfl, (blk_cell BK377.out 1).trans rfl, (blk_cell BK377.out 2).trans rfl, (blk_cell BK377.out 3).trans rfl, (blk_cell BK367.out 0).trans rfl, (blk_cell BK367.out 1).trans rfl, (blk_cell BK367.out 2).trans rfl, (blk_cell BK367.out 3).trans rfl, (blk_cell BK367.out 4).trans rfl, (blk_cell BK367.out 5).trans rfl, (blk_cell BK367.out 6).trans rfl⟩ (fun hHeld => ?_); refine with_tabW flagstonelaw41_population_misses.tab19 flagstonelaw41_population_misses.bits19 (fun HT_ HW_ => ?_)
               generalize wr.drew = w55 at BK367 BK377 HB hHeld ⊢
               refine pure_ (i := 0) (N := some 81) (v := ?_) (a' := ?_) #[true, false, false, false, false, false, false, false] rfl rfl (any_of HT_.out (by kernel_rfl)) (fun _ _ _ h => h) (Or.inl ⟨by rfl, ?_⟩) ?_ ?_
               rotate_left
               ·intro w'
                go_simp
                with_reducible rfl
               rotate_left
               ·simp only [Act.put, List.setIfInBounds_toArray, List.set_cons_zero, List.set_cons_succ, i64_w, i32_w]
                rfl
               refine pure_ (i := 4) (N := some 85) (v := ?_) (a' := ?_) #[true, false, false, false, true, false, false, false] rfl rfl (any_of HT_.out (by kernel_rfl)) (fun _ _ _ h => h) (Or.inl ⟨by rfl, ?_⟩) ?_ ?_
               rotate_left
               ·intro w'
                go_simp
                with_reducible rfl
               rotate_left
               ·simp only [Act.put, List.setIfInBounds_toArray, List.set_cons_zero, List.set_cons_succ, i64_w, i32_w]
                rfl
               refine take_ (i := 1) (N := some 82) (v := ?_) (a' := ?_) #[true, true, false, false, true, false, false, false] rfl rfl (take_ofW HT_.out HW_.out (by kernel_rfl)) (fun _ _ _ h => h) (Or.inl ⟨by rfl, ?_⟩) hHeld ?_ ?_
               rotate_left
               ·rintro w' ⟨s0, s1, s2, s3, s4, s5, s6, s7, s8, s9, s10⟩
                go_simp
                with_reducible rfl
               rotate_left
               ·simp only [Act.put, List.setIfInBounds_toArray, List.set_cons_zero, List.set_cons_succ, i64_w, i32_w]
                rfl
               refine pure_ (i := 2) (N := some 83) (v := ?_) (a' := ?_) #[true, true, true, false, true, false, false, false] rfl rfl (any_of HT_.out (by kernel_rfl)) (fun _ _ _ h => h) (Or.inl ⟨by rfl, ?_⟩) ?_ ?_
               rotate_left
               ·intro w'
                go_simp
                with_reducible rfl
               rotate_left
               ·simp only [Act.put, List.setIfInBounds_toArray, List.set_cons_zero, List.set_cons_succ, i64_w, i32_w]
                rfl
               refine pure_ (i := 3) (N := some 84) (v := ?_) (a' := ?_) #[true, true, true, true, true, false, false, false] rfl rfl (any_of HT_.out (by kernel_rfl)) (fun _ _ _ h => h) (Or.inl ⟨by rfl, ?_⟩) ?_ ?_
               rotate_left
               ·intro w'
                go_simp
                with_reducible rfl
               rotate_left
               ·simp only [Act.put, List.setIfInBounds_toArray, List.set_cons_zero, List.set_cons_succ, i64_w, i32_w]
                rfl
               refine pure_ (i := 6) (N := some 14) (v := ?_) (a' := ?_) #[true, true, true, true, true, false, true, false] rfl rfl (any_of HT_.out (by kernel_rfl)) (fun _ _ _ h => h) (Or.inl ⟨by rfl, ?_⟩) ?_ ?_
               rotate_left
               ·intro w'
                go_simp
                with_reducible rfl
               rotate_left
               ·simp only [Act.put, List.setIfInBounds_toArray, List.set_cons_zero, List.set_cons_succ, i64_w, i32_w]
                rfl
               refine take_ (i := 5) (N := some 86) (v := ?_) (a' := ?_) #[true, true, true, true, true, true, true, false] rfl rfl (take_ofW HT_.out HW_.out (by kernel_rfl)) (fun _ _ _ h => h) (Or.inl ⟨by rfl, ?_⟩) hHeld ?_ ?_
               rotate_left
               ·rintro w' ⟨s0, s1, s2, s3, s4, s5, s6, s7, s8, s9, s10⟩
                go_simp
                with_reducible rfl
               rotate_left
               ·simp only [Act.put, List.setIfInBounds_toArray, List.set_cons_zero, List.set_cons_succ, i64_w, i32_w]
                rfl
               refine pure_ (i := 7) (N := some 15) (v := ?_) (a' := ?_) #[true, true, true, true, true, true, true, true] rfl rfl (any_of HT_.out (by kernel_rfl)) (fun _ _ _ h => h) (Or.inl ⟨by rfl, ?_⟩) ?_ ?_
               rotate_left
               ·intro w'
                go_simp
                with_reducible rfl
               rotate_left
               ·simp only [Act.put, List.setIfInBounds_toArray, List.set_cons_zero, List.set_cons_succ, i64_w, i32_w]
                rfl
               refine done_ (done_of HT_.out (by kernel_rfl)) ?_
               try go_wp2
               have n0_ := Aside0.mk (blk_drew BK367.out)
               have n1_ := Aside0.mk (blk_drew BK377.out)
               have n2_ := Aside0.mk (below_drew1 HB.out)
               clear BK367
               clear BK377
               clear HB
               have BK367 := n0_
               have BK377 := n1_
               have HB := n2_
               clear n0_ n1_ n2_
               refine start_ (n := 14) (S := fun w' => w'.cell? ⟨gb377, 0, none⟩ = some (.int .u8 ((rd_T36 l0_0 x11_2).f0)) ∧ w'.cell? ⟨gb377, 1, none⟩ = some (.int .u8 ((rd_T36 l0_0 x11_2).f1)) ∧ w'.cell? ⟨gb377, 2, none⟩ = some (.int .u8 ((rd_T36 l0_0 x11_2).f2)) ∧ w'.cell? ⟨gb377, 3, none⟩ = some (.int .u8 ((rd_T36 l0_0 x11_2).f3))) (ds := []) #[false, false, false, false, false, false, false, false, false, false, false, false, false, false] (by kernel_rfl) rfl rfl ⟨(blk_cell BK377.out 0).trans rfl, (blk_cell BK377.out 1).trans rfl, (blk_cell BK377.out 2).trans rfl, (blk_cell BK377.out 3).trans rfl⟩ (fun hHeld => ?_); refine with_tabW flagstonelaw41_population_misses.tab22 flagstonelaw41_population_misses.bits22 (fun HT_ HW_ => ?_)
               generalize w55.drew = w56 at BK367 BK377 HB hHeld ⊢
               refine pure_ (i := 1) (N := some 96) (v := ?_) (a' := ?_) #[false, true, false, false, false, false, false, false, false, false, false, false, false, false] rfl rfl (any_of HT_.out (by kernel_rfl)) (fun _ _ _ h => h) (Or.inl ⟨by rfl, ?_⟩) ?_ ?_
               rotate_left
               ·intro w'
                go_simp
                with_reducible rfl
               rotate_left
               ·simp only [Act.put, List.setIfInBounds_toArray, List.set_cons_zero, List.set_cons_succ, i64_w, i32_w]
                rfl
               refine pure_ (i := 3) (N := some 98) (v := ?_) (a' := ?_) #[false, true, false, true, false, false, false, false, false, false, false, false, false, false] rfl rfl (any_of HT_.out (by kernel_rfl)) (fun _ _ _ h => h) (Or.inl ⟨by rfl, ?_⟩) ?_ ?_
               rotate_left
               ·intro w'
                go_simp
                with_reducible rfl
               rotate_left
               ·simp only [Act.put, List.setIfInBounds_toArray, List.set_cons_zero, List.set_cons_succ, i64_w, i32_w]
                rfl
               refine pure_ (i := 4) (N := some 99) (v := ?_) (a' := ?_) #[false, true, false, true, true, false, false, false, false, false, false, false, false, false] rfl rfl (any_of HT_.out (by kernel_rfl)) (fun _ _ _ h => h) (Or.inl ⟨by rfl, ?_⟩) ?_ ?_
               rotate_left
               ·intro w'
                go_simp
                with_reducible rfl
               rotate_left
               ·simp only [Act.put, List.setIfInBounds_toArray, List.set_cons_zero, List.set_cons_succ, i64_w, i32_w]
                rfl
               refine pure_ (i := 5) (N := some 100) (v := ?_) (a' := ?_) #[false, true, false, true, true, true, false, false, false, false, false, false, false, false] rfl rfl (any_of HT_.out (by kernel_rfl)) (fun _ _ _ h => h) (Or.inl ⟨by rfl, ?_⟩) ?_ ?_
               rotate_left
               ·intro w'
                go_simp
                with_reducible rfl
               rotate_left
               ·simp only [Act.put, List.setIfInBounds_toArray, List.set_cons_zero, List.set_cons_succ, i64_w, i32_w]
                rfl
               refine pure_ (i := 6) (N := some 101) (v := ?_) (a' := ?_) #[false, true, false, true, true, true, true, false, false, false, false, false, false, false] rfl rfl (any_of HT_.out (by kernel_rfl)) (fun _ _ _ h => h) (Or.inl ⟨by rfl, ?_⟩) ?_ ?_
               rotate_left
               ·intro w'
                go_simp
                with_reducible rfl
               rotate_left
               ·simp only [Act.put, List.setIfInBounds_toArray, List.set_cons_zero, List.set_cons_succ, i64_w, i32_w]
                rfl
               refine take_ (i := 7) (N := some 102) (v := ?_) (a' := ?_) #[false, true, false, true, true, true, true, true, false, false, false, false, false, false] rfl rfl (take_ofW HT_.out HW_.out (by kernel_rfl)) (fun _ _ _ h => h) (Or.inl ⟨by rfl, ?_⟩) hHeld ?_ ?_
               rotate_left
               ·rintro w' ⟨s0, s1, s2, s3⟩
                go_simp
                with_reducible rfl
               rotate_left
               ·simp only [Act.put, List.setIfInBounds_toArray, List.set_cons_zero, List.set_cons_succ, i64_w, i32_w]
                rfl
               refine pure_ (i := 8) (N := some 103) (v := ?_) (a' := ?_) #[false, true, false, true, true, true, true, true, true, false, false, false, false, false] rfl rfl (any_of HT_.out (by kernel_rfl)) (fun _ _ _ h => h) (Or.inl ⟨by rfl, ?_⟩) ?_ ?_
               rotate_left
               ·intro w'
                go_simp
                with_reducible rfl
               rotate_left
               ·simp only [Act.put, List.setIfInBounds_toArray, List.set_cons_zero, List.set_cons_succ, i64_w, i32_w]
                rfl
               refine pure_ (i := 9) (N := some 104) (v := ?_) (a' := ?_) #[false, true, false, true, true, true, true, true, true, true, false, false, false, false] rfl rfl (any_of HT_.out (by kernel_rfl)) (fun _ _ _ h => h) (Or.inl ⟨by rfl, ?_⟩) ?_ ?_
               rotate_left
               ·intro w'
                go_simp
                with_reducible rfl
               rotate_left
               ·simp only [Act.put, List.setIfInBounds_toArray, List.set_cons_zero, List.set_cons_succ, i64_w, i32_w]
                rfl
               refine pure_ (i := 10) (N := some 105) (v := ?_) (a' := ?_) #[false, true, false, true, true, true, true, true, true, true, true, false, false, false] rfl rfl (any_of HT_.out (by kernel_rfl)) (fun _ _ _ h => h) (Or.inl ⟨by rfl, ?_⟩) ?_ ?_
               rotate_left
               ·intro w'
                go_simp
                with_reducible rfl
               rotate_left
               ·simp only [Act.put, List.setIfInBounds_toArray, List.set_cons_zero, List.set_cons_succ, i64_w, i32_w]
                rfl
               refine join_ (σ := Value × Value × Value) 2 #[true, true, true, true, true, true, true, true, true, true, true, true, false, false] (fun s_ => [(95, s_.1), (97, s_.2.1), (106, s_.2.2)]) (fun s_ w' => (w'.cell? ⟨gb377, 0, none⟩ = some (.int .u8 ((rd_T36 l0_0 x11_2).f0)) ∧ w'.cell? ⟨gb377, 1, none⟩ = some (.int .u8 ((rd_T36 l0_0 x11_2).f1)) ∧ w'.cell? ⟨gb377, 2, none⟩ = some (.int .u8 ((rd_T36 l0_0 x11_2).f2)) ∧ w'.cell? ⟨gb377, 3, none⟩ = some (.int .u8 ((rd_T36 l0_0 x11_2).f3))) ∧ (Kd.R k70 70 w' w.heap.size (fun k_ => some k_ ≠ (s_.2.2 : Value).ownBlock) s_.2.1 y394) ∧ (Kd.R k70 70 w' w.heap.size (fun k_ => some k_ ≠ (s_.2.1 : Value).ownBlock) s_.2.2 y397) ∧ (w'.heap[gb367]? = some (.cells #[.slice (some ad376) l0_0.length c0_0, .int .i64 a0_1, .int .i64 a0_2, .int .i64 a0_3, .int .i64 a0_4, .int .i64 a0_5, .bool a0_6] 39 (0, 0))) ∧ (w'.heap[gb377]? = some (.cells #[.int .u8 ((rd_T36 l0_0 x11_2).f0), .int .u8 ((rd_T36 l0_0 x11_2).f1), .int .u8 ((rd_T36 l0_0 x11_2).f2), .int .u8 ((rd_T36 l0_0 x11_2).f3)] 36 (0, 0))) ∧ (Below w.heap.size w w')) ?_ ?_
               rotate_left
               ·intro hCont
                refine two_ (i := 0) (j := 11) (Ni := some 95) (Nj := some 106) #[true, true, false, true, true, true, true, true, true, true, true, false, false, false] #[false, true, false, true, true, true, true, true, true, true, true, true, false, false] rfl rfl rfl rfl (two_of HT_.out (by kernel_rfl)) (by decide) (by decide) (fun K hK => ?_) (fun K hK => ?_)
                ·skip
                 refine Kd.R_lit_step k70 _ 70 ?hg (N := 95) ?hd (xs := ([] : List (S70))) (inner := []) (ok := fun _ => True) (okp := fun _ => True) ?hr ?hp (fun _ hk => hk) trivial (Below.refl _ _) (Nat.le_refl _) (by simp) ?_; (case hd => rfl); (case hg => rfl); (case hr => first | (go_simp; done) | (go_simp; rfl)); (case hp => exact (Reps.none _ _))
                 intro v392 w57 ho58 hb hg_ hnew_
                 clear hg_ hnew_
                 (first | rw [← Ny391.out] at ho58 | (simp only [Int.reduceToNat] at ho58; rw [← Ny391.out] at ho58))
                 have n0_ := Aside0.mk (Kd.R_lower ho58 (below_size (by repeat (first | (with_reducible first | exact HB.out | apply below_alloc | apply pw_below_drewN | apply below_drew1 | refine below_set ?_ GE367.out | refine below_set ?_ GE377.out) | exact HB.out))))
                 have n1_ := Aside0.mk (blk_below (g := gb367) (o := .cells #[.slice (some ad376) l0_0.length c0_0, .int .i64 a0_1, .int .i64 a0_2, .int .i64 a0_3, .int .i64 a0_4, .int .i64 a0_5, .bool a0_6] 39 (0, 0)) (by (with_reducible repeat (first | refine blk_drewN ?_ _ | refine blk_drew ?_ | refine blk_alloc ?_ _)); exact BK367.out) hb)
                 have n2_ := Aside0.mk (blk_below (g := gb377) (o := .cells #[.int .u8 ((rd_T36 l0_0 x11_2).f0), .int .u8 ((rd_T36 l0_0 x11_2).f1), .int .u8 ((rd_T36 l0_0 x11_2).f2), .int .u8 ((rd_T36 l0_0 x11_2).f3)] 36 (0, 0)) (by (with_reducible repeat (first | refine blk_drewN ?_ _ | refine blk_drew ?_ | refine blk_alloc ?_ _)); exact BK377.out) hb)
                 have n3_ := Aside0.mk (below_step (by repeat (first | (with_reducible first | exact HB.out | apply below_alloc | apply pw_below_drewN | apply below_drew1 | refine below_set ?_ GE367.out | refine below_set ?_ GE377.out) | exact HB.out)) hb)
                 clear BK367
                 clear BK377
                 clear HB
                 have HO393 := n0_
                 have BK367 := n1_
                 have BK377 := n2_
                 have HB := n3_
                 clear n0_ n1_ n2_ n3_
                 clear hb ho58
                 refine hK.out _ _ ⟨(blk_cell BK377.out 0).trans rfl, (blk_cell BK377.out 1).trans rfl, (blk_cell BK377.out 2).trans rfl, (blk_cell BK377.out 3).trans rfl⟩ (fun hHeld => ?_)
                 clear hK K
                 refine norm_ (a' := ?_) ?_ ?_
                 rotate_left
                 ·show Act.put _ (some 95) _ = _
                  simp only [Act.put, List.setIfInBounds_toArray, List.set_cons_zero, List.set_cons_succ, i64_w, i32_w]
                  rfl
                 refine two_ (i := 2) (j := 11) (Ni := some 97) (Nj := some 106) #[true, true, true, true, true, true, true, true, true, true, true, false, false, false] #[true, true, false, true, true, true, true, true, true, true, true, true, false, false] rfl rfl rfl rfl (two_of HT_.out (by kernel_rfl)) (by decide) (by decide) (fun K hK => ?_) (fun K hK => ?_)
                 ·skip
                  refine Kd.R_append_rows_step k70 (w0 := w) w.heap.size (by rfl) (.tmp 95) (.tmp 96) 62 70 (.agg #[(.string ⟨#[]⟩), (.string ⟨#[]⟩), (.int .i64 0), (.int .i64 0), (.int .i64 0), (.int .i64 0), (.int .i64 0), (.int .i64 0), (.int .i64 0), (.bool false)]) 96 rfl Try.underlying62 info70 rfl (by decide) (by omega) v392 y391 l1 _ _ _ (fun _ => True) (fun _ => False) rfl rfl ?aO ?aR (fun _ _ h => h) (fun _ h => h.elim) ?aF ?aB ?aS ?aL ?_
                  (case aR => repeat (first | exact (Kd.C_below HR1.out HB.out) | (with_reducible refine Kd.C_alloc ?_ _) | (with_reducible refine Kd.C_drewN ?_ _) | (with_reducible refine Kd.C_drew ?_)))
                  (case aB => exact (by repeat (first | (with_reducible first | exact HB.out | apply below_alloc | apply pw_below_drewN | apply below_drew1 | refine below_set ?_ GE367.out | refine below_set ?_ GE377.out) | exact HB.out)))
                  (case aF => exact (fun _ _ => trivial))
                  (case aO => exact (by (with_reducible repeat (first | apply Kd.R_alloc | apply Kd.R_drewN | apply Kd.R_drew)); exact HO393.out))
                  (case aS => exact (below_size (by repeat (first | (with_reducible first | exact HB.out | apply below_alloc | apply pw_below_drewN | apply below_drew1 | refine below_set ?_ GE367.out | refine below_set ?_ GE377.out) | exact HB.out))))
                  (case aL => have := LMc52.out; omega)
                  intro v395 w59 ho hb hg hat
                  rw [← Ny394.out] at ho
                  have n0_ := Aside0.mk (blk_grown (g := gb367) (o := .cells #[.slice (some ad376) l0_0.length c0_0, .int .i64 a0_1, .int .i64 a0_2, .int .i64 a0_3, .int .i64 a0_4, .int .i64 a0_5, .bool a0_6] 39 (0, 0)) (by (with_reducible repeat (first | refine blk_drewN ?_ _ | refine blk_drew ?_ | refine blk_alloc ?_ _)); exact BK367.out) hg (Kd.R_ne HO393.out BK367.out (by decide)))
                  have n1_ := Aside0.mk (blk_grown (g := gb377) (o := .cells #[.int .u8 ((rd_T36 l0_0 x11_2).f0), .int .u8 ((rd_T36 l0_0 x11_2).f1), .int .u8 ((rd_T36 l0_0 x11_2).f2), .int .u8 ((rd_T36 l0_0 x11_2).f3)] 36 (0, 0)) (by (with_reducible repeat (first | refine blk_drewN ?_ _ | refine blk_drew ?_ | refine blk_alloc ?_ _)); exact BK377.out) hg (Kd.R_ne HO393.out BK377.out (by decide)))
                  have n2_ := Aside0.mk (hb)
                  have n3_ := Aside0.mk (ho)
                  clear BK367
                  clear BK377
                  clear HB
                  clear HO393
                  have BK367 := n0_
                  have BK377 := n1_
                  have HB := n2_
                  have HO396 := n3_
                  clear n0_ n1_ n2_ n3_
                  clear ho hb hg hat
                  refine hK.out _ _ ⟨(blk_cell BK377.out 0).trans rfl, (blk_cell BK377.out 1).trans rfl, (blk_cell BK377.out 2).trans rfl, (blk_cell BK377.out 3).trans rfl⟩ (fun hHeld => ?_)
                  clear hK K
                  refine norm_ (a' := ?_) ?_ ?_
                  rotate_left
                  ·show Act.put _ (some 97) _ = _
                   simp only [Act.put, List.setIfInBounds_toArray, List.set_cons_zero, List.set_cons_succ, i64_w, i32_w]
                   rfl
                  refine one_ (i := 11) (N := some 106) #[true, true, true, true, true, true, true, true, true, true, true, true, false, false] rfl rfl (one_of HT_.out (by kernel_rfl)) (by decide) (fun K hK => ?_)
                  refine Kd.R_lit_step k70 _ 70 ?hg (N := 106) ?hd (xs := ([(⟨(⟨(⟨#[]⟩ : ByteArray), (⟨#[]⟩ : ByteArray), 0, 0, x13_3, 1⟩ : S68), Int.tmod (wrap64 (((rd_T36 l0_0 x11_2).f2))) 21, 0, Int.tmod (wrap64 (((rd_T36 l0_0 x11_2).f1))) 3, false⟩ : S70)] : List (S70))) (inner := [.string (⟨#[]⟩ : ByteArray), .string (⟨#[]⟩ : ByteArray), .int .i64 0, .int .i64 0, .int .i64 x13_3, .int .i64 1, .int .i64 (Int.tmod (wrap64 (((rd_T36 l0_0 x11_2).f2))) 21), .int .i64 0, .int .i64 (Int.tmod (wrap64 (((rd_T36 l0_0 x11_2).f1))) 3), .bool false]) (ok := fun _ => True) (okp := fun _ => True) ?hr ?hp (fun _ hk => hk) trivial (Below.refl _ _) (Nat.le_refl _) (by simp) ?_; (case hd => rfl); (case hg => rfl); (case hr => first | (go_simp; done) | (go_simp; rfl)); (case hp => exact (Reps.c10 (show Kd.M k70 _ _ _ (⟨(⟨(⟨#[]⟩ : ByteArray), (⟨#[]⟩ : ByteArray), 0, 0, x13_3, 1⟩ : S68), Int.tmod (wrap64 (((rd_T36 l0_0 x11_2).f2))) 21, 0, Int.tmod (wrap64 (((rd_T36 l0_0 x11_2).f1))) 3, false⟩ : S70) [.string (⟨#[]⟩ : ByteArray), .string (⟨#[]⟩ : ByteArray), .int .i64 0, .int .i64 0, .int .i64 x13_3, .int .i64 1, .int .i64 (Int.tmod (wrap64 (((rd_T36 l0_0 x11_2).f2))) 21), .int .i64 0, .int .i64 (Int.tmod (wrap64 (((rd_T36 l0_0 x11_2).f1))) 3), .bool false] from (k70_mkM _ _ _ (⟨(⟨(⟨#[]⟩ : ByteArray), (⟨#[]⟩ : ByteArray), 0, 0, x13_3, 1⟩ : S68), Int.tmod (wrap64 (((rd_T36 l0_0 x11_2).f2))) 21, 0, Int.tmod (wrap64 (((rd_T36 l0_0 x11_2).f1))) 3, false⟩ : S70) )) (Reps.none _ _)))
                  intro v398 w60 ho61 hb hg_ hnew_
                  clear hg_ hnew_
                  (first | rw [← Ny397.out] at ho61 | (simp only [Int.reduceToNat] at ho61; rw [← Ny397.out] at ho61))
                  have n0_ := Aside0.mk (Kd.R_elder' (by (with_reducible repeat (first | apply Kd.R_alloc | apply Kd.R_drewN | apply Kd.R_drew)); exact HO396.out) (Kd.R_base ho61) hb)
                  have n1_ := Aside0.mk (Kd.R_lower (Kd.R_new' ho61 (Kd.R_lt (by (with_reducible repeat (first | apply Kd.R_alloc | apply Kd.R_drewN | apply Kd.R_drew)); exact HO396.out))) (below_size (by repeat (first | (with_reducible first | exact HB.out | apply below_alloc | apply pw_below_drewN | apply below_drew1 | refine below_set ?_ GE367.out | refine below_set ?_ GE377.out) | exact HB.out))))
                  have n2_ := Aside0.mk (blk_below (g := gb367) (o := .cells #[.slice (some ad376) l0_0.length c0_0, .int .i64 a0_1, .int .i64 a0_2, .int .i64 a0_3, .int .i64 a0_4, .int .i64 a0_5, .bool a0_6] 39 (0, 0)) (by (with_reducible repeat (first | refine blk_drewN ?_ _ | refine blk_drew ?_ | refine blk_alloc ?_ _)); exact BK367.out) hb)
                  have n3_ := Aside0.mk (blk_below (g := gb377) (o := .cells #[.int .u8 ((rd_T36 l0_0 x11_2).f0), .int .u8 ((rd_T36 l0_0 x11_2).f1), .int .u8 ((rd_T36 l0_0 x11_2).f2), .int .u8 ((rd_T36 l0_0 x11_2).f3)] 36 (0, 0)) (by (with_reducible repeat (first | refine blk_drewN ?_ _ | refine blk_drew ?_ | refine blk_alloc ?_ _)); exact BK377.out) hb)
                  have n4_ := Aside0.mk (below_step (by repeat (first | (with_reducible first | exact HB.out | apply below_alloc | apply pw_below_drewN | apply below_drew1 | refine below_set ?_ GE367.out | refine below_set ?_ GE377.out) | exact HB.out)) hb)
                  clear HO396
                  clear BK367
                  clear BK377
                  clear HB
                  have HO396 := n0_
                  have HO399 := n1_
                  have BK367 := n2_
                  have BK377 := n3_
                  have HB := n4_
                  clear n0_ n1_ n2_ n3_ n4_
                  clear hb ho61
                  refine hK.out _ _ ⟨(blk_cell BK377.out 0).trans rfl, (blk_cell BK377.out 1).trans rfl, (blk_cell BK377.out 2).trans rfl, (blk_cell BK377.out 3).trans rfl⟩ (fun hHeld => ?_)
                  clear hK K
                  refine norm_ (a' := ?_) ?_ ?_
                  rotate_left
                  ·show Act.put _ (some 106) _ = _
                   simp only [Act.put, List.setIfInBounds_toArray, List.set_cons_zero, List.set_cons_succ, i64_w, i32_w]
                   rfl
                  exact norm_ (by simp only [putAll, Act.put, List.setIfInBounds_toArray, List.set_cons_zero, List.set_cons_succ]) (hCont (v392, v395, v398) _ ⟨hHeld, (by (with_reducible repeat (first | apply Kd.R_alloc | apply Kd.R_drewN | apply Kd.R_drew)); exact Kd.R_mono HO396.out (fun _ hk => hk.2)), (by (with_reducible repeat (first | apply Kd.R_alloc | apply Kd.R_drewN | apply Kd.R_drew)); exact Kd.R_mono HO399.out (fun _ hk => hk.2)), (by (with_reducible repeat (first | refine blk_drewN ?_ _ | refine blk_drew ?_ | refine blk_alloc ?_ _)); exact BK367.out), (by (with_reducible repeat (first | refine blk_drewN ?_ _ | refine blk_drew ?_ | refine blk_alloc ?_ _)); exact BK377.out), (by repeat (first | (with_reducible first | exact HB.out | apply below_alloc | apply pw_below_drewN | apply below_drew1 | refine below_set ?_ GE367.out | refine below_set ?_ GE377.out) | exact HB.out))⟩)
                 ·skip
                  refine Kd.R_lit_step k70 _ 70 ?hg (N := 106) ?hd (xs := ([(⟨(⟨(⟨#[]⟩ : ByteArray), (⟨#[]⟩ : ByteArray), 0, 0, x13_3, 1⟩ : S68), Int.tmod (wrap64 (((rd_T36 l0_0 x11_2).f2))) 21, 0, Int.tmod (wrap64 (((rd_T36 l0_0 x11_2).f1))) 3, false⟩ : S70)] : List (S70))) (inner := [.string (⟨#[]⟩ : ByteArray), .string (⟨#[]⟩ : ByteArray), .int .i64 0, .int .i64 0, .int .i64 x13_3, .int .i64 1, .int .i64 (Int.tmod (wrap64 (((rd_T36 l0_0 x11_2).f2))) 21), .int .i64 0, .int .i64 (Int.tmod (wrap64 (((rd_T36 l0_0 x11_2).f1))) 3), .bool false]) (ok := fun _ => True) (okp := fun _ => True) ?hr ?hp (fun _ hk => hk) trivial (Below.refl _ _) (Nat.le_refl _) (by simp) ?_; (case hd => rfl); (case hg => rfl); (case hr => first | (go_simp; done) | (go_simp; rfl)); (case hp => exact (Reps.c10 (show Kd.M k70 _ _ _ (⟨(⟨(⟨#[]⟩ : ByteArray), (⟨#[]⟩ : ByteArray), 0, 0, x13_3, 1⟩ : S68), Int.tmod (wrap64 (((rd_T36 l0_0 x11_2).f2))) 21, 0, Int.tmod (wrap64 (((rd_T36 l0_0 x11_2).f1))) 3, false⟩ : S70) [.string (⟨#[]⟩ : ByteArray), .string (⟨#[]⟩ : ByteArray), .int .i64 0, .int .i64 0, .int .i64 x13_3, .int .i64 1, .int .i64 (Int.tmod (wrap64 (((rd_T36 l0_0 x11_2).f2))) 21), .int .i64 0, .int .i64 (Int.tmod (wrap64 (((rd_T36 l0_0 x11_2).f1))) 3), .bool false] from (k70_mkM _ _ _ (⟨(⟨(⟨#[]⟩ : ByteArray), (⟨#[]⟩ : ByteArray), 0, 0, x13_3, 1⟩ : S68), Int.tmod (wrap64 (((rd_T36 l0_0 x11_2).f2))) 21, 0, Int.tmod (wrap64 (((rd_T36 l0_0 x11_2).f1))) 3, false⟩ : S70) )) (Reps.none _ _)))
                  intro v398 w59 ho60 hb hg_ hnew_
                  clear hg_ hnew_
                  (first | rw [← Ny397.out] at ho60 | (simp only [Int.reduceToNat] at ho60; rw [← Ny397.out] at ho60))
                  have n0_ := Aside0.mk (Kd.R_elder' (by (with_reducible repeat (first | apply Kd.R_alloc | apply Kd.R_drewN | apply Kd.R_drew)); exact HO393.out) (Kd.R_base ho60) hb)
                  have n1_ := Aside0.mk (Kd.R_lower (Kd.R_new' ho60 (Kd.R_lt (by (with_reducible repeat (first | apply Kd.R_alloc | apply Kd.R_drewN | apply Kd.R_drew)); exact HO393.out))) (below_size (by repeat (first | (with_reducible first | exact HB.out | apply below_alloc | apply pw_below_drewN | apply below_drew1 | refine below_set ?_ GE367.out | refine below_set ?_ GE377.out) | exact HB.out))))
                  have n2_ := Aside0.mk (blk_below (g := gb367) (o := .cells #[.slice (some ad376) l0_0.length c0_0, .int .i64 a0_1, .int .i64 a0_2, .int .i64 a0_3, .int .i64 a0_4, .int .i64 a0_5, .bool a0_6] 39 (0, 0)) (by (with_reducible repeat (first | refine blk_drewN ?_ _ | refine blk_drew ?_ | refine blk_alloc ?_ _)); exact BK367.out) hb)
                  have n3_ := Aside0.mk (blk_below (g := gb377) (o := .cells #[.int .u8 ((rd_T36 l0_0 x11_2).f0), .int .u8 ((rd_T36 l0_0 x11_2).f1), .int .u8 ((rd_T36 l0_0 x11_2).f2), .int .u8 ((rd_T36 l0_0 x11_2).f3)] 36 (0, 0)) (by (with_reducible repeat (first | refine blk_drewN ?_ _ | refine blk_drew ?_ | refine blk_alloc ?_ _)); exact BK377.out) hb)
                  have n4_ := Aside0.mk (below_step (by repeat (first | (with_reducible first | exact HB.out | apply below_alloc | apply pw_below_drewN | apply below_drew1 | refine below_set ?_ GE367.out | refine below_set ?_ GE377.out) | exact HB.out)) hb)
                  clear HO393
                  clear BK367
                  clear BK377
                  clear HB
                  have HO393 := n0_
                  have HO399 := n1_
                  have BK367 := n2_
                  have BK377 := n3_
                  have HB := n4_
                  clear n0_ n1_ n2_ n3_ n4_
                  clear hb ho60
                  refine hK.out _ _ ⟨(blk_cell BK377.out 0).trans rfl, (blk_cell BK377.out 1).trans rfl, (blk_cell BK377.out 2).trans rfl, (blk_cell BK377.out 3).trans rfl⟩ (fun hHeld => ?_)
                  clear hK K
                  refine norm_ (a' := ?_) ?_ ?_
                  rotate_left
                  ·show Act.put _ (some 106) _ = _
                   simp only [Act.put, List.setIfInBounds_toArray, List.set_cons_zero, List.set_cons_succ, i64_w, i32_w]
                   rfl
                  refine one_ (i := 2) (N := some 97) #[true, true, true, true, true, true, true, true, true, true, true, true, false, false] rfl rfl (one_of HT_.out (by kernel_rfl)) (by decide) (fun K hK => ?_)
                  refine Kd.R_append_rows_step k70 (w0 := w) w.heap.size (by rfl) (.tmp 95) (.tmp 96) 62 70 (.agg #[(.string ⟨#[]⟩), (.string ⟨#[]⟩), (.int .i64 0), (.int .i64 0), (.int .i64 0), (.int .i64 0), (.int .i64 0), (.int .i64 0), (.int .i64 0), (.bool false)]) 96 rfl Try.underlying62 info70 rfl (by decide) (by omega) v392 y391 l1 _ _ _ (fun k_ => some k_ ≠ (v398 : Value).ownBlock) (fun _ => False) rfl rfl ?aO ?aR (fun _ _ h => h) (fun _ h => h.elim) ?aF ?aB ?aS ?aL ?_
                  (case aR => repeat (first | exact (Kd.C_below HR1.out HB.out) | (with_reducible refine Kd.C_alloc ?_ _) | (with_reducible refine Kd.C_drewN ?_ _) | (with_reducible refine Kd.C_drew ?_)))
                  (case aB => exact (by repeat (first | (with_reducible first | exact HB.out | apply below_alloc | apply pw_below_drewN | apply below_drew1 | refine below_set ?_ GE367.out | refine below_set ?_ GE377.out) | exact HB.out)))
                  (case aF => exact (fun k_ hk => Kd.fresh' (Kd.R_lt (by (with_reducible repeat (first | apply Kd.R_alloc | apply Kd.R_drewN | apply Kd.R_drew)); exact HO399.out)) k_ hk))
                  (case aO => exact (by (with_reducible repeat (first | apply Kd.R_alloc | apply Kd.R_drewN | apply Kd.R_drew)); exact Kd.R_mono HO393.out (fun _ hk => hk.2)))
                  (case aS => exact (below_size (by repeat (first | (with_reducible first | exact HB.out | apply below_alloc | apply pw_below_drewN | apply below_drew1 | refine below_set ?_ GE367.out | refine below_set ?_ GE377.out) | exact HB.out))))
                  (case aL => have := LMc52.out; omega)
                  intro v395 w61 ho hb hg hat
                  rw [← Ny394.out] at ho
                  have n0_ := Aside0.mk (blk_grown (g := gb367) (o := .cells #[.slice (some ad376) l0_0.length c0_0, .int .i64 a0_1, .int .i64 a0_2, .int .i64 a0_3, .int .i64 a0_4, .int .i64 a0_5, .bool a0_6] 39 (0, 0)) (by (with_reducible repeat (first | refine blk_drewN ?_ _ | refine blk_drew ?_ | refine blk_alloc ?_ _)); exact BK367.out) hg (Kd.R_ne HO393.out BK367.out (by decide)))
                  have n1_ := Aside0.mk (blk_grown (g := gb377) (o := .cells #[.int .u8 ((rd_T36 l0_0 x11_2).f0), .int .u8 ((rd_T36 l0_0 x11_2).f1), .int .u8 ((rd_T36 l0_0 x11_2).f2), .int .u8 ((rd_T36 l0_0 x11_2).f3)] 36 (0, 0)) (by (with_reducible repeat (first | refine blk_drewN ?_ _ | refine blk_drew ?_ | refine blk_alloc ?_ _)); exact BK377.out) hg (Kd.R_ne HO393.out BK377.out (by decide)))
                  have n2_ := Aside0.mk (Kd.R_after (ok := (fun _ => True)) (by (with_reducible repeat (first | apply Kd.R_alloc | apply Kd.R_drewN | apply Kd.R_drew)); exact HO399.out) hg hat)
                  have n3_ := Aside0.mk (hb)
                  have n4_ := Aside0.mk (ho)
                  clear BK367
                  clear BK377
                  clear HO399
                  clear HB
                  clear HO393
                  have BK367 := n0_
                  have BK377 := n1_
                  have HO399 := n2_
                  have HB := n3_
                  have HO396 := n4_
                  clear n0_ n1_ n2_ n3_ n4_
                  clear ho hb hg hat
                  refine hK.out _ _ ⟨(blk_cell BK377.out 0).trans rfl, (blk_cell BK377.out 1).trans rfl, (blk_cell BK377.out 2).trans rfl, (blk_cell BK377.out 3).trans rfl⟩ (fun hHeld => ?_)
                  clear hK K
                  refine norm_ (a' := ?_) ?_ ?_
                  rotate_left
                  ·show Act.put _ (some 97) _ = _
                   simp only [Act.put, List.setIfInBounds_toArray, List.set_cons_zero, List.set_cons_succ, i64_w, i32_w]
                   rfl
                  exact norm_ (by simp only [putAll, Act.put, List.setIfInBounds_toArray, List.set_cons_zero, List.set_cons_succ]) (hCont (v392, v395, v398) _ ⟨hHeld, (by (with_reducible repeat (first | apply Kd.R_alloc | apply Kd.R_drewN | apply Kd.R_drew)); exact HO396.out), (by (with_reducible repeat (first | apply Kd.R_alloc | apply Kd.R_drewN | apply Kd.R_drew)); exact Kd.R_mono HO399.out (fun _ hk => hk.2)), (by (with_reducible repeat (first | refine blk_drewN ?_ _ | refine blk_drew ?_ | refine blk_alloc ?_ _)); exact BK367.out), (by (with_reducible repeat (first | refine blk_drewN ?_ _ | refine blk_drew ?_ | refine blk_alloc ?_ _)); exact BK377.out), (by repeat (first | (with_reducible first | exact HB.out | apply below_alloc | apply pw_below_drewN | apply below_drew1 | refine below_set ?_ GE367.out | refine below_set ?_ GE377.out) | exact HB.out))⟩)
                ·skip
                 refine Kd.R_lit_step k70 _ 70 ?hg (N := 106) ?hd (xs := ([(⟨(⟨(⟨#[]⟩ : ByteArray), (⟨#[]⟩ : ByteArray), 0, 0, x13_3, 1⟩ : S68), Int.tmod (wrap64 (((rd_T36 l0_0 x11_2).f2))) 21, 0, Int.tmod (wrap64 (((rd_T36 l0_0 x11_2).f1))) 3, false⟩ : S70)] : List (S70))) (inner := [.string (⟨#[]⟩ : ByteArray), .string (⟨#[]⟩ : ByteArray), .int .i64 0, .int .i64 0, .int .i64 x13_3, .int .i64 1, .int .i64 (Int.tmod (wrap64 (((rd_T36 l0_0 x11_2).f2))) 21), .int .i64 0, .int .i64 (Int.tmod (wrap64 (((rd_T36 l0_0 x11_2).f1))) 3), .bool false]) (ok := fun _ => True) (okp := fun _ => True) ?hr ?hp (fun _ hk => hk) trivial (Below.refl _ _) (Nat.le_refl _) (by simp) ?_; (case hd => rfl); (case hg => rfl); (case hr => first | (go_simp; done) | (go_simp; rfl)); (case hp => exact (Reps.c10 (show Kd.M k70 _ _ _ (⟨(⟨(⟨#[]⟩ : ByteArray), (⟨#[]⟩ : ByteArray), 0, 0, x13_3, 1⟩ : S68), Int.tmod (wrap64 (((rd_T36 l0_0 x11_2).f2))) 21, 0, Int.tmod (wrap64 (((rd_T36 l0_0 x11_2).f1))) 3, false⟩ : S70) [.string (⟨#[]⟩ : ByteArray), .string (⟨#[]⟩ : ByteArray), .int .i64 0, .int .i64 0, .int .i64 x13_3, .int .i64 1, .int .i64 (Int.tmod (wrap64 (((rd_T36 l0_0 x11_2).f2))) 21), .int .i64 0, .int .i64 (Int.tmod (wrap64 (((rd_T36 l0_0 x11_2).f1))) 3), .bool false] from (k70_mkM _ _ _ (⟨(⟨(⟨#[]⟩ : ByteArray), (⟨#[]⟩ : ByteArray), 0, 0, x13_3, 1⟩ : S68), Int.tmod (wrap64 (((rd_T36 l0_0 x11_2).f2))) 21, 0, Int.tmod (wrap64 (((rd_T36 l0_0 x11_2).f1))) 3, false⟩ : S70) )) (Reps.none _ _)))
                 intro v398 w57 ho58 hb hg_ hnew_
                 clear hg_ hnew_
                 (first | rw [← Ny397.out] at ho58 | (simp only [Int.reduceToNat] at ho58; rw [← Ny397.out] at ho58))
                 have n0_ := Aside0.mk (Kd.R_lower ho58 (below_size (by repeat (first | (with_reducible first | exact HB.out | apply below_alloc | apply pw_below_drewN | apply below_drew1 | refine below_set ?_ GE367.out | refine below_set ?_ GE377.out) | exact HB.out))))
                 have n1_ := Aside0.mk (blk_below (g := gb367) (o := .cells #[.slice (some ad376) l0_0.length c0_0, .int .i64 a0_1, .int .i64 a0_2, .int .i64 a0_3, .int .i64 a0_4, .int .i64 a0_5, .bool a0_6] 39 (0, 0)) (by (with_reducible repeat (first | refine blk_drewN ?_ _ | refine blk_drew ?_ | refine blk_alloc ?_ _)); exact BK367.out) hb)
                 have n2_ := Aside0.mk (blk_below (g := gb377) (o := .cells #[.int .u8 ((rd_T36 l0_0 x11_2).f0), .int .u8 ((rd_T36 l0_0 x11_2).f1), .int .u8 ((rd_T36 l0_0 x11_2).f2), .int .u8 ((rd_T36 l0_0 x11_2).f3)] 36 (0, 0)) (by (with_reducible repeat (first | refine blk_drewN ?_ _ | refine blk_drew ?_ | refine blk_alloc ?_ _)); exact BK377.out) hb)
                 have n3_ := Aside0.mk (below_step (by repeat (first | (with_reducible first | exact HB.out | apply below_alloc | apply pw_below_drewN | apply below_drew1 | refine below_set ?_ GE367.out | refine below_set ?_ GE377.out) | exact HB.out)) hb)
                 clear BK367
                 clear BK377
                 clear HB
                 have HO399 := n0_
                 have BK367 := n1_
                 have BK377 := n2_
                 have HB := n3_
                 clear n0_ n1_ n2_ n3_
                 clear hb ho58
                 refine hK.out _ _ ⟨(blk_cell BK377.out 0).trans rfl, (blk_cell BK377.out 1).trans rfl, (blk_cell BK377.out 2).trans rfl, (blk_cell BK377.out 3).trans rfl⟩ (fun hHeld => ?_)
                 clear hK K
                 refine norm_ (a' := ?_) ?_ ?_
                 rotate_left
                 ·show Act.put _ (some 106) _ = _
                  simp only [Act.put, List.setIfInBounds_toArray, List.set_cons_zero, List.set_cons_succ, i64_w, i32_w]
                  rfl
                 refine one_ (i := 0) (N := some 95) #[true, true, false, true, true, true, true, true, true, true, true, true, false, false] rfl rfl (one_of HT_.out (by kernel_rfl)) (by decide) (fun K hK => ?_)
                 refine Kd.R_lit_step k70 _ 70 ?hg (N := 95) ?hd (xs := ([] : List (S70))) (inner := []) (ok := fun _ => True) (okp := fun _ => True) ?hr ?hp (fun _ hk => hk) trivial (Below.refl _ _) (Nat.le_refl _) (by simp) ?_; (case hd => rfl); (case hg => rfl); (case hr => first | (go_simp; done) | (go_simp; rfl)); (case hp => exact (Reps.none _ _))
                 intro v392 w59 ho60 hb hg_ hnew_
                 clear hg_ hnew_
                 (first | rw [← Ny391.out] at ho60 | (simp only [Int.reduceToNat] at ho60; rw [← Ny391.out] at ho60))
                 have n0_ := Aside0.mk (Kd.R_elder' (by (with_reducible repeat (first | apply Kd.R_alloc | apply Kd.R_drewN | apply Kd.R_drew)); exact HO399.out) (Kd.R_base ho60) hb)
                 have n1_ := Aside0.mk (Kd.R_lower (Kd.R_new' ho60 (Kd.R_lt (by (with_reducible repeat (first | apply Kd.R_alloc | apply Kd.R_drewN | apply Kd.R_drew)); exact HO399.out))) (below_size (by repeat (first | (with_reducible first | exact HB.out | apply below_alloc | apply pw_below_drewN | apply below_drew1 | refine below_set ?_ GE367.out | refine below_set ?_ GE377.out) | exact HB.out))))
                 have n2_ := Aside0.mk (blk_below (g := gb367) (o := .cells #[.slice (some ad376) l0_0.length c0_0, .int .i64 a0_1, .int .i64 a0_2, .int .i64 a0_3, .int .i64 a0_4, .int .i64 a0_5, .bool a0_6] 39 (0, 0)) (by (with_reducible repeat (first | refine blk_drewN ?_ _ | refine blk_drew ?_ | refine blk_alloc ?_ _)); exact BK367.out) hb)
                 have n3_ := Aside0.mk (blk_below (g := gb377) (o := .cells #[.int .u8 ((rd_T36 l0_0 x11_2).f0), .int .u8 ((rd_T36 l0_0 x11_2).f1), .int .u8 ((rd_T36 l0_0 x11_2).f2), .int .u8 ((rd_T36 l0_0 x11_2).f3)] 36 (0, 0)) (by (with_reducible repeat (first | refine blk_drewN ?_ _ | refine blk_drew ?_ | refine blk_alloc ?_ _)); exact BK377.out) hb)
                 have n4_ := Aside0.mk (below_step (by repeat (first | (with_reducible first | exact HB.out | apply below_alloc | apply pw_below_drewN | apply below_drew1 | refine below_set ?_ GE367.out | refine below_set ?_ GE377.out) | exact HB.out)) hb)
                 clear HO399
                 clear BK367
                 clear BK377
                 clear HB
                 have HO399 := n0_
                 have HO393 := n1_
                 have BK367 := n2_
                 have BK377 := n3_
                 have HB := n4_
                 clear n0_ n1_ n2_ n3_ n4_
                 clear hb ho60
                 refine hK.out _ _ ⟨(blk_cell BK377.out 0).trans rfl, (blk_cell BK377.out 1).trans rfl, (blk_cell BK377.out 2).trans rfl, (blk_cell BK377.out 3).trans rfl⟩ (fun hHeld => ?_)
                 clear hK K
                 refine norm_ (a' := ?_) ?_ ?_
                 rotate_left
                 ·show Act.put _ (some 95) _ = _
                  simp only [Act.put, List.setIfInBounds_toArray, List.set_cons_zero, List.set_cons_succ, i64_w, i32_w]
                  rfl
                 refine one_ (i := 2) (N := some 97) #[true, true, true, true, true, true, true, true, true, true, true, true, false, false] rfl rfl (one_of HT_.out (by kernel_rfl)) (by decide) (fun K hK => ?_)
                 refine Kd.R_append_rows_step k70 (w0 := w) w.heap.size (by rfl) (.tmp 95) (.tmp 96) 62 70 (.agg #[(.string ⟨#[]⟩), (.string ⟨#[]⟩), (.int .i64 0), (.int .i64 0), (.int .i64 0), (.int .i64 0), (.int .i64 0), (.int .i64 0), (.int .i64 0), (.bool false)]) 96 rfl Try.underlying62 info70 rfl (by decide) (by omega) v392 y391 l1 _ _ _ (fun k_ => some k_ ≠ (v398 : Value).ownBlock) (fun _ => False) rfl rfl ?aO ?aR (fun _ _ h => h) (fun _ h => h.elim) ?aF ?aB ?aS ?aL ?_
                 (case aR => repeat (first | exact (Kd.C_below HR1.out HB.out) | (with_reducible refine Kd.C_alloc ?_ _) | (with_reducible refine Kd.C_drewN ?_ _) | (with_reducible refine Kd.C_drew ?_)))
                 (case aB => exact (by repeat (first | (with_reducible first | exact HB.out | apply below_alloc | apply pw_below_drewN | apply below_drew1 | refine below_set ?_ GE367.out | refine below_set ?_ GE377.out) | exact HB.out)))
                 (case aF => exact (fun k_ hk => Kd.fresh' (Kd.R_lt (by (with_reducible repeat (first | apply Kd.R_alloc | apply Kd.R_drewN | apply Kd.R_drew)); exact HO399.out)) k_ hk))
                 (case aO => exact (by (with_reducible repeat (first | apply Kd.R_alloc | apply Kd.R_drewN | apply Kd.R_drew)); exact Kd.R_mono HO393.out (fun _ hk => hk.2)))
                 (case aS => exact (below_size (by repeat (first | (with_reducible first | exact HB.out | apply below_alloc | apply pw_below_drewN | apply below_drew1 | refine below_set ?_ GE367.out | refine below_set ?_ GE377.out) | exact HB.out))))
                 (case aL => have := LMc52.out; omega)
                 intro v395 w61 ho hb hg hat
                 rw [← Ny394.out] at ho
                 have n0_ := Aside0.mk (blk_grown (g := gb367) (o := .cells #[.slice (some ad376) l0_0.length c0_0, .int .i64 a0_1, .int .i64 a0_2, .int .i64 a0_3, .int .i64 a0_4, .int .i64 a0_5, .bool a0_6] 39 (0, 0)) (by (with_reducible repeat (first | refine blk_drewN ?_ _ | refine blk_drew ?_ | refine blk_alloc ?_ _)); exact BK367.out) hg (Kd.R_ne HO393.out BK367.out (by decide)))
                 have n1_ := Aside0.mk (blk_grown (g := gb377) (o := .cells #[.int .u8 ((rd_T36 l0_0 x11_2).f0), .int .u8 ((rd_T36 l0_0 x11_2).f1), .int .u8 ((rd_T36 l0_0 x11_2).f2), .int .u8 ((rd_T36 l0_0 x11_2).f3)] 36 (0, 0)) (by (with_reducible repeat (first | refine blk_drewN ?_ _ | refine blk_drew ?_ | refine blk_alloc ?_ _)); exact BK377.out) hg (Kd.R_ne HO393.out BK377.out (by decide)))
                 have n2_ := Aside0.mk (Kd.R_after (ok := (fun _ => True)) (by (with_reducible repeat (first | apply Kd.R_alloc | apply Kd.R_drewN | apply Kd.R_drew)); exact HO399.out) hg hat)
                 have n3_ := Aside0.mk (hb)
                 have n4_ := Aside0.mk (ho)
                 clear BK367
                 clear BK377
                 clear HO399
                 clear HB
                 clear HO393
                 have BK367 := n0_
                 have BK377 := n1_
                 have HO399 := n2_
                 have HB := n3_
                 have HO396 := n4_
                 clear n0_ n1_ n2_ n3_ n4_
                 clear ho hb hg hat
                 refine hK.out _ _ ⟨(blk_cell BK377.out 0).trans rfl, (blk_cell BK377.out 1).trans rfl, (blk_cell BK377.out 2).trans rfl, (blk_cell BK377.out 3).trans rfl⟩ (fun hHeld => ?_)
                 clear hK K
                 refine norm_ (a' := ?_) ?_ ?_
                 rotate_left
                 ·show Act.put _ (some 97) _ = _
                  simp only [Act.put, List.setIfInBounds_toArray, List.set_cons_zero, List.set_cons_succ, i64_w, i32_w]
                  rfl
                 exact norm_ (by simp only [putAll, Act.put, List.setIfInBounds_toArray, List.set_cons_zero, List.set_cons_succ]) (hCont (v392, v395, v398) _ ⟨hHeld, (by (with_reducible repeat (first | apply Kd.R_alloc | apply Kd.R_drewN | apply Kd.R_drew)); exact HO396.out), (by (with_reducible repeat (first | apply Kd.R_alloc | apply Kd.R_drewN | apply Kd.R_drew)); exact Kd.R_mono HO399.out (fun _ hk => hk.2)), (by (with_reducible repeat (first | refine blk_drewN ?_ _ | refine blk_drew ?_ | refine blk_alloc ?_ _)); exact BK367.out), (by (with_reducible repeat (first | refine blk_drewN ?_ _ | refine blk_drew ?_ | refine blk_alloc ?_ _)); exact BK377.out), (by repeat (first | (with_reducible first | exact HB.out | apply below_alloc | apply pw_below_drewN | apply below_drew1 | refine below_set ?_ GE367.out | refine below_set ?_ GE377.out) | exact HB.out))⟩)
               rintro ⟨v392, v395, v398⟩ w62 ⟨hS_, h0_, h1_, h2_, h3_, h4_⟩
               have n0_ : Aside0 (Kd.R k70 70 w62 w.heap.size (fun k_ => some k_ ≠ (v398 : Value).ownBlock) v395 y394) := ⟨h0_⟩
               have n1_ : Aside0 (Kd.R k70 70 w62 w.heap.size (fun k_ => some k_ ≠ (v395 : Value).ownBlock) v398 y397) := ⟨h1_⟩
               have n2_ : Aside0 (w62.heap[gb367]? = some (.cells #[.slice (some ad376) l0_0.length c0_0, .int .i64 a0_1, .int .i64 a0_2, .int .i64 a0_3, .int .i64 a0_4, .int .i64 a0_5, .bool a0_6] 39 (0, 0))) := ⟨h2_⟩
               have n3_ : Aside0 (w62.heap[gb377]? = some (.cells #[.int .u8 ((rd_T36 l0_0 x11_2).f0), .int .u8 ((rd_T36 l0_0 x11_2).f1), .int .u8 ((rd_T36 l0_0 x11_2).f2), .int .u8 ((rd_T36 l0_0 x11_2).f3)] 36 (0, 0))) := ⟨h3_⟩
               have n4_ : Aside0 (Below w.heap.size w w62) := ⟨h4_⟩
               clear BK367
               clear BK377
               clear HB
               clear h0_ h1_ h2_ h3_ h4_
               have HO396 := n0_
               have HO399 := n1_
               have BK367 := n2_
               have BK377 := n3_
               have HB := n4_
               clear n0_ n1_ n2_ n3_ n4_
               have hHeld : w62.cell? ⟨gb377, 0, none⟩ = some (.int .u8 ((rd_T36 l0_0 x11_2).f0)) ∧ w62.cell? ⟨gb377, 1, none⟩ = some (.int .u8 ((rd_T36 l0_0 x11_2).f1)) ∧ w62.cell? ⟨gb377, 2, none⟩ = some (.int .u8 ((rd_T36 l0_0 x11_2).f2)) ∧ w62.cell? ⟨gb377, 3, none⟩ = some (.int .u8 ((rd_T36 l0_0 x11_2).f3)) := hS_
               obtain ⟨Ao64, co64, eo64⟩ := Kd.R_slice HO399.out
               (first | subst eo64 | (injection eo64 with f1_ f2_ f3_; have f4_ := f1_.symm; have f5_ := f3_.symm; clear f1_ f2_ f3_; subst f4_; subst f5_))
               refine norm_ (a' := ?_) ?_ ?_
               rotate_left
               ·simp only [putAll, Act.put, List.setIfInBounds_toArray, List.set_cons_zero, List.set_cons_succ]
                rfl
               refine one_ (i := 12) (N := some 107) #[true, true, true, true, true, true, true, true, true, true, true, true, true, false] rfl rfl (one_of HT_.out (by kernel_rfl)) (by decide) (fun K hK => ?_)
               refine Kd.R_append_rows_step k70 (w0 := w) w.heap.size (by rfl) (.tmp 97) (.tmp 106) 62 70 (.agg #[(.string ⟨#[]⟩), (.string ⟨#[]⟩), (.int .i64 0), (.int .i64 0), (.int .i64 0), (.int .i64 0), (.int .i64 0), (.int .i64 0), (.int .i64 0), (.bool false)]) 96 rfl Try.underlying62 info70 rfl (by decide) (by omega) v395 y394 y397 _ _ _ (fun k_ => some k_ ≠ (.slice Ao64 y397.length co64 : Value).ownBlock) (fun _ => False) rfl rfl ?aO ?aR (fun _ _ h => h) (fun _ h => h.elim) ?aF ?aB ?aS ?aL ?_
               (case aR => repeat (first | exact (Kd.R_reads' HO399.out).2.2 | (with_reducible refine Kd.C_alloc ?_ _) | (with_reducible refine Kd.C_drewN ?_ _) | (with_reducible refine Kd.C_drew ?_)))
               (case aB => exact (by repeat (first | (with_reducible first | exact HB.out | apply below_alloc | apply pw_below_drewN | apply below_drew1 | refine below_set ?_ GE367.out | refine below_set ?_ GE377.out) | exact HB.out)))
               (case aF => exact (fun k_ hk => Kd.fresh' (Kd.R_lt (by (with_reducible repeat (first | apply Kd.R_alloc | apply Kd.R_drewN | apply Kd.R_drew)); exact HO399.out)) k_ hk))
               (case aO => exact (by (with_reducible repeat (first | apply Kd.R_alloc | apply Kd.R_drewN | apply Kd.R_drew)); exact HO396.out))
               (case aS => exact (below_size (by repeat (first | (with_reducible first | exact HB.out | apply below_alloc | apply pw_below_drewN | apply below_drew1 | refine below_set ?_ GE367.out | refine below_set ?_ GE377.out) | exact HB.out))))
               (case aL => have := LMc53.out; omega)
               intro v401 w63 ho hb hg hat
               rw [← Ny400.out] at ho
               have n0_ := Aside0.mk (blk_grown (g := gb367) (o := .cells #[.slice (some ad376) l0_0.length c0_0, .int .i64 a0_1, .int .i64 a0_2, .int .i64 a0_3, .int .i64 a0_4, .int .i64 a0_5, .bool a0_6] 39 (0, 0)) (by (with_reducible repeat (first | refine blk_drewN ?_ _ | refine blk_drew ?_ | refine blk_alloc ?_ _)); exact BK367.out) hg (Kd.R_ne HO396.out BK367.out (by decide)))
               have n1_ := Aside0.mk (blk_grown (g := gb377) (o := .cells #[.int .u8 ((rd_T36 l0_0 x11_2).f0), .int .u8 ((rd_T36 l0_0 x11_2).f1), .int .u8 ((rd_T36 l0_0 x11_2).f2), .int .u8 ((rd_T36 l0_0 x11_2).f3)] 36 (0, 0)) (by (with_reducible repeat (first | refine blk_drewN ?_ _ | refine blk_drew ?_ | refine blk_alloc ?_ _)); exact BK377.out) hg (Kd.R_ne HO396.out BK377.out (by decide)))
               have n2_ := Aside0.mk (Kd.R_after (ok := (fun _ => True)) (by (with_reducible repeat (first | apply Kd.R_alloc | apply Kd.R_drewN | apply Kd.R_drew)); exact Kd.R_mono HO399.out (fun _ hk => ⟨trivial, hk⟩)) hg hat)
               have n3_ := Aside0.mk (hb)
               have n4_ := Aside0.mk (ho)
               clear BK367
               clear BK377
               clear HO399
               clear HB
               clear HO396
               have BK367 := n0_
               have BK377 := n1_
               have HO399 := n2_
               have HB := n3_
               have HO402 := n4_
               clear n0_ n1_ n2_ n3_ n4_
               clear ho hb hg hat
               refine hK.out _ _ ⟨(blk_cell BK377.out 0).trans rfl, (blk_cell BK377.out 1).trans rfl, (blk_cell BK377.out 2).trans rfl, (blk_cell BK377.out 3).trans rfl⟩ (fun hHeld => ?_)
               clear hK K
               refine norm_ (a' := ?_) ?_ ?_
               rotate_left
               ·show Act.put _ (some 107) _ = _
                simp only [Act.put, List.setIfInBounds_toArray, List.set_cons_zero, List.set_cons_succ, i64_w, i32_w]
                rfl
               refine pure_ (i := 13) (N := some 16) (v := ?_) (a' := ?_) #[true, true, true, true, true, true, true, true, true, true, true, true, true, true] rfl rfl (any_of HT_.out (by kernel_rfl)) (fun _ _ _ h => h) (Or.inl ⟨by rfl, ?_⟩) ?_ ?_
               rotate_left
               ·intro w'
                go_simp
                with_reducible rfl
               rotate_left
               ·simp only [Act.put, List.setIfInBounds_toArray, List.set_cons_zero, List.set_cons_succ, i64_w, i32_w]
                rfl
               refine done_ (done_of HT_.out (by kernel_rfl)) ?_
               try go_wp2
               have n0_ := Aside0.mk (Kd.R_drew HO399.out)
               have n1_ := Aside0.mk (Kd.R_drew HO402.out)
               have n2_ := Aside0.mk (blk_drew BK367.out)
               have n3_ := Aside0.mk (blk_drew BK377.out)
               have n4_ := Aside0.mk (below_drew1 HB.out)
               clear HO399
               clear HO402
               clear BK367
               clear BK377
               clear HB
               have HO399 := n0_
               have HO402 := n1_
               have BK367 := n2_
               have BK377 := n3_
               have HB := n4_
               clear n0_ n1_ n2_ n3_ n4_
               obtain ⟨Ao66, co66, eo66⟩ := Kd.R_slice HO402.out
               (first | subst eo66 | (injection eo66 with f1_ f2_ f3_; have f4_ := f1_.symm; have f5_ := f3_.symm; clear f1_ f2_ f3_; subst f4_; subst f5_))
               refine start_ (n := 15) (S := fun w' => w'.cell? ⟨gb377, 0, none⟩ = some (.int .u8 ((rd_T36 l0_0 x11_2).f0)) ∧ w'.cell? ⟨gb377, 1, none⟩ = some (.int .u8 ((rd_T36 l0_0 x11_2).f1)) ∧ w'.cell? ⟨gb377, 2, none⟩ = some (.int .u8 ((rd_T36 l0_0 x11_2).f2)) ∧ w'.cell? ⟨gb377, 3, none⟩ = some (.int .u8 ((rd_T36 l0_0 x11_2).f3)) ∧ w'.cell? ⟨gb367, 0, none⟩ = some (.slice (some ad376) l0_0.length c0_0) ∧ w'.cell? ⟨gb367, 1, none⟩ = some (.int .i64 a0_1) ∧ w'.cell? ⟨gb367, 2, none⟩ = some (.int .i64 a0_2) ∧ w'.cell? ⟨gb367, 3, none⟩ = some (.int .i64 a0_3) ∧ w'.cell? ⟨gb367, 4, none⟩ = some (.int .i64 a0_4) ∧ w'.cell? ⟨gb367, 5, none⟩ = some (.int .i64 a0_5) ∧ w'.cell? ⟨gb367, 6, none⟩ = some (.bool a0_6)) (ds := []) #[false, false, false, false, false, false, false, false, false, false, false, false, false, false, false] (by kernel_rfl) rfl rfl ⟨(blk_cell BK377.out 0).trans rfl, (blk_cell BK377.out 1).trans rfl, (blk_cell BK377.out 2).trans rfl, (blk_cell BK377.out 3).trans rfl, (blk_cell BK367.out 0).trans rfl, (blk_cell BK367.out 1).trans rfl, (blk_cell BK367.out 2).trans rfl, (blk_cell BK367.out 3).trans rfl, (blk_cell BK367.out 4).trans rfl, (blk_cell BK367.out 5).trans rfl, (blk_cell BK367.out 6).trans rfl⟩ (fun hHeld => ?_); refine with_tabW flagstonelaw41_population_misses.tab23 flagstonelaw41_population_misses.bits23 (fun HT_ HW_ => ?_)
               generalize w63.drew = w65 at HO399 HO402 BK367 BK377 HB hHeld ⊢
               refine pure_ (i := 0) (N := some 108) (v := ?_) (a' := ?_) #[true, false, false, false, false, false, false, false, false, false, false, false, false, false, false] rfl rfl (any_of HT_.out (by kernel_rfl)) (fun _ _ _ h => h) (Or.inl ⟨by rfl, ?_⟩) ?_ ?_
               rotate_left
               ·intro w'
                go_simp
                with_reducible rfl
               rotate_left
               ·simp only [Act.put, List.setIfInBounds_toArray, List.set_cons_zero, List.set_cons_succ, i64_w, i32_w]
                rfl
               refine pure_ (i := 1) (N := some 109) (v := ?_) (a' := ?_) #[true, true, false, false, false, false, false, false, false, false, false, false, false, false, false] rfl rfl (any_of HT_.out (by kernel_rfl)) (fun _ _ _ h => h) (Or.inl ⟨by rfl, ?_⟩) ?_ ?_
               rotate_left
               ·intro w'
                go_simp
                with_reducible rfl
               rotate_left
               ·simp only [Act.put, List.setIfInBounds_toArray, List.set_cons_zero, List.set_cons_succ, i64_w, i32_w]
                rfl
               refine pure_ (i := 2) (N := some 110) (v := ?_) (a' := ?_) #[true, true, true, false, false, false, false, false, false, false, false, false, false, false, false] rfl rfl (any_of HT_.out (by kernel_rfl)) (fun _ _ _ h => h) (Or.inl ⟨by rfl, ?_⟩) ?_ ?_
               rotate_left
               ·intro w'
                go_simp
                with_reducible rfl
               rotate_left
               ·simp only [Act.put, List.setIfInBounds_toArray, List.set_cons_zero, List.set_cons_succ, i64_w, i32_w]
                rfl
               refine pure_ (i := 9) (N := some 117) (v := ?_) (a' := ?_) #[true, true, true, false, false, false, false, false, false, true, false, false, false, false, false] rfl rfl (any_of HT_.out (by kernel_rfl)) (fun _ _ _ h => h) (Or.inl ⟨by rfl, ?_⟩) ?_ ?_
               rotate_left
               ·intro w'
                go_simp
                with_reducible rfl
               rotate_left
               ·simp only [Act.put, List.setIfInBounds_toArray, List.set_cons_zero, List.set_cons_succ, i64_w, i32_w]
                rfl
               refine pure_ (i := 10) (N := some 118) (v := ?_) (a' := ?_) #[true, true, true, false, false, false, false, false, false, true, true, false, false, false, false] rfl rfl (any_of HT_.out (by kernel_rfl)) (fun _ _ _ h => h) (Or.inl ⟨by rfl, ?_⟩) ?_ ?_
               rotate_left
               ·intro w'
                go_simp
                with_reducible rfl
               rotate_left
               ·simp only [Act.put, List.setIfInBounds_toArray, List.set_cons_zero, List.set_cons_succ, i64_w, i32_w]
                rfl
               refine take_ (i := 3) (N := some 111) (v := ?_) (a' := ?_) #[true, true, true, true, false, false, false, false, false, true, true, false, false, false, false] rfl rfl (take_ofW HT_.out HW_.out (by kernel_rfl)) (fun _ _ _ h => h) (Or.inl ⟨by rfl, ?_⟩) hHeld ?_ ?_
               rotate_left
               ·rintro w' ⟨s0, s1, s2, s3, s4, s5, s6, s7, s8, s9, s10⟩
                go_simp
                with_reducible rfl
               rotate_left
               ·simp only [Act.put, List.setIfInBounds_toArray, List.set_cons_zero, List.set_cons_succ, i64_w, i32_w]
                rfl
               refine pure_ (i := 4) (N := some 112) (v := ?_) (a' := ?_) #[true, true, true, true, true, false, false, false, false, true, true, false, false, false, false] rfl rfl (any_of HT_.out (by kernel_rfl)) (fun _ _ _ h => h) (Or.inl ⟨by rfl, ?_⟩) ?_ ?_
               rotate_left
               ·intro w'
                go_simp
                with_reducible rfl
               rotate_left
               ·simp only [Act.put, List.setIfInBounds_toArray, List.set_cons_zero, List.set_cons_succ, i64_w, i32_w]
                rfl
               refine pure_ (i := 5) (N := some 113) (v := ?_) (a' := ?_) #[true, true, true, true, true, true, false, false, false, true, true, false, false, false, false] rfl rfl (any_of HT_.out (by kernel_rfl)) (fun _ _ _ h => h) (Or.inl ⟨by rfl, ?_⟩) ?_ ?_
               rotate_left
               ·intro w'
                go_simp
                with_reducible rfl
               rotate_left
               ·simp only [Act.put, List.setIfInBounds_toArray, List.set_cons_zero, List.set_cons_succ, i64_w, i32_w]
                rfl
               refine pure_ (i := 6) (N := some 114) (v := ?_) (a' := ?_) #[true, true, true, true, true, true, true, false, false, true, true, false, false, false, false] rfl rfl (any_of HT_.out (by kernel_rfl)) (fun _ _ _ h => h) (Or.inl ⟨by rfl, ?_⟩) ?_ ?_
               rotate_left
               ·intro w'
                go_simp
                with_reducible rfl
               rotate_left
               ·simp only [Act.put, List.setIfInBounds_toArray, List.set_cons_zero, List.set_cons_succ, i64_w, i32_w]
                rfl
               refine pure_ (i := 7) (N := some 115) (v := ?_) (a' := ?_) #[true, true, true, true, true, true, true, true, false, true, true, false, false, false, false] rfl rfl (any_of HT_.out (by kernel_rfl)) (fun _ _ _ h => h) (Or.inl ⟨by rfl, ?_⟩) ?_ ?_
               rotate_left
               ·intro w'
                go_simp
                with_reducible rfl
               rotate_left
               ·simp only [Act.put, List.setIfInBounds_toArray, List.set_cons_zero, List.set_cons_succ, i64_w, i32_w]
                rfl
               refine take_ (i := 8) (N := some 116) (v := ?_) (a' := ?_) #[true, true, true, true, true, true, true, true, true, true, true, false, false, false, false] rfl rfl (take_ofW HT_.out HW_.out (by kernel_rfl)) (fun _ _ _ h => h) (Or.inl ⟨by rfl, ?_⟩) hHeld ?_ ?_
               rotate_left
               ·rintro w' ⟨s0, s1, s2, s3, s4, s5, s6, s7, s8, s9, s10⟩
                go_simp
                with_reducible rfl
               rotate_left
               ·simp only [Act.put, List.setIfInBounds_toArray, List.set_cons_zero, List.set_cons_succ, i64_w, i32_w]
                rfl
               refine one_ (i := 11) (N := some 119) #[true, true, true, true, true, true, true, true, true, true, true, true, false, false, false] rfl rfl (one_of HT_.out (by kernel_rfl)) (by decide) (fun K hK => ?_)
               refine goes_ Try.func17 (by kernel_rfl) rfl #[.agg #[.slice (some ad376) l0_0.length c0_0, .int .i64 a0_1, .int .i64 a0_2, .int .i64 a0_3, .int .i64 a0_4, .int .i64 a0_5, .bool a0_6], .slice Ao66 y400.length co66, .int .i64 a2] (by rfl) rfl rfl (by (try simp only [List.map_toArray, List.map_cons, List.map_nil]); first | done | rfl | (simp only [List.length_drop, List.length_take]; rfl)) ?_
               with_reducible refine (ih k3 (by have := HJ4.out; have := HK2.out; have := HK3.out; omega) _ _ l0_0 a0_1 a0_2 a0_3 a0_4 a0_5 a0_6 _ _ y400 a2 t403 _ ?side1 ?side2 ?side3 ?side4 A54.out).mono ?_
               (case side1 => repeat (first | exact (Kd.C_below HR0_0.out HB.out) | (with_reducible refine Kd.C_alloc ?_ _) | (with_reducible refine Kd.C_drewN ?_ _) | (with_reducible refine Kd.C_drew ?_)))
               (case side2 => exact HC0_0.out)
               (case side3 => repeat (first | exact (Kd.R_reads' HO402.out).2.2 | (with_reducible refine Kd.C_alloc ?_ _) | (with_reducible refine Kd.C_drewN ?_ _) | (with_reducible refine Kd.C_drew ?_)))
               (case side4 => exact (Kd.R_reads' HO402.out).2.1)
               rintro e w67 ⟨rfl, hb⟩
               refine ⟨_, rfl, ?_⟩
               have n0_ := Aside0.mk (Kd.R_below (by (with_reducible repeat (first | apply Kd.R_alloc | apply Kd.R_drewN | apply Kd.R_drew)); exact HO399.out) hb)
               have n1_ := Aside0.mk (Kd.R_below (by (with_reducible repeat (first | apply Kd.R_alloc | apply Kd.R_drewN | apply Kd.R_drew)); exact HO402.out) hb)
               have n2_ := Aside0.mk (blk_below (g := gb367) (o := .cells #[.slice (some ad376) l0_0.length c0_0, .int .i64 a0_1, .int .i64 a0_2, .int .i64 a0_3, .int .i64 a0_4, .int .i64 a0_5, .bool a0_6] 39 (0, 0)) (by (with_reducible repeat (first | refine blk_drewN ?_ _ | refine blk_drew ?_ | refine blk_alloc ?_ _)); exact BK367.out) hb)
               have n3_ := Aside0.mk (blk_below (g := gb377) (o := .cells #[.int .u8 ((rd_T36 l0_0 x11_2).f0), .int .u8 ((rd_T36 l0_0 x11_2).f1), .int .u8 ((rd_T36 l0_0 x11_2).f2), .int .u8 ((rd_T36 l0_0 x11_2).f3)] 36 (0, 0)) (by (with_reducible repeat (first | refine blk_drewN ?_ _ | refine blk_drew ?_ | refine blk_alloc ?_ _)); exact BK377.out) hb)
               have n4_ := Aside0.mk (below_step (by repeat (first | (with_reducible first | exact HB.out | apply below_alloc | apply pw_below_drewN | apply below_drew1 | refine below_set ?_ GE367.out | refine below_set ?_ GE377.out) | exact HB.out)) hb)
               clear HO399
               clear HO402
               clear BK367
               clear BK377
               clear HB
               have HO399 := n0_
               have HO402 := n1_
               have BK367 := n2_
               have BK377 := n3_
               have HB := n4_
               clear n0_ n1_ n2_ n3_ n4_
               (try clear hb)
               (try clear hb2)
               (try clear hk)
               (try clear hi)
               refine hK.out _ _ ⟨(blk_cell BK377.out 0).trans rfl, (blk_cell BK377.out 1).trans rfl, (blk_cell BK377.out 2).trans rfl, (blk_cell BK377.out 3).trans rfl, (blk_cell BK367.out 0).trans rfl, (blk_cell BK367.out 1).trans rfl, (blk_cell BK367.out 2).trans rfl, (blk_cell BK367.out 3).trans rfl, (blk_cell BK367.out 4).trans rfl, (blk_cell BK367.out 5).trans rfl, (blk_cell BK367.out 6).trans rfl⟩ (fun hHeld => ?_)
               clear hK K
               refine norm_ (a' := ?_) ?_ ?_
               rotate_left
               ·show Act.put _ (some 119) _ = _
                simp only [Act.put, List.setIfInBounds_toArray, List.set_cons_zero, List.set_cons_succ, i64_w, i32_w]
                rfl
               refine pure_ (i := 12) (N := some 120) (v := ?_) (a' := ?_) #[true, true, true, true, true, true, true, true, true, true, true, true, true, false, false] rfl rfl (any_of HT_.out (by kernel_rfl)) (fun _ _ _ h => h) (Or.inl ⟨by rfl, ?_⟩) ?_ ?_
               rotate_left
               ·intro w'
                go_simp
                with_reducible rfl
               rotate_left
               ·simp only [Act.put, List.setIfInBounds_toArray, List.set_cons_zero, List.set_cons_succ, i64_w, i32_w]
                rfl
               refine pure_ (i := 13) (N := some 121) (v := ?_) (a' := ?_) #[true, true, true, true, true, true, true, true, true, true, true, true, true, true, false] rfl rfl (any_of HT_.out (by kernel_rfl)) (fun _ _ _ h => h) (Or.inl ⟨by rfl, ?_⟩) ?_ ?_
               rotate_left
               ·intro w'
                go_simp
                with_reducible rfl
               rotate_left
               ·simp only [Act.put, List.setIfInBounds_toArray, List.set_cons_zero, List.set_cons_succ, i64_w, i32_w]
                rfl
               refine pure_ (i := 14) (N := some 10) (v := ?_) (a' := ?_) #[true, true, true, true, true, true, true, true, true, true, true, true, true, true, true] rfl rfl (any_of HT_.out (by kernel_rfl)) (fun _ _ _ h => h) (Or.inl ⟨by rfl, ?_⟩) ?_ ?_
               rotate_left
               ·intro w'
                go_simp
                with_reducible rfl
               rotate_left
               ·simp only [Act.put, List.setIfInBounds_toArray, List.set_cons_zero, List.set_cons_succ, i64_w, i32_w]
                rfl
               refine done_ (done_of HT_.out (by kernel_rfl)) ?_
               try go_wp2
               go_roundg k3
               case measure => have := HJ4.out; have := HK2.out; have := HK3.out; omega
               case rel => exact ⟨(wrap64 (x10_3 + (wrap64 ((wrap64 (a0_2 * (wrap64 (1 + (Int.tmod (wrap64 (((rd_T36 l0_0 x11_2).f0))) 3))))) * t403)))), (wrap64 (x13_3 + 1)), (by first | rfl | (simp; done) | (simp [*]; done) | exact congrArg (Value.int _) (by unfold wrap64; omega)), (by first | rfl | (simp; done) | (simp [*]; done) | exact congrArg (Value.int _) (by unfold wrap64; omega)), H', ⟨by have := HJ4.out; have := HK2.out; have := HK3.out; omega⟩, ⟨by (with_reducible repeat (first | refine blk_drewN ?_ _ | refine blk_drew ?_ | refine blk_alloc ?_ _)); exact BK367.out⟩, ⟨by (with_reducible repeat (first | refine blk_drewN ?_ _ | refine blk_drew ?_ | refine blk_alloc ?_ _)); exact BK377.out⟩, ⟨by repeat (first | (with_reducible first | exact HB.out | apply below_alloc | apply pw_below_drewN | apply below_drew1 | refine below_set ?_ GE367.out | refine below_set ?_ GE377.out) | exact HB.out)⟩⟩
              ·rw [if_neg c53] at H
               exact absurd H (by simp)
             ·rw [if_neg c52] at H
              exact absurd H (by simp)
           ·rw [if_neg c33] at H
            have c33b0 : decide (x13_3 ≤ 2) = false := decide_eq_false c33
            clear c33
            have H' := Aside0.mk H
            clear H
            go_wp2
            go_roundg k3
            case measure => have := HJ4.out; have := HK2.out; have := HK3.out; omega
            case rel => exact ⟨(x10_3), (wrap64 (x11_2 + 1)), (by first | rfl | (simp; done) | (simp [*]; done) | exact congrArg (Value.int _) (by unfold wrap64; omega)), (by first | rfl | (simp; done) | (simp [*]; done) | exact congrArg (Value.int _) (by unfold wrap64; omega)), H', ⟨by have := HJ4.out; have := HK2.out; have := HK3.out; omega⟩, ⟨by (with_reducible repeat (first | refine blk_drewN ?_ _ | refine blk_drew ?_ | refine blk_alloc ?_ _)); exact BK367.out⟩, ⟨by repeat (first | (with_reducible first | exact HB.out | apply below_alloc | apply pw_below_drewN | apply below_drew1 | refine below_set ?_ GE367.out | refine below_set ?_ GE377.out) | exact HB.out)⟩⟩
        ·rw [if_neg c28] at H
         exact absurd H (by simp)
       ·rw [if_neg c27] at H
        have c27b0 : decide (x11_2 < (l0_0.length : Int)) = false := decide_eq_false c27
        clear c27
        obtain rfl := Option.some.inj H
        have hcz68_0 : wr.cell? ⟨gb367, 0, none⟩ = some (.slice A0_0 l0_0.length c0_0) := (blk_cell BK367.out 0).trans rfl
        have hcz68_1 : wr.cell? ⟨gb367, 1, none⟩ = some (.int .i64 a0_1) := (blk_cell BK367.out 1).trans rfl
        have hcz68_2 : wr.cell? ⟨gb367, 2, none⟩ = some (.int .i64 a0_2) := (blk_cell BK367.out 2).trans rfl
        have hcz68_3 : wr.cell? ⟨gb367, 3, none⟩ = some (.int .i64 a0_3) := (blk_cell BK367.out 3).trans rfl
        have hcz68_4 : wr.cell? ⟨gb367, 4, none⟩ = some (.int .i64 a0_4) := (blk_cell BK367.out 4).trans rfl
        have hcz68_5 : wr.cell? ⟨gb367, 5, none⟩ = some (.int .i64 a0_5) := (blk_cell BK367.out 5).trans rfl
        have hcz68_6 : wr.cell? ⟨gb367, 6, none⟩ = some (.bool a0_6) := (blk_cell BK367.out 6).trans rfl
        have hfz68_0 := blk_frozen BK367.out 0
        have hfz68_1 := blk_frozen BK367.out 1
        have hfz68_2 := blk_frozen BK367.out 2
        have hfz68_3 := blk_frozen BK367.out 3
        have hfz68_4 := blk_frozen BK367.out 4
        have hfz68_5 := blk_frozen BK367.out 5
        have hfz68_6 := blk_frozen BK367.out 6
        go_wp2
        go_ret
        exact ⟨by first | rfl | (simp [errW_none, errW_some] <;> rfl) | (simp [*, errW_none, errW_some] <;> rfl), by repeat (first | (with_reducible first | exact HB.out | apply below_alloc | apply pw_below_drewN | apply below_drew1 | refine below_set ?_ GE367.out) | exact HB.out)⟩

end Go.Proofs.Ytdclcdaoidbgbaa.PA
