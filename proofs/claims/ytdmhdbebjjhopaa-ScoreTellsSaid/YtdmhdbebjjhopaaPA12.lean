-- Written by a program of this seat's session (wip/tools/ownprint.py, over the kit's printer) out of the translation: functions and their contracts.
import Derived.Test.YtdmhdbebjjhopaaPA0
import Derived.Test.YtdmhdbebjjhopaaPA1
import Derived.Test.YtdmhdbebjjhopaaPA5
import Derived.Test.YtdmhdbebjjhopaaPA6
import Derived.Test.YtdmhdbebjjhopaaPA9
import Derived.Test.YtdmhdbebjjhopaaPA11
namespace Go.Proofs.Ytdmhdbebjjhopaa.PA
open Go.RowKit Go.Proofs.YtdmhdbebjjhopaaW.PrintWords Go.Proofs.YtdmhdbebjjhopaaW.PrintLast Go.Proofs.YtdmhdbebjjhopaaW.PrintMore
attribute [local go_sem] max2_int min2_int max_two min_two max_three min_three max_four min_four   -- for this text's walks alone
set_option linter.unusedVariables false
set_option linter.unusedSimpArgs false

attribute [local go_sem high] eqA37
/-! ### flagstonelaw39_ScoreTells: function 6 -/
mutual
def flagstonelaw39_ScoreTells.l0 : Nat → Int → Bool → List (S34) → List (S42) → List Int → Int → Option (Bool)
 | 0, _, _, _, _, _, _ => none
 | k + 1, x4, x6, x15, x16, x17, x18 => if x18 < (x16.length : Int) then (flagstonelaw39_ScoreTells.l1 k x4 x6 x15 x16 x17 x18 0) else (some true)
def flagstonelaw39_ScoreTells.l1 : Nat → Int → Bool → List (S34) → List (S42) → List Int → Int → Int → Option (Bool)
 | 0, _, _, _, _, _, _, _ => none
 | k + 1, x4, x6, x15, x16, x17, x18, x19 => if x19 < (x17.length : Int) then (if 0 ≤ x18 then (if x18 < (x16.length : Int) then (if 0 ≤ x19 then ((score_Of.f k x15 x4 ((rd_T42 x16 x18).f0) ((rd_T42 x16 x18).f1) ((rd_T42 x16 x18).f2) (rd x17 x19) x6).bind fun bt241 => ((flagstoneref39_Of.f k x15 x4 ((rd_T42 x16 x18).f0) ((rd_T42 x16 x18).f1) ((rd_T42 x16 x18).f2) (rd x17 x19) x6).bind fun bt248 => (if (!(bt241.1 == bt248.1) || (!(bt241.2.1 == bt248.2.1) || (!(bt241.2.2.1 == bt248.2.2.1)))) = true then (flagstonelaw39_ScoreTells.j2 k x4 x6 x15 x16 x17 x18 x19 true) else (flagstonelaw39_ScoreTells.j2 k x4 x6 x15 x16 x17 x18 x19 (bt241.2.2.2 != bt248.2.2.2))))) else (none)) else (none)) else (none)) else (flagstonelaw39_ScoreTells.l0 k x4 x6 x15 x16 x17 (wrap64 (x18 + 1)))
def flagstonelaw39_ScoreTells.j2 : Nat → Int → Bool → List (S34) → List (S42) → List Int → Int → Int → Bool → Option (Bool)
 | 0, _, _, _, _, _, _, _, _ => none
 | k + 1, x4, x6, x15, x16, x17, x18, x19, x101 => if x101 = true then (some false) else (flagstonelaw39_ScoreTells.l2 k x4 x6 x15 x16 x17 x18 x19 0)
def flagstonelaw39_ScoreTells.l2 : Nat → Int → Bool → List (S34) → List (S42) → List Int → Int → Int → Int → Option (Bool)
 | 0, _, _, _, _, _, _, _, _ => none
 | k + 1, x4, x6, x15, x16, x17, x18, x19, x24 => if x24 < (x15.length : Int) then (flagstonelaw39_ScoreTells.j4 k x4 x6 x15 x16 x17 x18 x19 x24 (decide (x19 < 3))) else (flagstonelaw39_ScoreTells.j4 k x4 x6 x15 x16 x17 x18 x19 x24 false)
def flagstonelaw39_ScoreTells.j4 : Nat → Int → Bool → List (S34) → List (S42) → List Int → Int → Int → Int → Bool → Option (Bool)
 | 0, _, _, _, _, _, _, _, _, _ => none
 | k + 1, x4, x6, x15, x16, x17, x18, x19, x24, x109 => if x109 = true then (if 0 ≤ x18 then (if x18 < (x16.length : Int) then (if 0 ≤ x19 then (if x19 < (x17.length : Int) then ((score_Of.f k x15 x24 ((rd_T42 x16 x18).f0) ((rd_T42 x16 x18).f1) ((rd_T42 x16 x18).f2) (rd x17 x19) x6).bind fun bt255 => ((flagstoneref39_Of.f k x15 x24 ((rd_T42 x16 x18).f0) ((rd_T42 x16 x18).f1) ((rd_T42 x16 x18).f2) (rd x17 x19) x6).bind fun bt261 => (if (!(bt255.1 == bt261.1) || (!(bt255.2.1 == bt261.2.1) || (!(bt255.2.2.1 == bt261.2.2.1)))) = true then (flagstonelaw39_ScoreTells.j5 k x4 x6 x15 x16 x17 x18 x19 x24 true) else (if (bt255.2.2.2 != bt261.2.2.2) = true then (flagstonelaw39_ScoreTells.j5 k x4 x6 x15 x16 x17 x18 x19 x24 true) else (if bt255.2.2.2 = true then ((score_Valid.f bt255.1 bt255.2.1 bt255.2.2.1).bind fun t265 => (flagstonelaw39_ScoreTells.j5 k x4 x6 x15 x16 x17 x18 x19 x24 (!t265))) else (flagstonelaw39_ScoreTells.j5 k x4 x6 x15 x16 x17 x18 x19 x24 false)))))) else (none)) else (none)) else (none)) else (none)) else (flagstonelaw39_ScoreTells.l1 k x4 x6 x15 x16 x17 x18 (wrap64 (x19 + 1)))
def flagstonelaw39_ScoreTells.j5 : Nat → Int → Bool → List (S34) → List (S42) → List Int → Int → Int → Int → Bool → Option (Bool)
 | 0, _, _, _, _, _, _, _, _, _ => none
 | k + 1, x4, x6, x15, x16, x17, x18, x19, x24, x157 => if x157 = true then (some false) else (flagstonelaw39_ScoreTells.l2 k x4 x6 x15 x16 x17 x18 x19 (wrap64 (x24 + 3)))
end
def flagstonelaw39_ScoreTells.f (k : Nat) (l0 : List Int) (a1_0 : Int) (a1_1 : Int) (a1_2 : Int) (a2 : Int) (a3 : Int) (a4 : Int) (a5 : Int) (a6 : Bool) : Option (Bool) := (flagstonelaw39_awake.f k).bind fun t229 => (if t229 = true then (if (l0.length : Int) > 200 then (some true) else ((flagstonedata_Samples.f k l0 200).bind fun t230 => (flagstonelaw39_ScoreTells.l0 k a4 a6 t230 (([(⟨a1_0, a1_1, a1_2⟩ : S42), (⟨0, wrap64 (1 + (wrap64 (a2))), wrap64 (1 + (wrap64 (a3)))⟩ : S42), (⟨0, wrap64 (9999 + (Int.tmod (wrap64 (a2)) 3)), Int.tmod (wrap64 (a3)) 2⟩ : S42), (⟨0, 10000, 10000⟩ : S42)] : List (S42))) (([a5, 200, 100, 1048576, 1048577] : List Int)) 0))) else (some false))
theorem flagstonelaw39_ScoreTells.mono_l : ∀ k, (∀ y0 y1 y2 y3 y4 y5, LeO (flagstonelaw39_ScoreTells.l0 k y0 y1 y2 y3 y4 y5) (flagstonelaw39_ScoreTells.l0 (k + 1) y0 y1 y2 y3 y4 y5)) ∧ (∀ y0 y1 y2 y3 y4 y5 y6, LeO (flagstonelaw39_ScoreTells.l1 k y0 y1 y2 y3 y4 y5 y6) (flagstonelaw39_ScoreTells.l1 (k + 1) y0 y1 y2 y3 y4 y5 y6)) ∧ (∀ y0 y1 y2 y3 y4 y5 y6 y7, LeO (flagstonelaw39_ScoreTells.j2 k y0 y1 y2 y3 y4 y5 y6 y7) (flagstonelaw39_ScoreTells.j2 (k + 1) y0 y1 y2 y3 y4 y5 y6 y7)) ∧ (∀ y0 y1 y2 y3 y4 y5 y6 y7, LeO (flagstonelaw39_ScoreTells.l2 k y0 y1 y2 y3 y4 y5 y6 y7) (flagstonelaw39_ScoreTells.l2 (k + 1) y0 y1 y2 y3 y4 y5 y6 y7)) ∧ (∀ y0 y1 y2 y3 y4 y5 y6 y7 y8, LeO (flagstonelaw39_ScoreTells.j4 k y0 y1 y2 y3 y4 y5 y6 y7 y8) (flagstonelaw39_ScoreTells.j4 (k + 1) y0 y1 y2 y3 y4 y5 y6 y7 y8)) ∧ (∀ y0 y1 y2 y3 y4 y5 y6 y7 y8, LeO (flagstonelaw39_ScoreTells.j5 k y0 y1 y2 y3 y4 y5 y6 y7 y8) (flagstonelaw39_ScoreTells.j5 (k + 1) y0 y1 y2 y3 y4 y5 y6 y7 y8))
 | 0 => ⟨fun _ _ _ _ _ _ r h => by simp [flagstonelaw39_ScoreTells.l0] at h, fun _ _ _ _ _ _ _ r h => by simp [flagstonelaw39_ScoreTells.l1] at h, fun _ _ _ _ _ _ _ _ r h => by simp [flagstonelaw39_ScoreTells.j2] at h, fun _ _ _ _ _ _ _ _ r h => by simp [flagstonelaw39_ScoreTells.l2] at h, fun _ _ _ _ _ _ _ _ _ r h => by simp [flagstonelaw39_ScoreTells.j4] at h, fun _ _ _ _ _ _ _ _ _ r h => by simp [flagstonelaw39_ScoreTells.j5] at h⟩
 | k + 1 => by
  obtain ⟨ih0, ih1, ih2, ih3, ih4, ih5⟩ := flagstonelaw39_ScoreTells.mono_l k
  refine ⟨?_, ?_, ?_, ?_, ?_, ?_⟩
  ·intro y0 y1 y2 y3 y4 y5
   unfold flagstonelaw39_ScoreTells.l0
   repeat' first
   | (with_reducible exact ih0 _ _ _ _ _ _)
   | (with_reducible exact ih1 _ _ _ _ _ _ _)
   | (with_reducible exact ih2 _ _ _ _ _ _ _ _)
   | (with_reducible exact ih3 _ _ _ _ _ _ _ _)
   | (with_reducible exact ih4 _ _ _ _ _ _ _ _ _)
   | (with_reducible exact ih5 _ _ _ _ _ _ _ _ _)
   | (with_reducible exact flagstonedata_Samples.mono _ _ _)
   | (with_reducible exact flagstonelaw39_awake.mono _)
   | (with_reducible exact flagstoneref39_Of.mono _ _ _ _ _ _ _ _)
   | (with_reducible exact score_Of.mono _ _ _ _ _ _ _ _)
   | (with_reducible exact LeO.refl _)
   | (with_reducible exact LeO.none _)
   | (with_reducible refine LeO.ite ?_ ?_)
   | (with_reducible refine LeO.bind ?_ (fun _ => ?_))
   | exact ih0 _ _ _ _ _ _
   | exact ih1 _ _ _ _ _ _ _
   | exact ih2 _ _ _ _ _ _ _ _
   | exact ih3 _ _ _ _ _ _ _ _
   | exact ih4 _ _ _ _ _ _ _ _ _
   | exact ih5 _ _ _ _ _ _ _ _ _
   | exact flagstonedata_Samples.mono _ _ _
   | exact flagstonelaw39_awake.mono _
   | exact flagstoneref39_Of.mono _ _ _ _ _ _ _ _
   | exact score_Of.mono _ _ _ _ _ _ _ _
   | exact LeO.none _
   | refine LeO.ite ?_ ?_
   | refine LeO.bind ?_ (fun _ => ?_)
  ·intro y0 y1 y2 y3 y4 y5 y6
   unfold flagstonelaw39_ScoreTells.l1
   repeat' first
   | (with_reducible exact ih0 _ _ _ _ _ _)
   | (with_reducible exact ih1 _ _ _ _ _ _ _)
   | (with_reducible exact ih2 _ _ _ _ _ _ _ _)
   | (with_reducible exact ih3 _ _ _ _ _ _ _ _)
   | (with_reducible exact ih4 _ _ _ _ _ _ _ _ _)
   | (with_reducible exact ih5 _ _ _ _ _ _ _ _ _)
   | (with_reducible exact flagstonedata_Samples.mono _ _ _)
   | (with_reducible exact flagstonelaw39_awake.mono _)
   | (with_reducible exact flagstoneref39_Of.mono _ _ _ _ _ _ _ _)
   | (with_reducible exact score_Of.mono _ _ _ _ _ _ _ _)
   | (with_reducible exact LeO.refl _)
   | (with_reducible exact LeO.none _)
   | (with_reducible refine LeO.ite ?_ ?_)
   | (with_reducible refine LeO.bind ?_ (fun _ => ?_))
   | exact ih0 _ _ _ _ _ _
   | exact ih1 _ _ _ _ _ _ _
   | exact ih2 _ _ _ _ _ _ _ _
   | exact ih3 _ _ _ _ _ _ _ _
   | exact ih4 _ _ _ _ _ _ _ _ _
   | exact ih5 _ _ _ _ _ _ _ _ _
   | exact flagstonedata_Samples.mono _ _ _
   | exact flagstonelaw39_awake.mono _
   | exact flagstoneref39_Of.mono _ _ _ _ _ _ _ _
   | exact score_Of.mono _ _ _ _ _ _ _ _
   | exact LeO.none _
   | refine LeO.ite ?_ ?_
   | refine LeO.bind ?_ (fun _ => ?_)
  ·intro y0 y1 y2 y3 y4 y5 y6 y7
   unfold flagstonelaw39_ScoreTells.j2
   repeat' first
   | (with_reducible exact ih0 _ _ _ _ _ _)
   | (with_reducible exact ih1 _ _ _ _ _ _ _)
   | (with_reducible exact ih2 _ _ _ _ _ _ _ _)
   | (with_reducible exact ih3 _ _ _ _ _ _ _ _)
   | (with_reducible exact ih4 _ _ _ _ _ _ _ _ _)
   | (with_reducible exact ih5 _ _ _ _ _ _ _ _ _)
   | (with_reducible exact flagstonedata_Samples.mono _ _ _)
   | (with_reducible exact flagstonelaw39_awake.mono _)
   | (with_reducible exact flagstoneref39_Of.mono _ _ _ _ _ _ _ _)
   | (with_reducible exact score_Of.mono _ _ _ _ _ _ _ _)
   | (with_reducible exact LeO.refl _)
   | (with_reducible exact LeO.none _)
   | (with_reducible refine LeO.ite ?_ ?_)
   | (with_reducible refine LeO.bind ?_ (fun _ => ?_))
   | exact ih0 _ _ _ _ _ _
   | exact ih1 _ _ _ _ _ _ _
   | exact ih2 _ _ _ _ _ _ _ _
   | exact ih3 _ _ _ _ _ _ _ _
   | exact ih4 _ _ _ _ _ _ _ _ _
   | exact ih5 _ _ _ _ _ _ _ _ _
   | exact flagstonedata_Samples.mono _ _ _
   | exact flagstonelaw39_awake.mono _
   | exact flagstoneref39_Of.mono _ _ _ _ _ _ _ _
   | exact score_Of.mono _ _ _ _ _ _ _ _
   | exact LeO.none _
   | refine LeO.ite ?_ ?_
   | refine LeO.bind ?_ (fun _ => ?_)
  ·intro y0 y1 y2 y3 y4 y5 y6 y7
   unfold flagstonelaw39_ScoreTells.l2
   repeat' first
   | (with_reducible exact ih0 _ _ _ _ _ _)
   | (with_reducible exact ih1 _ _ _ _ _ _ _)
   | (with_reducible exact ih2 _ _ _ _ _ _ _ _)
   | (with_reducible exact ih3 _ _ _ _ _ _ _ _)
   | (with_reducible exact ih4 _ _ _ _ _ _ _ _ _)
   | (with_reducible exact ih5 _ _ _ _ _ _ _ _ _)
   | (with_reducible exact flagstonedata_Samples.mono _ _ _)
   | (with_reducible exact flagstonelaw39_awake.mono _)
   | (with_reducible exact flagstoneref39_Of.mono _ _ _ _ _ _ _ _)
   | (with_reducible exact score_Of.mono _ _ _ _ _ _ _ _)
   | (with_reducible exact LeO.refl _)
   | (with_reducible exact LeO.none _)
   | (with_reducible refine LeO.ite ?_ ?_)
   | (with_reducible refine LeO.bind ?_ (fun _ => ?_))
   | exact ih0 _ _ _ _ _ _
   | exact ih1 _ _ _ _ _ _ _
   | exact ih2 _ _ _ _ _ _ _ _
   | exact ih3 _ _ _ _ _ _ _ _
   | exact ih4 _ _ _ _ _ _ _ _ _
   | exact ih5 _ _ _ _ _ _ _ _ _
   | exact flagstonedata_Samples.mono _ _ _
   | exact flagstonelaw39_awake.mono _
   | exact flagstoneref39_Of.mono _ _ _ _ _ _ _ _
   | exact score_Of.mono _ _ _ _ _ _ _ _
   | exact LeO.none _
   | refine LeO.ite ?_ ?_
   | refine LeO.bind ?_ (fun _ => ?_)
  ·intro y0 y1 y2 y3 y4 y5 y6 y7 y8
   unfold flagstonelaw39_ScoreTells.j4
   repeat' first
   | (with_reducible exact ih0 _ _ _ _ _ _)
   | (with_reducible exact ih1 _ _ _ _ _ _ _)
   | (with_reducible exact ih2 _ _ _ _ _ _ _ _)
   | (with_reducible exact ih3 _ _ _ _ _ _ _ _)
   | (with_reducible exact ih4 _ _ _ _ _ _ _ _ _)
   | (with_reducible exact ih5 _ _ _ _ _ _ _ _ _)
   | (with_reducible exact flagstonedata_Samples.mono _ _ _)
   | (with_reducible exact flagstonelaw39_awake.mono _)
   | (with_reducible exact flagstoneref39_Of.mono _ _ _ _ _ _ _ _)
   | (with_reducible exact score_Of.mono _ _ _ _ _ _ _ _)
   | (with_reducible exact LeO.refl _)
   | (with_reducible exact LeO.none _)
   | (with_reducible refine LeO.ite ?_ ?_)
   | (with_reducible refine LeO.bind ?_ (fun _ => ?_))
   | exact ih0 _ _ _ _ _ _
   | exact ih1 _ _ _ _ _ _ _
   | exact ih2 _ _ _ _ _ _ _ _
   | exact ih3 _ _ _ _ _ _ _ _
   | exact ih4 _ _ _ _ _ _ _ _ _
   | exact ih5 _ _ _ _ _ _ _ _ _
   | exact flagstonedata_Samples.mono _ _ _
   | exact flagstonelaw39_awake.mono _
   | exact flagstoneref39_Of.mono _ _ _ _ _ _ _ _
   | exact score_Of.mono _ _ _ _ _ _ _ _
   | exact LeO.none _
   | refine LeO.ite ?_ ?_
   | refine LeO.bind ?_ (fun _ => ?_)
  ·intro y0 y1 y2 y3 y4 y5 y6 y7 y8
   unfold flagstonelaw39_ScoreTells.j5
   repeat' first
   | (with_reducible exact ih0 _ _ _ _ _ _)
   | (with_reducible exact ih1 _ _ _ _ _ _ _)
   | (with_reducible exact ih2 _ _ _ _ _ _ _ _)
   | (with_reducible exact ih3 _ _ _ _ _ _ _ _)
   | (with_reducible exact ih4 _ _ _ _ _ _ _ _ _)
   | (with_reducible exact ih5 _ _ _ _ _ _ _ _ _)
   | (with_reducible exact flagstonedata_Samples.mono _ _ _)
   | (with_reducible exact flagstonelaw39_awake.mono _)
   | (with_reducible exact flagstoneref39_Of.mono _ _ _ _ _ _ _ _)
   | (with_reducible exact score_Of.mono _ _ _ _ _ _ _ _)
   | (with_reducible exact LeO.refl _)
   | (with_reducible exact LeO.none _)
   | (with_reducible refine LeO.ite ?_ ?_)
   | (with_reducible refine LeO.bind ?_ (fun _ => ?_))
   | exact ih0 _ _ _ _ _ _
   | exact ih1 _ _ _ _ _ _ _
   | exact ih2 _ _ _ _ _ _ _ _
   | exact ih3 _ _ _ _ _ _ _ _
   | exact ih4 _ _ _ _ _ _ _ _ _
   | exact ih5 _ _ _ _ _ _ _ _ _
   | exact flagstonedata_Samples.mono _ _ _
   | exact flagstonelaw39_awake.mono _
   | exact flagstoneref39_Of.mono _ _ _ _ _ _ _ _
   | exact score_Of.mono _ _ _ _ _ _ _ _
   | exact LeO.none _
   | refine LeO.ite ?_ ?_
   | refine LeO.bind ?_ (fun _ => ?_)
theorem flagstonelaw39_ScoreTells.mono : ∀ a0 a1 a2 a3 a4 a5 a6 a7 a8 k, LeO (flagstonelaw39_ScoreTells.f k a0 a1 a2 a3 a4 a5 a6 a7 a8) (flagstonelaw39_ScoreTells.f (k + 1) a0 a1 a2 a3 a4 a5 a6 a7 a8) := by
 intro a0 a1 a2 a3 a4 a5 a6 a7 a8 k
 obtain ⟨ih0, ih1, ih2, ih3, ih4, ih5⟩ := flagstonelaw39_ScoreTells.mono_l k
 unfold flagstonelaw39_ScoreTells.f
 repeat' first
   | (with_reducible exact ih0 _ _ _ _ _ _)
   | (with_reducible exact ih1 _ _ _ _ _ _ _)
   | (with_reducible exact ih2 _ _ _ _ _ _ _ _)
   | (with_reducible exact ih3 _ _ _ _ _ _ _ _)
   | (with_reducible exact ih4 _ _ _ _ _ _ _ _ _)
   | (with_reducible exact ih5 _ _ _ _ _ _ _ _ _)
   | (with_reducible exact flagstonedata_Samples.mono _ _ _)
   | (with_reducible exact flagstonelaw39_awake.mono _)
   | (with_reducible exact flagstoneref39_Of.mono _ _ _ _ _ _ _ _)
   | (with_reducible exact score_Of.mono _ _ _ _ _ _ _ _)
   | (with_reducible exact LeO.refl _)
   | (with_reducible exact LeO.none _)
   | (with_reducible refine LeO.ite ?_ ?_)
   | (with_reducible refine LeO.bind ?_ (fun _ => ?_))
   | exact ih0 _ _ _ _ _ _
   | exact ih1 _ _ _ _ _ _ _
   | exact ih2 _ _ _ _ _ _ _ _
   | exact ih3 _ _ _ _ _ _ _ _
   | exact ih4 _ _ _ _ _ _ _ _ _
   | exact ih5 _ _ _ _ _ _ _ _ _
   | exact flagstonedata_Samples.mono _ _ _
   | exact flagstonelaw39_awake.mono _
   | exact flagstoneref39_Of.mono _ _ _ _ _ _ _ _
   | exact score_Of.mono _ _ _ _ _ _ _ _
   | exact LeO.none _
   | refine LeO.ite ?_ ?_
   | refine LeO.bind ?_ (fun _ => ?_)
def flagstonelaw39_ScoreTells.T14 : Bool × List (List Nat × List Nat) := (true, [([], []), ([], []), ([], []), ([], []), ([2, 3], [2, 3]), ([4], [4]), ([], []), ([], []), ([6, 7], [6, 7]), ([8], [8]), ([], []), ([0, 1, 5, 9, 10], [0, 1, 5, 9, 10]), ([11], [11]), ([12], [12]), ([12], [12]), ([], []), ([15, 13, 11, 0, 1, 2, 3, 4, 5, 6, 7, 8, 9, 10, 11, 12, 13, 15], [13, 15]), ([14, 16, 0, 1, 2, 3, 4, 5, 6, 7, 8, 9, 10, 11, 12, 13, 14, 15, 16], [14])])
def flagstonelaw39_ScoreTells.B14 : List Nat := [0, 0, 0, 0, 12, 28, 0, 0, 192, 448, 0, 2047, 4095, 8191, 8191, 0, 49151, 131071]
theorem flagstonelaw39_ScoreTells.tab14 : rtab .any (opsOf Try.f6 14) = flagstonelaw39_ScoreTells.T14 := by kernel_rfl
theorem flagstonelaw39_ScoreTells.bits14 : waitsOk flagstonelaw39_ScoreTells.T14.2 flagstonelaw39_ScoreTells.B14 = true := by kernel_rfl
def flagstonelaw39_ScoreTells.T15 : Bool × List (List Nat × List Nat) := (true, [([], []), ([], []), ([], []), ([], []), ([2, 3], [2, 3]), ([4], [4]), ([], []), ([], []), ([6, 7], [6, 7]), ([8], [8]), ([], []), ([0, 1, 5, 9, 10], [0, 1, 5, 9, 10]), ([11], [11]), ([12], [12]), ([12], [12]), ([], []), ([15, 13, 11, 0, 1, 2, 3, 4, 5, 6, 7, 8, 9, 10, 11, 12, 13, 15], [13, 15]), ([14, 16, 0, 1, 2, 3, 4, 5, 6, 7, 8, 9, 10, 11, 12, 13, 14, 15, 16], [14])])
def flagstonelaw39_ScoreTells.B15 : List Nat := [0, 0, 0, 0, 12, 28, 0, 0, 192, 448, 0, 2047, 4095, 8191, 8191, 0, 49151, 131071]
theorem flagstonelaw39_ScoreTells.tab15 : rtab .any (opsOf Try.f6 15) = flagstonelaw39_ScoreTells.T15 := by kernel_rfl
theorem flagstonelaw39_ScoreTells.bits15 : waitsOk flagstonelaw39_ScoreTells.T15.2 flagstonelaw39_ScoreTells.B15 = true := by kernel_rfl
def flagstonelaw39_ScoreTells.T21 : Bool × List (List Nat × List Nat) := (true, [([], []), ([], []), ([], []), ([], []), ([2, 3], [2, 3]), ([4], [4]), ([], []), ([], []), ([6, 7], [6, 7]), ([8], [8]), ([], []), ([0, 1, 5, 9, 10], [0, 1, 5, 9, 10]), ([11], [11]), ([12], [12]), ([12], [12]), ([13, 11, 0, 1, 2, 3, 4, 5, 6, 7, 8, 9, 10, 11, 12, 13], [13]), ([14, 15, 0, 1, 2, 3, 4, 5, 6, 7, 8, 9, 10, 11, 12, 13, 14, 15], [14])])
def flagstonelaw39_ScoreTells.B21 : List Nat := [0, 0, 0, 0, 12, 28, 0, 0, 192, 448, 0, 2047, 4095, 8191, 8191, 16383, 65535]
theorem flagstonelaw39_ScoreTells.tab21 : rtab .any (opsOf Try.f6 21) = flagstonelaw39_ScoreTells.T21 := by kernel_rfl
theorem flagstonelaw39_ScoreTells.bits21 : waitsOk flagstonelaw39_ScoreTells.T21.2 flagstonelaw39_ScoreTells.B21 = true := by kernel_rfl
def flagstonelaw39_ScoreTells.T22 : Bool × List (List Nat × List Nat) := (true, [([], []), ([], []), ([], []), ([], []), ([2, 3], [2, 3]), ([4], [4]), ([], []), ([], []), ([6, 7], [6, 7]), ([8], [8]), ([], []), ([0, 1, 5, 9, 10], [0, 1, 5, 9, 10]), ([11], [11]), ([12], [12]), ([12], [12]), ([13, 11, 0, 1, 2, 3, 4, 5, 6, 7, 8, 9, 10, 11, 12, 13], [13]), ([14, 15, 0, 1, 2, 3, 4, 5, 6, 7, 8, 9, 10, 11, 12, 13, 14, 15], [14])])
def flagstonelaw39_ScoreTells.B22 : List Nat := [0, 0, 0, 0, 12, 28, 0, 0, 192, 448, 0, 2047, 4095, 8191, 8191, 16383, 65535]
theorem flagstonelaw39_ScoreTells.tab22 : rtab .any (opsOf Try.f6 22) = flagstonelaw39_ScoreTells.T22 := by kernel_rfl
theorem flagstonelaw39_ScoreTells.bits22 : waitsOk flagstonelaw39_ScoreTells.T22.2 flagstonelaw39_ScoreTells.B22 = true := by kernel_rfl
set_option maxHeartbeats 8000000 in
set_option maxRecDepth 100000 in
theorem flagstonelaw39_ScoreTells.calls (k : Nat) (A0 : Option Addr) (c0 : Nat) (l0 : List Int) (a1_0 : Int) (a1_1 : Int) (a1_2 : Int) (a2 : Int) (a3 : Int) (a4 : Int) (a5 : Int) (a6 : Bool) (r : Bool) (w : World) (hr0 : Kd.C (Kd.int .u8) w A0 l0.length l0) (hc0 : l0.length ≤ c0) (h : flagstonelaw39_ScoreTells.f k l0 a1_0 a1_1 a1_2 a2 a3 a4 a5 a6 = some r) :
  Calls Try.prog 6 #[.slice A0 l0.length c0, .agg #[.int .i64 a1_0, .int .i64 a1_1, .int .i64 a1_2], .int .u8 a2, .int .u8 a3, .int .i64 a4, .int .i64 a5, .bool a6] w fun e w' => e = .returned (.bool r) ∧ Below w.heap.size w w' := by
 have hu42 := Try.underlying42
 have hu37 := Try.underlying37
 have HR0 := Aside0.mk hr0
 have HC0 := Aside0.mk hc0
 clear hr0 hc0
 have HB := Aside0.mk (Below.refl w.heap.size w)
 have H : ((flagstonelaw39_awake.f k).bind fun t229 => (if t229 = true then (if (l0.length : Int) > 200 then (some true) else ((flagstonedata_Samples.f k l0 200).bind fun t230 => (flagstonelaw39_ScoreTells.l0 k a4 a6 t230 (([(⟨a1_0, a1_1, a1_2⟩ : S42), (⟨0, wrap64 (1 + (wrap64 (a2))), wrap64 (1 + (wrap64 (a3)))⟩ : S42), (⟨0, wrap64 (9999 + (Int.tmod (wrap64 (a2)) 3)), Int.tmod (wrap64 (a3)) 2⟩ : S42), (⟨0, 10000, 10000⟩ : S42)] : List (S42))) (([a5, 200, 100, 1048576, 1048577] : List Int)) 0))) else (some false))) = some r := h
 clear h
 replace H := Option.bind_eq_some_iff.mp H
 obtain ⟨t229, A80, H⟩ := H
 replace H : (if t229 = true then (if (l0.length : Int) > 200 then (some true) else ((flagstonedata_Samples.f k l0 200).bind fun t230 => (flagstonelaw39_ScoreTells.l0 k a4 a6 t230 (([(⟨a1_0, a1_1, a1_2⟩ : S42), (⟨0, wrap64 (1 + (wrap64 (a2))), wrap64 (1 + (wrap64 (a3)))⟩ : S42), (⟨0, wrap64 (9999 + (Int.tmod (wrap64 (a2)) 3)), Int.tmod (wrap64 (a3)) 2⟩ : S42), (⟨0, 10000, 10000⟩ : S42)] : List (S42))) (([a5, 200, 100, 1048576, 1048577] : List Int)) 0))) else (some false)) = some r := H
 have A8 := Aside0.mk A80
 clear A80
 by_cases c9 : t229 = true
 ·subst c9
  have H1 : (if (l0.length : Int) > 200 then (some true) else ((flagstonedata_Samples.f k l0 200).bind fun t230 => (flagstonelaw39_ScoreTells.l0 k a4 a6 t230 (([(⟨a1_0, a1_1, a1_2⟩ : S42), (⟨0, wrap64 (1 + (wrap64 (a2))), wrap64 (1 + (wrap64 (a3)))⟩ : S42), (⟨0, wrap64 (9999 + (Int.tmod (wrap64 (a2)) 3)), Int.tmod (wrap64 (a3)) 2⟩ : S42), (⟨0, 10000, 10000⟩ : S42)] : List (S42))) (([a5, 200, 100, 1048576, 1048577] : List Int)) 0))) = some r := by rw [if_pos rfl] at H; exact H
  clear H
  have H := H1
  clear H1
  by_cases c10 : (l0.length : Int) > 200
  ·rw [if_pos c10] at H
   have c10b0 : decide (200 < (l0.length : Int)) = true := decide_eq_true c10
   have c10b1 : decide (200 < l0.length) = true := decide_eq_true (by omega)
   clear c10
   obtain rfl := Option.some.inj H
   go_enter Try.func6, Try.ntmps6
   go_wp2_with (first | ((with_reducible refine gate_dst (N := 8) rfl ?_); refine box_event ?hg (N := 8) ?hd (cs := #[.int .i64 a1_0, .int .i64 a1_1, .int .i64 a1_2]) (t := 42) ?hr ?_; (case hd => rfl); (case hg => rfl); (case hr => first | (go_simp; done) | (go_simp; rfl)); intro gb228 hg w11 hbox hb; have n0_ := Aside0.mk (below_step (by repeat (first | (with_reducible first | exact HB.out | apply below_alloc | apply pw_below_drewN | apply below_drew1) | exact HB.out)) hb); have n1_ := Aside0.mk (hbox); have n2_ := Aside0.mk ((by rw [hg]; exact (below_size (by repeat (first | (with_reducible first | exact HB.out | apply below_alloc | apply pw_below_drewN | apply below_drew1) | exact HB.out))) : w.heap.size ≤ gb228)); have n3_ := Aside0.mk ((by rw [hg]; exact (below_size (by repeat (first | (with_reducible first | exact HB.out | apply below_alloc | apply pw_below_drewN | apply below_drew1) | exact HB.out))) : w.heap.size ≤ gb228)); clear HB; have HB := n0_; have BK228 := n1_; have GW228 := n2_; have GE228 := n3_; clear n0_ n1_ n2_ n3_; clear hb hbox hg) | ((with_reducible refine gate_callee (f := 11) rfl ?_); refine goesL_ (some 25) rfl rfl Try.func11 (by kernel_rfl) rfl #[] rfl (by (try simp only [List.map_toArray, List.map_cons, List.map_nil]); first | done | rfl | (simp only [List.length_drop, List.length_take]; rfl)) ?_; (with_reducible refine (flagstonelaw39_awake.calls k  true _ A8.out).mono ?_); rintro e w12 ⟨rfl, hb⟩; refine ⟨_, rfl, ?_⟩; have n0_ := Aside0.mk (blk_below (g := gb228) (o := .cells #[.int .i64 a1_0, .int .i64 a1_1, .int .i64 a1_2] 42 (0, 0)) (by (with_reducible repeat (first | refine blk_drewN ?_ _ | refine blk_drew ?_ | refine blk_alloc ?_ _)); exact BK228.out) hb); have n1_ := Aside0.mk (below_step (by repeat (first | (with_reducible first | exact HB.out | apply below_alloc | apply pw_below_drewN | apply below_drew1 | refine below_set ?_ GE228.out) | exact HB.out)) hb); clear BK228; clear HB; have BK228 := n0_; have HB := n1_; clear n0_ n1_; (try clear hb); (try clear hb2); (try clear hk); (try clear hi)))
   go_ret
   exact ⟨by first | rfl | (simp [errW_none, errW_some] <;> rfl) | (simp [*, errW_none, errW_some] <;> rfl), by repeat (first | (with_reducible first | exact HB.out | apply below_alloc | apply pw_below_drewN | apply below_drew1 | refine below_set ?_ GE228.out) | exact HB.out)⟩
  ·rw [if_neg c10] at H
   have c10b0 : decide (200 < (l0.length : Int)) = false := decide_eq_false c10
   have c10b1 : decide (200 < l0.length) = false := decide_eq_false (by omega)
   clear c10
   replace H := Option.bind_eq_some_iff.mp H
   obtain ⟨t230, A130, H⟩ := H
   replace H : (flagstonelaw39_ScoreTells.l0 k a4 a6 t230 (([(⟨a1_0, a1_1, a1_2⟩ : S42), (⟨0, wrap64 (1 + (wrap64 (a2))), wrap64 (1 + (wrap64 (a3)))⟩ : S42), (⟨0, wrap64 (9999 + (Int.tmod (wrap64 (a2)) 3)), Int.tmod (wrap64 (a3)) 2⟩ : S42), (⟨0, 10000, 10000⟩ : S42)] : List (S42))) (([a5, 200, 100, 1048576, 1048577] : List Int)) 0) = some r := H
   have A13 := Aside0.mk A130
   clear A130
   obtain ⟨y233, hy233⟩ : ∃ y_ : List (S42), y_ = (([(⟨a1_0, a1_1, a1_2⟩ : S42), (⟨0, wrap64 (1 + (wrap64 (a2))), wrap64 (1 + (wrap64 (a3)))⟩ : S42), (⟨0, wrap64 (9999 + (Int.tmod (wrap64 (a2)) 3)), Int.tmod (wrap64 (a3)) 2⟩ : S42), (⟨0, 10000, 10000⟩ : S42)] : List (S42))) := ⟨_, rfl⟩
   replace H : (flagstonelaw39_ScoreTells.l0 k a4 a6 t230 y233 (([a5, 200, 100, 1048576, 1048577] : List Int)) 0) = some r := by first | (rw [hy233]; with_reducible exact H) | (have H2_ := (Option.bind_some _ _).symm.trans H; rw [hy233]; with_reducible exact H2_) | (have H2_ := (Option.bind_some _ _).symm.trans H; with_reducible exact H2_) | with_reducible exact H | (rw [hy233]; exact H) | exact H
   have Ny233 := Aside0.mk hy233
   clear hy233
   obtain ⟨y236, hy236⟩ : ∃ y_ : List Int, y_ = (([a5, 200, 100, 1048576, 1048577] : List Int)) := ⟨_, rfl⟩
   replace H : (flagstonelaw39_ScoreTells.l0 k a4 a6 t230 y233 y236 0) = some r := by first | (rw [hy236]; with_reducible exact H) | (have H2_ := (Option.bind_some _ _).symm.trans H; rw [hy236]; with_reducible exact H2_) | (have H2_ := (Option.bind_some _ _).symm.trans H; with_reducible exact H2_) | with_reducible exact H | (rw [hy236]; exact H) | exact H
   have Ny236 := Aside0.mk hy236
   clear hy236
   have H' := Aside0.mk H
   clear H
   go_enter Try.func6, Try.ntmps6
   go_wp2_with (first | ((with_reducible refine gate_dst (N := 8) rfl ?_); refine box_event ?hg (N := 8) ?hd (cs := #[.int .i64 a1_0, .int .i64 a1_1, .int .i64 a1_2]) (t := 42) ?hr ?_; (case hd => rfl); (case hg => rfl); (case hr => first | (go_simp; done) | (go_simp; rfl)); intro gb228 hg w14 hbox hb; have n0_ := Aside0.mk (below_step (by repeat (first | (with_reducible first | exact HB.out | apply below_alloc | apply pw_below_drewN | apply below_drew1) | exact HB.out)) hb); have n1_ := Aside0.mk (hbox); have n2_ := Aside0.mk ((by rw [hg]; exact (below_size (by repeat (first | (with_reducible first | exact HB.out | apply below_alloc | apply pw_below_drewN | apply below_drew1) | exact HB.out))) : w.heap.size ≤ gb228)); have n3_ := Aside0.mk ((by rw [hg]; exact (below_size (by repeat (first | (with_reducible first | exact HB.out | apply below_alloc | apply pw_below_drewN | apply below_drew1) | exact HB.out))) : w.heap.size ≤ gb228)); clear HB; have HB := n0_; have BK228 := n1_; have GW228 := n2_; have GE228 := n3_; clear n0_ n1_ n2_ n3_; clear hb hbox hg) | ((with_reducible refine gate_callee (f := 11) rfl ?_); refine goesL_ (some 25) rfl rfl Try.func11 (by kernel_rfl) rfl #[] rfl (by (try simp only [List.map_toArray, List.map_cons, List.map_nil]); first | done | rfl | (simp only [List.length_drop, List.length_take]; rfl)) ?_; (with_reducible refine (flagstonelaw39_awake.calls k  true _ A8.out).mono ?_); rintro e w15 ⟨rfl, hb⟩; refine ⟨_, rfl, ?_⟩; have n0_ := Aside0.mk (blk_below (g := gb228) (o := .cells #[.int .i64 a1_0, .int .i64 a1_1, .int .i64 a1_2] 42 (0, 0)) (by (with_reducible repeat (first | refine blk_drewN ?_ _ | refine blk_drew ?_ | refine blk_alloc ?_ _)); exact BK228.out) hb); have n1_ := Aside0.mk (below_step (by repeat (first | (with_reducible first | exact HB.out | apply below_alloc | apply pw_below_drewN | apply below_drew1 | refine below_set ?_ GE228.out) | exact HB.out)) hb); clear BK228; clear HB; have BK228 := n0_; have HB := n1_; clear n0_ n1_; (try clear hb); (try clear hb2); (try clear hk); (try clear hi)) | ((with_reducible refine gate_callee (f := 12) rfl ?_); refine goesL_ (some 31) rfl rfl Try.func12 (by kernel_rfl) rfl #[.slice A0 l0.length c0, .int .i64 200] rfl (by (try simp only [List.map_toArray, List.map_cons, List.map_nil]); first | done | rfl | (simp only [List.length_drop, List.length_take]; rfl)) ?_; (with_reducible refine (flagstonedata_Samples.calls k _ _ l0 200 t230 _ ?side1 ?side2 A13.out).mono ?_); (case side1 => repeat (first | exact (Kd.C_below HR0.out HB.out) | (with_reducible refine Kd.C_alloc ?_ _) | (with_reducible refine Kd.C_drewN ?_ _) | (with_reducible refine Kd.C_drew ?_))); (case side2 => exact HC0.out); rintro e w16 ⟨v231, rfl, ho0, hb⟩; refine ⟨_, rfl, ?_⟩; have n0_ := Aside0.mk (Kd.R_lower ho0 (below_size (by repeat (first | (with_reducible first | exact HB.out | apply below_alloc | apply pw_below_drewN | apply below_drew1 | refine below_set ?_ GE228.out) | exact HB.out)))); have n1_ := Aside0.mk (blk_below (g := gb228) (o := .cells #[.int .i64 a1_0, .int .i64 a1_1, .int .i64 a1_2] 42 (0, 0)) (by (with_reducible repeat (first | refine blk_drewN ?_ _ | refine blk_drew ?_ | refine blk_alloc ?_ _)); exact BK228.out) hb); have n2_ := Aside0.mk (below_step (by repeat (first | (with_reducible first | exact HB.out | apply below_alloc | apply pw_below_drewN | apply below_drew1 | refine below_set ?_ GE228.out) | exact HB.out)) hb); clear BK228; clear HB; have HO232 := n0_; have BK228 := n1_; have HB := n2_; clear n0_ n1_ n2_; (try clear hb); (try clear hb2); (try clear hk); (try clear hi); (try clear ho0); have hcz17_0 : w16.cell? ⟨gb228, 0, none⟩ = some (.int .i64 a1_0) := (blk_cell BK228.out 0).trans rfl; have hcz17_1 : w16.cell? ⟨gb228, 1, none⟩ = some (.int .i64 a1_1) := (blk_cell BK228.out 1).trans rfl; have hcz17_2 : w16.cell? ⟨gb228, 2, none⟩ = some (.int .i64 a1_2) := (blk_cell BK228.out 2).trans rfl; have hfz17_0 := blk_frozen BK228.out 0; have hfz17_1 := blk_frozen BK228.out 1; have hfz17_2 := blk_frozen BK228.out 2) | ((with_reducible refine gate_dst (N := 49) rfl ?_); refine Kd.R_lit k42 _ 42 ?hg (N := 49) ?hd (xs := ([(⟨a1_0, a1_1, a1_2⟩ : S42), (⟨0, wrap64 (1 + (wrap64 (a2))), wrap64 (1 + (wrap64 (a3)))⟩ : S42), (⟨0, wrap64 (9999 + (Int.tmod (wrap64 (a2)) 3)), Int.tmod (wrap64 (a3)) 2⟩ : S42), (⟨0, 10000, 10000⟩ : S42)] : List (S42))) (inner := [.int .i64 a1_0, .int .i64 a1_1, .int .i64 a1_2, .int .i64 0, .int .i64 (wrap64 (1 + (wrap64 (a2)))), .int .i64 (wrap64 (1 + (wrap64 (a3)))), .int .i64 0, .int .i64 (wrap64 (9999 + (Int.tmod (wrap64 (a2)) 3))), .int .i64 (Int.tmod (wrap64 (a3)) 2), .int .i64 0, .int .i64 10000, .int .i64 10000]) (ok := fun _ => True) (okp := fun _ => True) ?hr ?hp (fun _ hk => hk) trivial (Below.refl _ _) (Nat.le_refl _) (by simp) ?_; (case hd => rfl); (case hg => rfl); (case hr => first | (go_simp; done) | (go_simp; rfl)); (case hp => exact (Reps.c3 (show Kd.M k42 _ _ _ (⟨a1_0, a1_1, a1_2⟩ : S42) [.int .i64 a1_0, .int .i64 a1_1, .int .i64 a1_2] from (k42_mkM _ _ _ (⟨a1_0, a1_1, a1_2⟩ : S42) )) (Reps.c3 (show Kd.M k42 _ _ _ (⟨0, wrap64 (1 + (wrap64 (a2))), wrap64 (1 + (wrap64 (a3)))⟩ : S42) [.int .i64 0, .int .i64 (wrap64 (1 + (wrap64 (a2)))), .int .i64 (wrap64 (1 + (wrap64 (a3))))] from (k42_mkM _ _ _ (⟨0, wrap64 (1 + (wrap64 (a2))), wrap64 (1 + (wrap64 (a3)))⟩ : S42) )) (Reps.c3 (show Kd.M k42 _ _ _ (⟨0, wrap64 (9999 + (Int.tmod (wrap64 (a2)) 3)), Int.tmod (wrap64 (a3)) 2⟩ : S42) [.int .i64 0, .int .i64 (wrap64 (9999 + (Int.tmod (wrap64 (a2)) 3))), .int .i64 (Int.tmod (wrap64 (a3)) 2)] from (k42_mkM _ _ _ (⟨0, wrap64 (9999 + (Int.tmod (wrap64 (a2)) 3)), Int.tmod (wrap64 (a3)) 2⟩ : S42) )) (Reps.c3 (show Kd.M k42 _ _ _ (⟨0, 10000, 10000⟩ : S42) [.int .i64 0, .int .i64 10000, .int .i64 10000] from (k42_mkM _ _ _ (⟨0, 10000, 10000⟩ : S42) )) (Reps.none _ _)))))); intro v234 w18 ho19 hb hg_ hnew_; clear hg_ hnew_; (first | rw [← Ny233.out] at ho19 | (simp only [Int.reduceToNat] at ho19; rw [← Ny233.out] at ho19)); have n0_ := Aside0.mk (Kd.R_below (by (with_reducible repeat (first | apply Kd.R_alloc | apply Kd.R_drewN | apply Kd.R_drew)); exact HO232.out) hb); have n1_ := Aside0.mk (Kd.R_lower (Kd.R_newB ho19 (g := gb228) (o := .cells #[.int .i64 a1_0, .int .i64 a1_1, .int .i64 a1_2] 42 (0, 0)) (by (with_reducible repeat (first | refine blk_drewN ?_ _ | refine blk_drew ?_ | refine blk_alloc ?_ _)); exact BK228.out)) (below_size (by repeat (first | (with_reducible first | exact HB.out | apply below_alloc | apply pw_below_drewN | apply below_drew1 | refine below_set ?_ GE228.out) | exact HB.out)))); have n2_ := Aside0.mk (blk_below (g := gb228) (o := .cells #[.int .i64 a1_0, .int .i64 a1_1, .int .i64 a1_2] 42 (0, 0)) (by (with_reducible repeat (first | refine blk_drewN ?_ _ | refine blk_drew ?_ | refine blk_alloc ?_ _)); exact BK228.out) hb); have n3_ := Aside0.mk (below_step (by repeat (first | (with_reducible first | exact HB.out | apply below_alloc | apply pw_below_drewN | apply below_drew1 | refine below_set ?_ GE228.out) | exact HB.out)) hb); clear HO232; clear BK228; clear HB; have HO232 := n0_; have HO235 := n1_; have BK228 := n2_; have HB := n3_; clear n0_ n1_ n2_ n3_; clear hb ho19) | ((with_reducible refine gate_dst (N := 51) rfl ?_); refine Kd.R_lit (Kd.int .i64) _ 3 ?hg (N := 51) ?hd (xs := ([a5, 200, 100, 1048576, 1048577] : List Int)) (inner := [.int .i64 a5, .int .i64 200, .int .i64 100, .int .i64 1048576, .int .i64 1048577]) (ok := fun _ => True) (okp := fun _ => True) ?hr ?hp (fun _ hk => hk) trivial (Below.refl _ _) (Nat.le_refl _) (by simp) ?_; (case hd => rfl); (case hg => rfl); (case hr => first | (go_simp; done) | (go_simp; rfl)); (case hp => exact (Reps.one (show Kd.M (Kd.int .i64) _ _ _ a5 [.int .i64 a5] from rfl) (Reps.one (show Kd.M (Kd.int .i64) _ _ _ 200 [.int .i64 200] from rfl) (Reps.one (show Kd.M (Kd.int .i64) _ _ _ 100 [.int .i64 100] from rfl) (Reps.one (show Kd.M (Kd.int .i64) _ _ _ 1048576 [.int .i64 1048576] from rfl) (Reps.one (show Kd.M (Kd.int .i64) _ _ _ 1048577 [.int .i64 1048577] from rfl) (Reps.none _ _))))))); intro v237 w20 ho21 hb hg_ hnew_; clear hg_ hnew_; (first | rw [← Ny236.out] at ho21 | (simp only [Int.reduceToNat] at ho21; rw [← Ny236.out] at ho21)); have n0_ := Aside0.mk (Kd.R_below (by (with_reducible repeat (first | apply Kd.R_alloc | apply Kd.R_drewN | apply Kd.R_drew)); exact HO232.out) hb); have n1_ := Aside0.mk (Kd.R_below (by (with_reducible repeat (first | apply Kd.R_alloc | apply Kd.R_drewN | apply Kd.R_drew)); exact HO235.out) hb); have n2_ := Aside0.mk (Kd.R_lower ho21 (below_size (by repeat (first | (with_reducible first | exact HB.out | apply below_alloc | apply pw_below_drewN | apply below_drew1 | refine below_set ?_ GE228.out) | exact HB.out)))); have n3_ := Aside0.mk (blk_below (g := gb228) (o := .cells #[.int .i64 a1_0, .int .i64 a1_1, .int .i64 a1_2] 42 (0, 0)) (by (with_reducible repeat (first | refine blk_drewN ?_ _ | refine blk_drew ?_ | refine blk_alloc ?_ _)); exact BK228.out) hb); have n4_ := Aside0.mk (below_step (by repeat (first | (with_reducible first | exact HB.out | apply below_alloc | apply pw_below_drewN | apply below_drew1 | refine below_set ?_ GE228.out) | exact HB.out)) hb); clear HO232; clear HO235; clear BK228; clear HB; have HO232 := n0_; have HO235 := n1_; have HO238 := n2_; have BK228 := n3_; have HB := n4_; clear n0_ n1_ n2_ n3_ n4_; clear hb ho21))
   go_loopg [18] k (fun kq v18 w' => ∃ (x18_1 : Int), v18 = .int .i64 x18_1 ∧ Aside0 (flagstonelaw39_ScoreTells.l0 kq a4 a6 t230 y233 y236 x18_1 = some r) ∧ Aside0 (kq ≤ k) ∧ Aside0 (Kd.R k34 34 w' w.heap.size (fun _ => True) v231 t230) ∧ Aside0 (Kd.R k42 42 w' w.heap.size (fun k_ => k_ ≠ gb228) v234 y233) ∧ Aside0 (Kd.R (Kd.int .i64) 3 w' w.heap.size (fun _ => True) v237 y236) ∧ Aside0 (w'.heap[gb228]? = some (.cells #[.int .i64 a1_0, .int .i64 a1_1, .int .i64 a1_2] 42 (0, 0))) ∧ Aside0 (Below w.heap.size w w'))
   case atStart => exact ⟨(0), (by first | rfl | (simp; done) | (simp [*]; done) | exact congrArg (Value.int _) (by unfold wrap64; omega)), H', ⟨Nat.le_refl _⟩, ⟨by (with_reducible repeat (first | apply Kd.R_alloc | apply Kd.R_drewN | apply Kd.R_drew)); exact HO232.out⟩, ⟨by (with_reducible repeat (first | apply Kd.R_alloc | apply Kd.R_drewN | apply Kd.R_drew)); exact Kd.R_mono HO235.out (fun _ hk => hk.2)⟩, ⟨by (with_reducible repeat (first | apply Kd.R_alloc | apply Kd.R_drewN | apply Kd.R_drew)); exact HO238.out⟩, ⟨by (with_reducible repeat (first | refine blk_drewN ?_ _ | refine blk_drew ?_ | refine blk_alloc ?_ _)); exact BK228.out⟩, ⟨by repeat (first | (with_reducible first | exact HB.out | apply below_alloc | apply pw_below_drewN | apply below_drew1 | refine below_set ?_ GE228.out) | exact HB.out)⟩⟩
   case round =>
    clear H'
    try clear c1
    try clear p2
    try clear c3
    try clear c6
    try clear p6
    try clear c9
    try clear c10
    try clear c10b0
    try clear c10b1
    try clear c11
    try clear c12
    try clear hcz17_0
    try clear hcz17_1
    try clear hcz17_2
    try clear hfz17_0
    try clear hfz17_1
    try clear hfz17_2
    obtain ⟨x18_1, rfl, HA, HK1, HO_15, HO_16, HO_17, BK228, HB⟩ := hrel
    cases gk with
    | zero => exact absurd HA.out (by simp [flagstonelaw39_ScoreTells.l0])
    | succ k1 =>
     have H := HA.out
     clear HA
     simp only [flagstonelaw39_ScoreTells.l0] at H
     by_cases c22 : x18_1 < (y233.length : Int)
     ·rw [if_pos c22] at H
      have c22b0 : decide (x18_1 < (y233.length : Int)) = true := decide_eq_true c22
      clear c22
      have H' := Aside0.mk H
      clear H
      obtain ⟨Ao23, co23, eo23⟩ := Kd.R_slice HO_16.out
      subst eo23
      go_wp2
      go_loopg [19] k1 (fun kq v19 w' => ∃ (x19_2 : Int), v19 = .int .i64 x19_2 ∧ Aside0 (flagstonelaw39_ScoreTells.l1 kq a4 a6 t230 y233 y236 x18_1 x19_2 = some r) ∧ Aside0 (kq ≤ k1) ∧ Aside0 (Kd.R k34 34 w' w.heap.size (fun _ => True) v231 t230) ∧ Aside0 (Kd.R k42 42 w' w.heap.size (fun k_ => k_ ≠ gb228) (.slice Ao23 y233.length co23) y233) ∧ Aside0 (Kd.R (Kd.int .i64) 3 w' w.heap.size (fun _ => True) v237 y236) ∧ Aside0 (w'.heap[gb228]? = some (.cells #[.int .i64 a1_0, .int .i64 a1_1, .int .i64 a1_2] 42 (0, 0))) ∧ Aside0 (Below w.heap.size w w'))
      case atStart => exact ⟨(0), (by first | rfl | (simp; done) | (simp [*]; done) | exact congrArg (Value.int _) (by unfold wrap64; omega)), H', ⟨Nat.le_refl _⟩, ⟨by (with_reducible repeat (first | apply Kd.R_alloc | apply Kd.R_drewN | apply Kd.R_drew)); exact HO_15.out⟩, ⟨by (with_reducible repeat (first | apply Kd.R_alloc | apply Kd.R_drewN | apply Kd.R_drew)); exact HO_16.out⟩, ⟨by (with_reducible repeat (first | apply Kd.R_alloc | apply Kd.R_drewN | apply Kd.R_drew)); exact HO_17.out⟩, ⟨by (with_reducible repeat (first | refine blk_drewN ?_ _ | refine blk_drew ?_ | refine blk_alloc ?_ _)); exact BK228.out⟩, ⟨by repeat (first | (with_reducible first | exact HB.out | apply below_alloc | apply pw_below_drewN | apply below_drew1 | refine below_set ?_ GE228.out) | exact HB.out)⟩⟩
      case round =>
       clear H'
       try clear c1
       try clear c2
       try clear p2
       try clear c3
       try clear c6
       try clear p6
       try clear c9
       try clear c10
       try clear c10b0
       try clear c10b1
       try clear c11
       try clear c12
       try clear c22
       try clear c22b0
       try clear hcz17_0
       try clear hcz17_1
       try clear hcz17_2
       try clear hfz17_0
       try clear hfz17_1
       try clear hfz17_2
       try clear p2
       try clear p6
       obtain ⟨x19_2, rfl, HA, HK2, HO_15, HO_16, HO_17, BK228, HB⟩ := hrel
       cases gk with
       | zero => exact absurd HA.out (by simp [flagstonelaw39_ScoreTells.l1])
       | succ k2 =>
        have H := HA.out
        clear HA
        simp only [flagstonelaw39_ScoreTells.l1] at H
        by_cases c24 : x19_2 < (y236.length : Int)
        ·rw [if_pos c24] at H
         have c24b0 : decide (x19_2 < (y236.length : Int)) = true := decide_eq_true c24
         clear c24
         by_cases c25 : 0 ≤ x18_1
         ·rw [if_pos c25] at H
          have c25b0 : decide (0 ≤ x18_1) = true := decide_eq_true c25
          clear c25
          by_cases c26 : x18_1 < (y233.length : Int)
          ·rw [if_pos c26] at H
           have c26b0 : decide (x18_1 < (y233.length : Int)) = true := decide_eq_true c26
           clear c26
           by_cases c27 : 0 ≤ x19_2
           ·rw [if_pos c27] at H
            have c27b0 : decide (0 ≤ x19_2) = true := decide_eq_true c27
            clear c27
            replace H := Option.bind_eq_some_iff.mp H
            obtain ⟨⟨t241, t242, t243, t244⟩, A280, H⟩ := H
            replace H : ((flagstoneref39_Of.f k2 t230 a4 ((rd_T42 y233 x18_1).f0) ((rd_T42 y233 x18_1).f1) ((rd_T42 y233 x18_1).f2) (rd y236 x19_2) a6).bind fun bt248 => (if (!(t241 == bt248.1) || (!(t242 == bt248.2.1) || (!(t243 == bt248.2.2.1)))) = true then (flagstonelaw39_ScoreTells.j2 k2 a4 a6 t230 y233 y236 x18_1 x19_2 true) else (flagstonelaw39_ScoreTells.j2 k2 a4 a6 t230 y233 y236 x18_1 x19_2 (t244 != bt248.2.2.2)))) = some r := H
            have A28 := Aside0.mk A280
            clear A280
            replace H := Option.bind_eq_some_iff.mp H
            obtain ⟨⟨t248, t249, t250, t251⟩, A290, H⟩ := H
            replace H : (if (!(t241 == t248) || (!(t242 == t249) || (!(t243 == t250)))) = true then (flagstonelaw39_ScoreTells.j2 k2 a4 a6 t230 y233 y236 x18_1 x19_2 true) else (flagstonelaw39_ScoreTells.j2 k2 a4 a6 t230 y233 y236 x18_1 x19_2 (t244 != t251))) = some r := H
            have A29 := Aside0.mk A290
            clear A290
            have HC30 := Aside0.mk H
            clear H
            obtain ⟨Ao31, co31, eo31⟩ := Kd.R_slice HO_17.out
            subst eo31
            obtain ⟨Ao32, co32, eo32⟩ := Kd.R_slice HO_15.out
            subst eo32
            try go_wp2
            have n0_ := Aside0.mk (Kd.R_drew HO_15.out)
            have n1_ := Aside0.mk (Kd.R_drew HO_16.out)
            have n2_ := Aside0.mk (Kd.R_drew HO_17.out)
            have n3_ := Aside0.mk (blk_drew BK228.out)
            have n4_ := Aside0.mk (below_drew1 HB.out)
            clear HO_15
            clear HO_16
            clear HO_17
            clear BK228
            clear HB
            have HO_15 := n0_
            have HO_16 := n1_
            have HO_17 := n2_
            have BK228 := n3_
            have HB := n4_
            clear n0_ n1_ n2_ n3_ n4_
            have p239 : 0 ≤ (x18_1 : Int) := of_decide_eq_true (by first | (with_reducible assumption) | assumption)
            have q239 : x18_1 < (y233.length : Int) := of_decide_eq_true (by first | (with_reducible assumption) | assumption)
            obtain ⟨ad239, e239, hx239_0, hx239_1, hx239_2⟩ := at_T42 (Kd.R_reads' HO_16.out).2.2 x18_1 p239 q239
            cases e239
            replace p239 := eq_true p239
            replace q239 := eq_true q239
            have p240 : 0 ≤ (x19_2 : Int) := of_decide_eq_true (by first | (with_reducible assumption) | assumption)
            have q240 : x19_2 < (y236.length : Int) := of_decide_eq_true (by first | (with_reducible assumption) | assumption)
            obtain ⟨ad240, e240, hx240_0⟩ := Kd.at_int (Kd.R_reads' HO_17.out).2.2 x19_2 p240 q240
            cases e240
            replace p240 := eq_true p240
            replace q240 := eq_true q240
            refine start_ (n := 18) (S := fun w' => w'.cell? (ad239.add ((x18_1).toNat * 3)) = some (.int .i64 ((rd_T42 y233 x18_1).f0)) ∧ w'.cell? ⟨(ad239.add ((x18_1).toNat * 3)).block, (ad239.add ((x18_1).toNat * 3)).off + 1, none⟩ = some (.int .i64 ((rd_T42 y233 x18_1).f1)) ∧ w'.cell? ⟨(ad239.add ((x18_1).toNat * 3)).block, (ad239.add ((x18_1).toNat * 3)).off + 2, none⟩ = some (.int .i64 ((rd_T42 y233 x18_1).f2)) ∧ w'.cell? (ad240.add (x19_2).toNat) = some (.int .i64 (rd y236 x19_2))) (ds := []) #[false, false, false, false, false, false, false, false, false, false, false, false, false, false, false, false, false, false] (by kernel_rfl) rfl rfl ⟨hx239_0, hx239_1, hx239_2, hx240_0⟩ (fun hHeld => ?_); refine with_tabW flagstonelaw39_ScoreTells.tab14 flagstonelaw39_ScoreTells.bits14 (fun HT_ HW_ => ?_)
            generalize wr.drew = w33 at HO_15 HO_16 HO_17 BK228 HB hx239_0 hx239_1 hx239_2 hx240_0 hHeld ⊢
            refine pure_ (i := 0) (N := some 65) (v := ?_) (a' := ?_) #[true, false, false, false, false, false, false, false, false, false, false, false, false, false, false, false, false, false] rfl rfl (any_of HT_.out (by kernel_rfl)) (fun _ _ _ h => h) (Or.inl ⟨by rfl, ?_⟩) ?_ ?_
            rotate_left
            ·intro w'
             go_simp
             with_reducible rfl
            rotate_left
            ·simp only [Act.put, List.setIfInBounds_toArray, List.set_cons_zero, List.set_cons_succ, i64_w, i32_w]
             rfl
            refine pure_ (i := 1) (N := some 66) (v := ?_) (a' := ?_) #[true, true, false, false, false, false, false, false, false, false, false, false, false, false, false, false, false, false] rfl rfl (any_of HT_.out (by kernel_rfl)) (fun _ _ _ h => h) (Or.inl ⟨by rfl, ?_⟩) ?_ ?_
            rotate_left
            ·intro w'
             go_simp
             with_reducible rfl
            rotate_left
            ·simp only [Act.put, List.setIfInBounds_toArray, List.set_cons_zero, List.set_cons_succ, i64_w, i32_w]
             rfl
            refine pure_ (i := 2) (N := some 67) (v := ?_) (a' := ?_) #[true, true, true, false, false, false, false, false, false, false, false, false, false, false, false, false, false, false] rfl rfl (any_of HT_.out (by kernel_rfl)) (fun _ _ _ h => h) (Or.inl ⟨by rfl, ?_⟩) ?_ ?_
            rotate_left
            ·intro w'
             go_simp
             with_reducible rfl
            rotate_left
            ·simp only [Act.put, List.setIfInBounds_toArray, List.set_cons_zero, List.set_cons_succ, i64_w, i32_w]
             rfl
            refine pure_ (i := 3) (N := some 68) (v := ?_) (a' := ?_) #[true, true, true, true, false, false, false, false, false, false, false, false, false, false, false, false, false, false] rfl rfl (any_of HT_.out (by kernel_rfl)) (fun _ _ _ h => h) (Or.inl ⟨by rfl, ?_⟩) ?_ ?_
            rotate_left
            ·intro w'
             go_simp
             with_reducible rfl
            rotate_left
            ·simp only [Act.put, List.setIfInBounds_toArray, List.set_cons_zero, List.set_cons_succ, i64_w, i32_w]
             rfl
            refine pure_ (i := 4) (N := some 69) (v := ?_) (a' := ?_) #[true, true, true, true, true, false, false, false, false, false, false, false, false, false, false, false, false, false] rfl rfl (any_of HT_.out (by kernel_rfl)) (fun _ _ _ h => h) (Or.inl ⟨by rfl, ?_⟩) ?_ ?_
            rotate_left
            ·intro w'
             go_simp
             with_reducible rfl
            rotate_left
            ·simp only [Act.put, List.setIfInBounds_toArray, List.set_cons_zero, List.set_cons_succ, i64_w, i32_w]
             rfl
            refine pure_ (i := 6) (N := some 71) (v := ?_) (a' := ?_) #[true, true, true, true, true, false, true, false, false, false, false, false, false, false, false, false, false, false] rfl rfl (any_of HT_.out (by kernel_rfl)) (fun _ _ _ h => h) (Or.inl ⟨by rfl, ?_⟩) ?_ ?_
            rotate_left
            ·intro w'
             go_simp
             with_reducible rfl
            rotate_left
            ·simp only [Act.put, List.setIfInBounds_toArray, List.set_cons_zero, List.set_cons_succ, i64_w, i32_w]
             rfl
            refine pure_ (i := 7) (N := some 72) (v := ?_) (a' := ?_) #[true, true, true, true, true, false, true, true, false, false, false, false, false, false, false, false, false, false] rfl rfl (any_of HT_.out (by kernel_rfl)) (fun _ _ _ h => h) (Or.inl ⟨by rfl, ?_⟩) ?_ ?_
            rotate_left
            ·intro w'
             go_simp
             with_reducible rfl
            rotate_left
            ·simp only [Act.put, List.setIfInBounds_toArray, List.set_cons_zero, List.set_cons_succ, i64_w, i32_w]
             rfl
            refine pure_ (i := 8) (N := some 73) (v := ?_) (a' := ?_) #[true, true, true, true, true, false, true, true, true, false, false, false, false, false, false, false, false, false] rfl rfl (any_of HT_.out (by kernel_rfl)) (fun _ _ _ h => h) (Or.inl ⟨by rfl, ?_⟩) ?_ ?_
            rotate_left
            ·intro w'
             go_simp
             with_reducible rfl
            rotate_left
            ·simp only [Act.put, List.setIfInBounds_toArray, List.set_cons_zero, List.set_cons_succ, i64_w, i32_w]
             rfl
            refine pure_ (i := 10) (N := some 75) (v := ?_) (a' := ?_) #[true, true, true, true, true, false, true, true, true, false, true, false, false, false, false, false, false, false] rfl rfl (any_of HT_.out (by kernel_rfl)) (fun _ _ _ h => h) (Or.inl ⟨by rfl, ?_⟩) ?_ ?_
            rotate_left
            ·intro w'
             go_simp
             with_reducible rfl
            rotate_left
            ·simp only [Act.put, List.setIfInBounds_toArray, List.set_cons_zero, List.set_cons_succ, i64_w, i32_w]
             rfl
            refine take_ (i := 5) (N := some 70) (v := ?_) (a' := ?_) #[true, true, true, true, true, true, true, true, true, false, true, false, false, false, false, false, false, false] rfl rfl (take_ofW HT_.out HW_.out (by kernel_rfl)) (fun _ _ _ h => h) (Or.inl ⟨by rfl, ?_⟩) hHeld ?_ ?_
            rotate_left
            ·rintro w' ⟨s0, s1, s2, s3⟩
             go_simp
             with_reducible rfl
            rotate_left
            ·simp only [Act.put, List.setIfInBounds_toArray, List.set_cons_zero, List.set_cons_succ, i64_w, i32_w]
             rfl
            refine take_ (i := 9) (N := some 74) (v := ?_) (a' := ?_) #[true, true, true, true, true, true, true, true, true, true, true, false, false, false, false, false, false, false] rfl rfl (take_ofW HT_.out HW_.out (by kernel_rfl)) (fun _ _ _ h => h) (Or.inl ⟨by rfl, ?_⟩) hHeld ?_ ?_
            rotate_left
            ·rintro w' ⟨s0, s1, s2, s3⟩
             go_simp
             with_reducible rfl
            rotate_left
            ·simp only [Act.put, List.setIfInBounds_toArray, List.set_cons_zero, List.set_cons_succ, i64_w, i32_w]
             rfl
            refine join_ (σ := Nat) 2 #[true, true, true, true, true, true, true, true, true, true, true, true, true, true, true, true, false, false] (fun s_ => [(76, .tuple #[.agg #[.int .i64 t241, .int .i64 t242, .int .i64 t243], .bool t244]), (20, .pointer (some ⟨s_, 0, none⟩)), (64, .tuple #[.agg #[.int .i64 t241, .int .i64 t242, .int .i64 t243], .bool t244]), (77, .agg #[.int .i64 t241, .int .i64 t242, .int .i64 t243]), (78, .bool t244)]) (fun s_ w' => (w'.cell? (ad239.add ((x18_1).toNat * 3)) = some (.int .i64 ((rd_T42 y233 x18_1).f0)) ∧ w'.cell? ⟨(ad239.add ((x18_1).toNat * 3)).block, (ad239.add ((x18_1).toNat * 3)).off + 1, none⟩ = some (.int .i64 ((rd_T42 y233 x18_1).f1)) ∧ w'.cell? ⟨(ad239.add ((x18_1).toNat * 3)).block, (ad239.add ((x18_1).toNat * 3)).off + 2, none⟩ = some (.int .i64 ((rd_T42 y233 x18_1).f2)) ∧ w'.cell? (ad240.add (x19_2).toNat) = some (.int .i64 (rd y236 x19_2))) ∧ (Kd.R k34 34 w' w.heap.size (fun _ => True) (.slice Ao32 t230.length co32) t230) ∧ (Kd.R k42 42 w' w.heap.size (fun k_ => k_ ≠ gb228) (.slice (some ad239) y233.length co23) y233) ∧ (Kd.R (Kd.int .i64) 3 w' w.heap.size (fun _ => True) (.slice (some ad240) y236.length co31) y236) ∧ (w'.heap[gb228]? = some (.cells #[.int .i64 a1_0, .int .i64 a1_1, .int .i64 a1_2] 42 (0, 0))) ∧ (w'.heap[s_]? = some (.cells #[.int .i64 0, .int .i64 0, .int .i64 0] 37 (0, 0))) ∧ (w.heap.size ≤ s_) ∧ (w.heap.size ≤ s_) ∧ (gb228 ≠ s_) ∧ (s_ ≠ gb228) ∧ (Below w.heap.size w w')) ?_ ?_
            rotate_left
            ·intro hCont
             refine two_ (i := 11) (j := 15) (Ni := some 76) (Nj := some 20) #[true, true, true, true, true, true, true, true, true, true, true, true, false, false, false, false, false, false] #[true, true, true, true, true, true, true, true, true, true, true, false, false, false, false, true, false, false] rfl rfl rfl rfl (two_of HT_.out (by kernel_rfl)) (by decide) (by decide) (fun K hK => ?_) (fun K hK => ?_)
             ·skip
              refine goes_ Try.func19 (by kernel_rfl) rfl #[.slice Ao32 t230.length co32, .int .i64 a4, .agg #[.int .i64 ((rd_T42 y233 x18_1).f0), .int .i64 ((rd_T42 y233 x18_1).f1), .int .i64 ((rd_T42 y233 x18_1).f2)], .int .i64 (rd y236 x19_2), .bool a6] (by rfl) rfl rfl (by (try simp only [List.map_toArray, List.map_cons, List.map_nil]); first | done | rfl | (simp only [List.length_drop, List.length_take]; rfl)) ?_
              with_reducible refine (score_Of.calls k2 _ _ t230 a4 ((rd_T42 y233 x18_1).f0) ((rd_T42 y233 x18_1).f1) ((rd_T42 y233 x18_1).f2) (rd y236 x19_2) a6 t241 t242 t243 t244 _ ?side1 ?side2 A28.out).mono ?_
              (case side1 => repeat (first | exact (Kd.R_reads' HO_15.out).2.2 | (with_reducible refine Kd.C_alloc ?_ _) | (with_reducible refine Kd.C_drewN ?_ _) | (with_reducible refine Kd.C_drew ?_)))
              (case side2 => exact (Kd.R_reads' HO_15.out).2.1)
              rintro e w34 ⟨rfl, hb⟩
              have HS0_ := (hb.cell (World.block_lt_of_cell? _ _ (hHeld.1))).trans (hHeld.1)
              have HS1_ := (hb.cell (World.block_lt_of_cell? _ _ (hHeld.2.1))).trans (hHeld.2.1)
              have HS2_ := (hb.cell (World.block_lt_of_cell? _ _ (hHeld.2.2.1))).trans (hHeld.2.2.1)
              have HS3_ := (hb.cell (World.block_lt_of_cell? _ _ (hHeld.2.2.2))).trans (hHeld.2.2.2)
              refine ⟨_, rfl, ?_⟩
              have n0_ := Aside0.mk (Kd.R_below (by (with_reducible repeat (first | apply Kd.R_alloc | apply Kd.R_drewN | apply Kd.R_drew)); exact HO_15.out) hb)
              have n1_ := Aside0.mk (Kd.R_below (by (with_reducible repeat (first | apply Kd.R_alloc | apply Kd.R_drewN | apply Kd.R_drew)); exact HO_16.out) hb)
              have n2_ := Aside0.mk (Kd.R_below (by (with_reducible repeat (first | apply Kd.R_alloc | apply Kd.R_drewN | apply Kd.R_drew)); exact HO_17.out) hb)
              have n3_ := Aside0.mk (blk_below (g := gb228) (o := .cells #[.int .i64 a1_0, .int .i64 a1_1, .int .i64 a1_2] 42 (0, 0)) (by (with_reducible repeat (first | refine blk_drewN ?_ _ | refine blk_drew ?_ | refine blk_alloc ?_ _)); exact BK228.out) hb)
              have n4_ := Aside0.mk (below_step (by repeat (first | (with_reducible first | exact HB.out | apply below_alloc | apply pw_below_drewN | apply below_drew1 | refine below_set ?_ GE228.out) | exact HB.out)) hb)
              clear HO_15
              clear HO_16
              clear HO_17
              clear BK228
              clear HB
              have HO_15 := n0_
              have HO_16 := n1_
              have HO_17 := n2_
              have BK228 := n3_
              have HB := n4_
              clear n0_ n1_ n2_ n3_ n4_
              (try clear hb)
              (try clear hb2)
              (try clear hk)
              (try clear hi)
              refine hK.out _ _ ⟨HS0_, HS1_, HS2_, HS3_⟩ (fun hHeld => ?_)
              clear hK K
              refine norm_ (a' := ?_) ?_ ?_
              rotate_left
              ·show Act.put _ (some 76) _ = _
               simp only [Act.put, List.setIfInBounds_toArray, List.set_cons_zero, List.set_cons_succ, i64_w, i32_w]
               rfl
              refine pure_ (i := 12) (N := some 64) (v := ?_) (a' := ?_) #[true, true, true, true, true, true, true, true, true, true, true, true, true, false, false, false, false, false] rfl rfl (any_of HT_.out (by kernel_rfl)) (fun _ _ _ h => h) (Or.inl ⟨by rfl, ?_⟩) ?_ ?_
              rotate_left
              ·intro w'
               go_simp
               with_reducible rfl
              rotate_left
              ·simp only [Act.put, List.setIfInBounds_toArray, List.set_cons_zero, List.set_cons_succ, i64_w, i32_w]
               rfl
              refine pure_ (i := 13) (N := some 77) (v := ?_) (a' := ?_) #[true, true, true, true, true, true, true, true, true, true, true, true, true, true, false, false, false, false] rfl rfl (any_of HT_.out (by kernel_rfl)) (fun _ _ _ h => h) (Or.inl ⟨by rfl, ?_⟩) ?_ ?_
              rotate_left
              ·intro w'
               go_simp
               with_reducible rfl
              rotate_left
              ·simp only [Act.put, List.setIfInBounds_toArray, List.set_cons_zero, List.set_cons_succ, i64_w, i32_w]
               rfl
              refine pure_ (i := 14) (N := some 78) (v := ?_) (a' := ?_) #[true, true, true, true, true, true, true, true, true, true, true, true, true, true, true, false, false, false] rfl rfl (any_of HT_.out (by kernel_rfl)) (fun _ _ _ h => h) (Or.inl ⟨by rfl, ?_⟩) ?_ ?_
              rotate_left
              ·intro w'
               go_simp
               with_reducible rfl
              rotate_left
              ·simp only [Act.put, List.setIfInBounds_toArray, List.set_cons_zero, List.set_cons_succ, i64_w, i32_w]
               rfl
              refine one_ (i := 15) (N := some 20) #[true, true, true, true, true, true, true, true, true, true, true, true, true, true, true, true, false, false] rfl rfl (one_of HT_.out (by kernel_rfl)) (by decide) (fun K hK => ?_)
              refine box_step ?hg (N := 20) ?hd (cs := #[.int .i64 0, .int .i64 0, .int .i64 0]) (t := 37) ?hr ?_; (case hd => rfl); (case hg => rfl); (case hr => first | (go_simp; done) | (go_simp; rfl))
              intro gb245 hg w35 hbox hb
              have HS0_ := (hb.cell (World.block_lt_of_cell? _ _ (hHeld.1))).trans (hHeld.1)
              have HS1_ := (hb.cell (World.block_lt_of_cell? _ _ (hHeld.2.1))).trans (hHeld.2.1)
              have HS2_ := (hb.cell (World.block_lt_of_cell? _ _ (hHeld.2.2.1))).trans (hHeld.2.2.1)
              have HS3_ := (hb.cell (World.block_lt_of_cell? _ _ (hHeld.2.2.2))).trans (hHeld.2.2.2)
              have n0_ := Aside0.mk (Kd.R_below (by (with_reducible repeat (first | apply Kd.R_alloc | apply Kd.R_drewN | apply Kd.R_drew)); exact HO_15.out) hb)
              have n1_ := Aside0.mk (Kd.R_below (by (with_reducible repeat (first | apply Kd.R_alloc | apply Kd.R_drewN | apply Kd.R_drew)); exact HO_16.out) hb)
              have n2_ := Aside0.mk (Kd.R_below (by (with_reducible repeat (first | apply Kd.R_alloc | apply Kd.R_drewN | apply Kd.R_drew)); exact HO_17.out) hb)
              have n3_ := Aside0.mk (blk_below (g := gb228) (o := .cells #[.int .i64 a1_0, .int .i64 a1_1, .int .i64 a1_2] 42 (0, 0)) (by (with_reducible repeat (first | refine blk_drewN ?_ _ | refine blk_drew ?_ | refine blk_alloc ?_ _)); exact BK228.out) hb)
              have n4_ := Aside0.mk (below_step (by repeat (first | (with_reducible first | exact HB.out | apply below_alloc | apply pw_below_drewN | apply below_drew1 | refine below_set ?_ GE228.out) | exact HB.out)) hb)
              have n5_ := Aside0.mk (hbox)
              have n6_ := Aside0.mk ((by rw [hg]; exact (below_size (by repeat (first | (with_reducible first | exact HB.out | apply below_alloc | apply pw_below_drewN | apply below_drew1 | refine below_set ?_ GE228.out) | exact HB.out))) : w.heap.size ≤ gb245))
              have n7_ := Aside0.mk ((by rw [hg]; exact (below_size (by repeat (first | (with_reducible first | exact HB.out | apply below_alloc | apply pw_below_drewN | apply below_drew1 | refine below_set ?_ GE228.out) | exact HB.out))) : w.heap.size ≤ gb245))
              have n8_ := Aside0.mk ((by rw [hg]; exact Nat.ne_of_lt (blk_lt (g := gb228) (o := .cells #[.int .i64 a1_0, .int .i64 a1_1, .int .i64 a1_2] 42 (0, 0)) (by (with_reducible repeat (first | refine blk_drewN ?_ _ | refine blk_drew ?_ | refine blk_alloc ?_ _)); exact BK228.out)) : gb228 ≠ gb245))
              have n9_ := Aside0.mk ((by rw [hg]; exact Nat.ne_of_gt (blk_lt (g := gb228) (o := .cells #[.int .i64 a1_0, .int .i64 a1_1, .int .i64 a1_2] 42 (0, 0)) (by (with_reducible repeat (first | refine blk_drewN ?_ _ | refine blk_drew ?_ | refine blk_alloc ?_ _)); exact BK228.out)) : gb245 ≠ gb228))
              clear HO_15
              clear HO_16
              clear HO_17
              clear BK228
              clear HB
              have HO_15 := n0_
              have HO_16 := n1_
              have HO_17 := n2_
              have BK228 := n3_
              have HB := n4_
              have BK245 := n5_
              have GW245 := n6_
              have GE245 := n7_
              have NB228_245 := n8_
              have NB245_228 := n9_
              clear n0_ n1_ n2_ n3_ n4_ n5_ n6_ n7_ n8_ n9_
              clear hb hbox hg
              refine hK.out _ _ ⟨HS0_, HS1_, HS2_, HS3_⟩ (fun hHeld => ?_)
              clear hK K
              refine norm_ (a' := ?_) ?_ ?_
              rotate_left
              ·show Act.put _ (some 20) _ = _
               simp only [Act.put, List.setIfInBounds_toArray, List.set_cons_zero, List.set_cons_succ, i64_w, i32_w]
               rfl
              exact norm_ (by simp only [putAll, Act.put, List.setIfInBounds_toArray, List.set_cons_zero, List.set_cons_succ]) (hCont (gb245) _ ⟨hHeld, (by (with_reducible repeat (first | apply Kd.R_alloc | apply Kd.R_drewN | apply Kd.R_drew)); exact HO_15.out), (by (with_reducible repeat (first | apply Kd.R_alloc | apply Kd.R_drewN | apply Kd.R_drew)); exact HO_16.out), (by (with_reducible repeat (first | apply Kd.R_alloc | apply Kd.R_drewN | apply Kd.R_drew)); exact HO_17.out), (by (with_reducible repeat (first | refine blk_drewN ?_ _ | refine blk_drew ?_ | refine blk_alloc ?_ _)); exact BK228.out), (by (with_reducible repeat (first | refine blk_drewN ?_ _ | refine blk_drew ?_ | refine blk_alloc ?_ _)); exact BK245.out), GW245.out, GE245.out, NB228_245.out, NB245_228.out, (by repeat (first | (with_reducible first | exact HB.out | apply below_alloc | apply pw_below_drewN | apply below_drew1 | refine below_set ?_ GE228.out | refine below_set ?_ GE245.out) | exact HB.out))⟩)
             ·skip
              refine box_step ?hg (N := 20) ?hd (cs := #[.int .i64 0, .int .i64 0, .int .i64 0]) (t := 37) ?hr ?_; (case hd => rfl); (case hg => rfl); (case hr => first | (go_simp; done) | (go_simp; rfl))
              intro gb245 hg w34 hbox hb
              have HS0_ := (hb.cell (World.block_lt_of_cell? _ _ (hHeld.1))).trans (hHeld.1)
              have HS1_ := (hb.cell (World.block_lt_of_cell? _ _ (hHeld.2.1))).trans (hHeld.2.1)
              have HS2_ := (hb.cell (World.block_lt_of_cell? _ _ (hHeld.2.2.1))).trans (hHeld.2.2.1)
              have HS3_ := (hb.cell (World.block_lt_of_cell? _ _ (hHeld.2.2.2))).trans (hHeld.2.2.2)
              have n0_ := Aside0.mk (Kd.R_below (by (with_reducible repeat (first | apply Kd.R_alloc | apply Kd.R_drewN | apply Kd.R_drew)); exact HO_15.out) hb)
              have n1_ := Aside0.mk (Kd.R_below (by (with_reducible repeat (first | apply Kd.R_alloc | apply Kd.R_drewN | apply Kd.R_drew)); exact HO_16.out) hb)
              have n2_ := Aside0.mk (Kd.R_below (by (with_reducible repeat (first | apply Kd.R_alloc | apply Kd.R_drewN | apply Kd.R_drew)); exact HO_17.out) hb)
              have n3_ := Aside0.mk (blk_below (g := gb228) (o := .cells #[.int .i64 a1_0, .int .i64 a1_1, .int .i64 a1_2] 42 (0, 0)) (by (with_reducible repeat (first | refine blk_drewN ?_ _ | refine blk_drew ?_ | refine blk_alloc ?_ _)); exact BK228.out) hb)
              have n4_ := Aside0.mk (below_step (by repeat (first | (with_reducible first | exact HB.out | apply below_alloc | apply pw_below_drewN | apply below_drew1 | refine below_set ?_ GE228.out) | exact HB.out)) hb)
              have n5_ := Aside0.mk (hbox)
              have n6_ := Aside0.mk ((by rw [hg]; exact (below_size (by repeat (first | (with_reducible first | exact HB.out | apply below_alloc | apply pw_below_drewN | apply below_drew1 | refine below_set ?_ GE228.out) | exact HB.out))) : w.heap.size ≤ gb245))
              have n7_ := Aside0.mk ((by rw [hg]; exact (below_size (by repeat (first | (with_reducible first | exact HB.out | apply below_alloc | apply pw_below_drewN | apply below_drew1 | refine below_set ?_ GE228.out) | exact HB.out))) : w.heap.size ≤ gb245))
              have n8_ := Aside0.mk ((by rw [hg]; exact Nat.ne_of_lt (blk_lt (g := gb228) (o := .cells #[.int .i64 a1_0, .int .i64 a1_1, .int .i64 a1_2] 42 (0, 0)) (by (with_reducible repeat (first | refine blk_drewN ?_ _ | refine blk_drew ?_ | refine blk_alloc ?_ _)); exact BK228.out)) : gb228 ≠ gb245))
              have n9_ := Aside0.mk ((by rw [hg]; exact Nat.ne_of_gt (blk_lt (g := gb228) (o := .cells #[.int .i64 a1_0, .int .i64 a1_1, .int .i64 a1_2] 42 (0, 0)) (by (with_reducible repeat (first | refine blk_drewN ?_ _ | refine blk_drew ?_ | refine blk_alloc ?_ _)); exact BK228.out)) : gb245 ≠ gb228))
              clear HO_15
              clear HO_16
              clear HO_17
              clear BK228
              clear HB
              have HO_15 := n0_
              have HO_16 := n1_
              have HO_17 := n2_
              have BK228 := n3_
              have HB := n4_
              have BK245 := n5_
              have GW245 := n6_
              have GE245 := n7_
              have NB228_245 := n8_
              have NB245_228 := n9_
              clear n0_ n1_ n2_ n3_ n4_ n5_ n6_ n7_ n8_ n9_
              clear hb hbox hg
              refine hK.out _ _ ⟨HS0_, HS1_, HS2_, HS3_⟩ (fun hHeld => ?_)
              clear hK K
              refine norm_ (a' := ?_) ?_ ?_
              rotate_left
              ·show Act.put _ (some 20) _ = _
               simp only [Act.put, List.setIfInBounds_toArray, List.set_cons_zero, List.set_cons_succ, i64_w, i32_w]
               rfl
              refine one_ (i := 11) (N := some 76) #[true, true, true, true, true, true, true, true, true, true, true, true, false, false, false, true, false, false] rfl rfl (one_of HT_.out (by kernel_rfl)) (by decide) (fun K hK => ?_)
              refine goes_ Try.func19 (by kernel_rfl) rfl #[.slice Ao32 t230.length co32, .int .i64 a4, .agg #[.int .i64 ((rd_T42 y233 x18_1).f0), .int .i64 ((rd_T42 y233 x18_1).f1), .int .i64 ((rd_T42 y233 x18_1).f2)], .int .i64 (rd y236 x19_2), .bool a6] (by rfl) rfl rfl (by (try simp only [List.map_toArray, List.map_cons, List.map_nil]); first | done | rfl | (simp only [List.length_drop, List.length_take]; rfl)) ?_
              with_reducible refine (score_Of.calls k2 _ _ t230 a4 ((rd_T42 y233 x18_1).f0) ((rd_T42 y233 x18_1).f1) ((rd_T42 y233 x18_1).f2) (rd y236 x19_2) a6 t241 t242 t243 t244 _ ?side1 ?side2 A28.out).mono ?_
              (case side1 => repeat (first | exact (Kd.R_reads' HO_15.out).2.2 | (with_reducible refine Kd.C_alloc ?_ _) | (with_reducible refine Kd.C_drewN ?_ _) | (with_reducible refine Kd.C_drew ?_)))
              (case side2 => exact (Kd.R_reads' HO_15.out).2.1)
              rintro e w35 ⟨rfl, hb⟩
              have HS0_ := (hb.cell (World.block_lt_of_cell? _ _ (hHeld.1))).trans (hHeld.1)
              have HS1_ := (hb.cell (World.block_lt_of_cell? _ _ (hHeld.2.1))).trans (hHeld.2.1)
              have HS2_ := (hb.cell (World.block_lt_of_cell? _ _ (hHeld.2.2.1))).trans (hHeld.2.2.1)
              have HS3_ := (hb.cell (World.block_lt_of_cell? _ _ (hHeld.2.2.2))).trans (hHeld.2.2.2)
              refine ⟨_, rfl, ?_⟩
              have n0_ := Aside0.mk (Kd.R_below (by (with_reducible repeat (first | apply Kd.R_alloc | apply Kd.R_drewN | apply Kd.R_drew)); exact HO_15.out) hb)
              have n1_ := Aside0.mk (Kd.R_below (by (with_reducible repeat (first | apply Kd.R_alloc | apply Kd.R_drewN | apply Kd.R_drew)); exact HO_16.out) hb)
              have n2_ := Aside0.mk (Kd.R_below (by (with_reducible repeat (first | apply Kd.R_alloc | apply Kd.R_drewN | apply Kd.R_drew)); exact HO_17.out) hb)
              have n3_ := Aside0.mk (blk_below (g := gb228) (o := .cells #[.int .i64 a1_0, .int .i64 a1_1, .int .i64 a1_2] 42 (0, 0)) (by (with_reducible repeat (first | refine blk_drewN ?_ _ | refine blk_drew ?_ | refine blk_alloc ?_ _)); exact BK228.out) hb)
              have n4_ := Aside0.mk (blk_below (g := gb245) (o := .cells #[.int .i64 0, .int .i64 0, .int .i64 0] 37 (0, 0)) (by (with_reducible repeat (first | refine blk_drewN ?_ _ | refine blk_drew ?_ | refine blk_alloc ?_ _)); exact BK245.out) hb)
              have n5_ := Aside0.mk (below_step (by repeat (first | (with_reducible first | exact HB.out | apply below_alloc | apply pw_below_drewN | apply below_drew1 | refine below_set ?_ GE228.out | refine below_set ?_ GE245.out) | exact HB.out)) hb)
              clear HO_15
              clear HO_16
              clear HO_17
              clear BK228
              clear BK245
              clear HB
              have HO_15 := n0_
              have HO_16 := n1_
              have HO_17 := n2_
              have BK228 := n3_
              have BK245 := n4_
              have HB := n5_
              clear n0_ n1_ n2_ n3_ n4_ n5_
              (try clear hb)
              (try clear hb2)
              (try clear hk)
              (try clear hi)
              refine hK.out _ _ ⟨HS0_, HS1_, HS2_, HS3_⟩ (fun hHeld => ?_)
              clear hK K
              refine norm_ (a' := ?_) ?_ ?_
              rotate_left
              ·show Act.put _ (some 76) _ = _
               simp only [Act.put, List.setIfInBounds_toArray, List.set_cons_zero, List.set_cons_succ, i64_w, i32_w]
               rfl
              refine pure_ (i := 12) (N := some 64) (v := ?_) (a' := ?_) #[true, true, true, true, true, true, true, true, true, true, true, true, true, false, false, true, false, false] rfl rfl (any_of HT_.out (by kernel_rfl)) (fun _ _ _ h => h) (Or.inl ⟨by rfl, ?_⟩) ?_ ?_
              rotate_left
              ·intro w'
               go_simp
               with_reducible rfl
              rotate_left
              ·simp only [Act.put, List.setIfInBounds_toArray, List.set_cons_zero, List.set_cons_succ, i64_w, i32_w]
               rfl
              refine pure_ (i := 13) (N := some 77) (v := ?_) (a' := ?_) #[true, true, true, true, true, true, true, true, true, true, true, true, true, true, false, true, false, false] rfl rfl (any_of HT_.out (by kernel_rfl)) (fun _ _ _ h => h) (Or.inl ⟨by rfl, ?_⟩) ?_ ?_
              rotate_left
              ·intro w'
               go_simp
               with_reducible rfl
              rotate_left
              ·simp only [Act.put, List.setIfInBounds_toArray, List.set_cons_zero, List.set_cons_succ, i64_w, i32_w]
               rfl
              refine pure_ (i := 14) (N := some 78) (v := ?_) (a' := ?_) #[true, true, true, true, true, true, true, true, true, true, true, true, true, true, true, true, false, false] rfl rfl (any_of HT_.out (by kernel_rfl)) (fun _ _ _ h => h) (Or.inl ⟨by rfl, ?_⟩) ?_ ?_
              rotate_left
              ·intro w'
               go_simp
               with_reducible rfl
              rotate_left
              ·simp only [Act.put, List.setIfInBounds_toArray, List.set_cons_zero, List.set_cons_succ, i64_w, i32_w]
               rfl
              exact norm_ (by simp only [putAll, Act.put, List.setIfInBounds_toArray, List.set_cons_zero, List.set_cons_succ]) (hCont (gb245) _ ⟨hHeld, (by (with_reducible repeat (first | apply Kd.R_alloc | apply Kd.R_drewN | apply Kd.R_drew)); exact HO_15.out), (by (with_reducible repeat (first | apply Kd.R_alloc | apply Kd.R_drewN | apply Kd.R_drew)); exact HO_16.out), (by (with_reducible repeat (first | apply Kd.R_alloc | apply Kd.R_drewN | apply Kd.R_drew)); exact HO_17.out), (by (with_reducible repeat (first | refine blk_drewN ?_ _ | refine blk_drew ?_ | refine blk_alloc ?_ _)); exact BK228.out), (by (with_reducible repeat (first | refine blk_drewN ?_ _ | refine blk_drew ?_ | refine blk_alloc ?_ _)); exact BK245.out), GW245.out, GE245.out, NB228_245.out, NB245_228.out, (by repeat (first | (with_reducible first | exact HB.out | apply below_alloc | apply pw_below_drewN | apply below_drew1 | refine below_set ?_ GE228.out | refine below_set ?_ GE245.out) | exact HB.out))⟩)
            rintro gb245 w36 ⟨hS_, h0_, h1_, h2_, h3_, h4_, h5_, h6_, h7_, h8_, h9_⟩
            have n0_ : Aside0 (Kd.R k34 34 w36 w.heap.size (fun _ => True) (.slice Ao32 t230.length co32) t230) := ⟨h0_⟩
            have n1_ : Aside0 (Kd.R k42 42 w36 w.heap.size (fun k_ => k_ ≠ gb228) (.slice (some ad239) y233.length co23) y233) := ⟨h1_⟩
            have n2_ : Aside0 (Kd.R (Kd.int .i64) 3 w36 w.heap.size (fun _ => True) (.slice (some ad240) y236.length co31) y236) := ⟨h2_⟩
            have n3_ : Aside0 (w36.heap[gb228]? = some (.cells #[.int .i64 a1_0, .int .i64 a1_1, .int .i64 a1_2] 42 (0, 0))) := ⟨h3_⟩
            have n4_ : Aside0 (w36.heap[gb245]? = some (.cells #[.int .i64 0, .int .i64 0, .int .i64 0] 37 (0, 0))) := ⟨h4_⟩
            have n5_ : Aside0 (w.heap.size ≤ gb245) := ⟨h5_⟩
            have n6_ : Aside0 (w.heap.size ≤ gb245) := ⟨h6_⟩
            have n7_ : Aside0 (gb228 ≠ gb245) := ⟨h7_⟩
            have n8_ : Aside0 (gb245 ≠ gb228) := ⟨h8_⟩
            have n9_ : Aside0 (Below w.heap.size w w36) := ⟨h9_⟩
            clear HO_15
            clear HO_16
            clear HO_17
            clear BK228
            clear HB
            clear h0_ h1_ h2_ h3_ h4_ h5_ h6_ h7_ h8_ h9_
            have HO_15 := n0_
            have HO_16 := n1_
            have HO_17 := n2_
            have BK228 := n3_
            have BK245 := n4_
            have GW245 := n5_
            have GE245 := n6_
            have NB228_245 := n7_
            have NB245_228 := n8_
            have HB := n9_
            clear n0_ n1_ n2_ n3_ n4_ n5_ n6_ n7_ n8_ n9_
            have hHeld : w36.cell? (ad239.add ((x18_1).toNat * 3)) = some (.int .i64 ((rd_T42 y233 x18_1).f0)) ∧ w36.cell? ⟨(ad239.add ((x18_1).toNat * 3)).block, (ad239.add ((x18_1).toNat * 3)).off + 1, none⟩ = some (.int .i64 ((rd_T42 y233 x18_1).f1)) ∧ w36.cell? ⟨(ad239.add ((x18_1).toNat * 3)).block, (ad239.add ((x18_1).toNat * 3)).off + 2, none⟩ = some (.int .i64 ((rd_T42 y233 x18_1).f2)) ∧ w36.cell? (ad240.add (x19_2).toNat) = some (.int .i64 (rd y236 x19_2)) := hS_
            refine norm_ (a' := ?_) ?_ ?_
            rotate_left
            ·simp only [putAll, Act.put, List.setIfInBounds_toArray, List.set_cons_zero, List.set_cons_succ]
             rfl
            refine one_ (i := 16) (N := none) #[true, true, true, true, true, true, true, true, true, true, true, true, true, true, true, true, true, false] rfl rfl (one_of HT_.out (by kernel_rfl)) (by decide) (fun K hK => ?_)
            have hs37 : w36.cell? ⟨gb245, 0, none⟩ = some (.int .i64 0) := (blk_cell BK245.out 0).trans rfl
            have hfs37 := blk_frozen BK245.out 0
            have hns37_0 := NB228_245.out
            have hms37_0 := NB245_228.out
            have hs38 : w36.cell? ⟨gb245, 1, none⟩ = some (.int .i64 0) := (blk_cell BK245.out 1).trans rfl
            have hfs38 := blk_frozen BK245.out 1
            have hns38_0 := NB228_245.out
            have hms38_0 := NB245_228.out
            have hs39 : w36.cell? ⟨gb245, 2, none⟩ = some (.int .i64 0) := (blk_cell BK245.out 2).trans rfl
            have hfs39 := blk_frozen BK245.out 2
            have hns39_0 := NB228_245.out
            have hms39_0 := NB245_228.out
            refine skip_ (w1 := ?_) (by rfl) rfl ?_ ?_
            rotate_left
            ·go_simp
             rfl
            refine hK.out _ _ ⟨((cell_far (p := ⟨gb245, _, none⟩) (by first | exact Kd.own_blk (Kd.R_ne HO_16.out BK245.out (by decide)) | (rw [add_block]; exact Kd.own_blk (Kd.R_ne HO_16.out BK245.out (by decide))) | (show (Addr.add _ _).block ≠ _; rw [add_block]; exact Kd.own_blk (Kd.R_ne HO_16.out BK245.out (by decide))) | (dsimp only; exact Kd.own_blk (Kd.R_ne HO_16.out BK245.out (by decide)))) _).trans (((cell_far (p := ⟨gb245, _, none⟩) (by first | exact Kd.own_blk (Kd.R_ne HO_16.out BK245.out (by decide)) | (rw [add_block]; exact Kd.own_blk (Kd.R_ne HO_16.out BK245.out (by decide))) | (show (Addr.add _ _).block ≠ _; rw [add_block]; exact Kd.own_blk (Kd.R_ne HO_16.out BK245.out (by decide))) | (dsimp only; exact Kd.own_blk (Kd.R_ne HO_16.out BK245.out (by decide)))) _).trans (((cell_far (p := ⟨gb245, _, none⟩) (by first | exact Kd.own_blk (Kd.R_ne HO_16.out BK245.out (by decide)) | (rw [add_block]; exact Kd.own_blk (Kd.R_ne HO_16.out BK245.out (by decide))) | (show (Addr.add _ _).block ≠ _; rw [add_block]; exact Kd.own_blk (Kd.R_ne HO_16.out BK245.out (by decide))) | (dsimp only; exact Kd.own_blk (Kd.R_ne HO_16.out BK245.out (by decide)))) _).trans (hHeld.1)))))), ((cell_far (p := ⟨gb245, _, none⟩) (by first | exact Kd.own_blk (Kd.R_ne HO_16.out BK245.out (by decide)) | (rw [add_block]; exact Kd.own_blk (Kd.R_ne HO_16.out BK245.out (by decide))) | (show (Addr.add _ _).block ≠ _; rw [add_block]; exact Kd.own_blk (Kd.R_ne HO_16.out BK245.out (by decide))) | (dsimp only; exact Kd.own_blk (Kd.R_ne HO_16.out BK245.out (by decide)))) _).trans (((cell_far (p := ⟨gb245, _, none⟩) (by first | exact Kd.own_blk (Kd.R_ne HO_16.out BK245.out (by decide)) | (rw [add_block]; exact Kd.own_blk (Kd.R_ne HO_16.out BK245.out (by decide))) | (show (Addr.add _ _).block ≠ _; rw [add_block]; exact Kd.own_blk (Kd.R_ne HO_16.out BK245.out (by decide))) | (dsimp only; exact Kd.own_blk (Kd.R_ne HO_16.out BK245.out (by decide)))) _).trans (((cell_far (p := ⟨gb245, _, none⟩) (by first | exact Kd.own_blk (Kd.R_ne HO_16.out BK245.out (by decide)) | (rw [add_block]; exact Kd.own_blk (Kd.R_ne HO_16.out BK245.out (by decide))) | (show (Addr.add _ _).block ≠ _; rw [add_block]; exact Kd.own_blk (Kd.R_ne HO_16.out BK245.out (by decide))) | (dsimp only; exact Kd.own_blk (Kd.R_ne HO_16.out BK245.out (by decide)))) _).trans (hHeld.2.1)))))), ((cell_far (p := ⟨gb245, _, none⟩) (by first | exact Kd.own_blk (Kd.R_ne HO_16.out BK245.out (by decide)) | (rw [add_block]; exact Kd.own_blk (Kd.R_ne HO_16.out BK245.out (by decide))) | (show (Addr.add _ _).block ≠ _; rw [add_block]; exact Kd.own_blk (Kd.R_ne HO_16.out BK245.out (by decide))) | (dsimp only; exact Kd.own_blk (Kd.R_ne HO_16.out BK245.out (by decide)))) _).trans (((cell_far (p := ⟨gb245, _, none⟩) (by first | exact Kd.own_blk (Kd.R_ne HO_16.out BK245.out (by decide)) | (rw [add_block]; exact Kd.own_blk (Kd.R_ne HO_16.out BK245.out (by decide))) | (show (Addr.add _ _).block ≠ _; rw [add_block]; exact Kd.own_blk (Kd.R_ne HO_16.out BK245.out (by decide))) | (dsimp only; exact Kd.own_blk (Kd.R_ne HO_16.out BK245.out (by decide)))) _).trans (((cell_far (p := ⟨gb245, _, none⟩) (by first | exact Kd.own_blk (Kd.R_ne HO_16.out BK245.out (by decide)) | (rw [add_block]; exact Kd.own_blk (Kd.R_ne HO_16.out BK245.out (by decide))) | (show (Addr.add _ _).block ≠ _; rw [add_block]; exact Kd.own_blk (Kd.R_ne HO_16.out BK245.out (by decide))) | (dsimp only; exact Kd.own_blk (Kd.R_ne HO_16.out BK245.out (by decide)))) _).trans (hHeld.2.2.1)))))), ((cell_far (p := ⟨gb245, _, none⟩) (by first | exact Kd.own_blk (Kd.R_ne HO_17.out BK245.out (by decide)) | (rw [add_block]; exact Kd.own_blk (Kd.R_ne HO_17.out BK245.out (by decide))) | (show (Addr.add _ _).block ≠ _; rw [add_block]; exact Kd.own_blk (Kd.R_ne HO_17.out BK245.out (by decide))) | (dsimp only; exact Kd.own_blk (Kd.R_ne HO_17.out BK245.out (by decide)))) _).trans (((cell_far (p := ⟨gb245, _, none⟩) (by first | exact Kd.own_blk (Kd.R_ne HO_17.out BK245.out (by decide)) | (rw [add_block]; exact Kd.own_blk (Kd.R_ne HO_17.out BK245.out (by decide))) | (show (Addr.add _ _).block ≠ _; rw [add_block]; exact Kd.own_blk (Kd.R_ne HO_17.out BK245.out (by decide))) | (dsimp only; exact Kd.own_blk (Kd.R_ne HO_17.out BK245.out (by decide)))) _).trans (((cell_far (p := ⟨gb245, _, none⟩) (by first | exact Kd.own_blk (Kd.R_ne HO_17.out BK245.out (by decide)) | (rw [add_block]; exact Kd.own_blk (Kd.R_ne HO_17.out BK245.out (by decide))) | (show (Addr.add _ _).block ≠ _; rw [add_block]; exact Kd.own_blk (Kd.R_ne HO_17.out BK245.out (by decide))) | (dsimp only; exact Kd.own_blk (Kd.R_ne HO_17.out BK245.out (by decide)))) _).trans (hHeld.2.2.2))))))⟩ (fun hHeld => ?_)
            clear hK K
            refine pure_ (i := 17) (N := some 21) (v := ?_) (a' := ?_) #[true, true, true, true, true, true, true, true, true, true, true, true, true, true, true, true, true, true] rfl rfl (any_of HT_.out (by kernel_rfl)) (fun _ _ _ h => h) (Or.inl ⟨by rfl, ?_⟩) ?_ ?_
            rotate_left
            ·intro w'
             go_simp
             with_reducible rfl
            rotate_left
            ·simp only [Act.put, List.setIfInBounds_toArray, List.set_cons_zero, List.set_cons_succ, i64_w, i32_w]
             rfl
            refine done_ (done_of HT_.out (by kernel_rfl)) ?_
            try go_wp2
            have n0_ : Aside0 (Kd.R k34 34 (((w36.setCell ⟨gb245, 0, none⟩ (.int .i64 t241)).setCell ⟨gb245, 1, none⟩ (.int .i64 t242)).setCell ⟨gb245, 2, none⟩ (.int .i64 t243)) w.heap.size (fun _ => True) (.slice Ao32 t230.length co32) t230) := ⟨by (with_reducible repeat (first | apply Kd.R_alloc | apply Kd.R_drewN | apply Kd.R_drew)); exact Kd.R_mono (Kd.R_far (p := ⟨gb245, 2, none⟩) (Kd.R_far (p := ⟨gb245, 1, none⟩) (Kd.R_far (p := ⟨gb245, 0, none⟩) (Kd.R_types HO_15.out BK245.out (by decide)) (fun _ hk => hk.2) (.int .i64 t241)) (fun _ hk => hk.2) (.int .i64 t242)) (fun _ hk => hk.2) (.int .i64 t243)) (fun _ hk => trivial)⟩
            have n1_ : Aside0 (Kd.R k42 42 (((w36.setCell ⟨gb245, 0, none⟩ (.int .i64 t241)).setCell ⟨gb245, 1, none⟩ (.int .i64 t242)).setCell ⟨gb245, 2, none⟩ (.int .i64 t243)) w.heap.size (fun k_ => k_ ≠ gb228) (.slice (some ad239) y233.length co23) y233) := ⟨by (with_reducible repeat (first | apply Kd.R_alloc | apply Kd.R_drewN | apply Kd.R_drew)); exact Kd.R_mono (Kd.R_far (p := ⟨gb245, 2, none⟩) (Kd.R_far (p := ⟨gb245, 1, none⟩) (Kd.R_far (p := ⟨gb245, 0, none⟩) (Kd.R_types HO_16.out BK245.out (by decide)) (fun _ hk => hk.2) (.int .i64 t241)) (fun _ hk => hk.2) (.int .i64 t242)) (fun _ hk => hk.2) (.int .i64 t243)) (fun _ hk => hk.1)⟩
            have n2_ : Aside0 (Kd.R (Kd.int .i64) 3 (((w36.setCell ⟨gb245, 0, none⟩ (.int .i64 t241)).setCell ⟨gb245, 1, none⟩ (.int .i64 t242)).setCell ⟨gb245, 2, none⟩ (.int .i64 t243)) w.heap.size (fun _ => True) (.slice (some ad240) y236.length co31) y236) := ⟨by (with_reducible repeat (first | apply Kd.R_alloc | apply Kd.R_drewN | apply Kd.R_drew)); exact Kd.R_mono (Kd.R_far (p := ⟨gb245, 2, none⟩) (Kd.R_far (p := ⟨gb245, 1, none⟩) (Kd.R_far (p := ⟨gb245, 0, none⟩) (Kd.R_types HO_17.out BK245.out (by decide)) (fun _ hk => hk.2) (.int .i64 t241)) (fun _ hk => hk.2) (.int .i64 t242)) (fun _ hk => hk.2) (.int .i64 t243)) (fun _ hk => trivial)⟩
            have n3_ : Aside0 ((((w36.setCell ⟨gb245, 0, none⟩ (.int .i64 t241)).setCell ⟨gb245, 1, none⟩ (.int .i64 t242)).setCell ⟨gb245, 2, none⟩ (.int .i64 t243)).heap[gb228]? = some (.cells #[.int .i64 a1_0, .int .i64 a1_1, .int .i64 a1_2] 42 (0, 0))) := ⟨by (with_reducible repeat (first | refine blk_drewN ?_ _ | refine blk_drew ?_ | refine blk_alloc ?_ _)); refine blk_far ?_ NB228_245.out _; (with_reducible repeat (first | refine blk_drewN ?_ _ | refine blk_drew ?_ | refine blk_alloc ?_ _)); refine blk_far ?_ NB228_245.out _; (with_reducible repeat (first | refine blk_drewN ?_ _ | refine blk_drew ?_ | refine blk_alloc ?_ _)); refine blk_far ?_ NB228_245.out _; (with_reducible repeat (first | refine blk_drewN ?_ _ | refine blk_drew ?_ | refine blk_alloc ?_ _)); exact BK228.out⟩
            have n4_ : Aside0 ((((w36.setCell ⟨gb245, 0, none⟩ (.int .i64 t241)).setCell ⟨gb245, 1, none⟩ (.int .i64 t242)).setCell ⟨gb245, 2, none⟩ (.int .i64 t243)).heap[gb245]? = some (.cells #[.int .i64 t241, .int .i64 t242, .int .i64 t243] 37 (0, 0))) := ⟨by (with_reducible repeat (first | refine blk_drewN ?_ _ | refine blk_drew ?_ | refine blk_alloc ?_ _)); refine blk_put (cs := #[.int .i64 t241, .int .i64 t242, .int .i64 0]) ?_ 2 _ rfl; (with_reducible repeat (first | refine blk_drewN ?_ _ | refine blk_drew ?_ | refine blk_alloc ?_ _)); refine blk_put (cs := #[.int .i64 t241, .int .i64 0, .int .i64 0]) ?_ 1 _ rfl; (with_reducible repeat (first | refine blk_drewN ?_ _ | refine blk_drew ?_ | refine blk_alloc ?_ _)); refine blk_put (cs := #[.int .i64 0, .int .i64 0, .int .i64 0]) ?_ 0 _ rfl; (with_reducible repeat (first | refine blk_drewN ?_ _ | refine blk_drew ?_ | refine blk_alloc ?_ _)); exact BK245.out⟩
            have n5_ : Aside0 (Below w.heap.size w (((w36.setCell ⟨gb245, 0, none⟩ (.int .i64 t241)).setCell ⟨gb245, 1, none⟩ (.int .i64 t242)).setCell ⟨gb245, 2, none⟩ (.int .i64 t243))) := ⟨by repeat (first | (with_reducible first | exact HB.out | apply below_alloc | apply pw_below_drewN | apply below_drew1 | refine below_set ?_ GE228.out | refine below_set ?_ GE245.out) | exact HB.out)⟩
            (try clear HO_15)
            (try clear HO_16)
            (try clear HO_17)
            (try clear BK228)
            (try clear BK245)
            (try clear HB)
            generalize (((w36.setCell ⟨gb245, 0, none⟩ (.int .i64 t241)).setCell ⟨gb245, 1, none⟩ (.int .i64 t242)).setCell ⟨gb245, 2, none⟩ (.int .i64 t243)) = w40 at n0_ n1_ n2_ n3_ n4_ n5_ ⊢
            have HO_15 := n0_
            have HO_16 := n1_
            have HO_17 := n2_
            have BK228 := n3_
            have BK245 := n4_
            have HB := n5_
            clear n0_ n1_ n2_ n3_ n4_ n5_
            have n0_ := Aside0.mk (Kd.R_drew HO_15.out)
            have n1_ := Aside0.mk (Kd.R_drew HO_16.out)
            have n2_ := Aside0.mk (Kd.R_drew HO_17.out)
            have n3_ := Aside0.mk (blk_drew BK228.out)
            have n4_ := Aside0.mk (blk_drew BK245.out)
            have n5_ := Aside0.mk (below_drew1 HB.out)
            clear HO_15
            clear HO_16
            clear HO_17
            clear BK228
            clear BK245
            clear HB
            have HO_15 := n0_
            have HO_16 := n1_
            have HO_17 := n2_
            have BK228 := n3_
            have BK245 := n4_
            have HB := n5_
            clear n0_ n1_ n2_ n3_ n4_ n5_
            have p246 : 0 ≤ (x18_1 : Int) := of_decide_eq_true (by first | (with_reducible assumption) | assumption)
            have q246 : x18_1 < (y233.length : Int) := of_decide_eq_true (by first | (with_reducible assumption) | assumption)
            obtain ⟨ad246, e246, hx246_0, hx246_1, hx246_2⟩ := at_T42 (Kd.R_reads' HO_16.out).2.2 x18_1 p246 q246
            obtain rfl : ad239 = ad246 := (by injection e246)
            replace p246 := eq_true p246
            replace q246 := eq_true q246
            have p247 : 0 ≤ (x19_2 : Int) := of_decide_eq_true (by first | (with_reducible assumption) | assumption)
            have q247 : x19_2 < (y236.length : Int) := of_decide_eq_true (by first | (with_reducible assumption) | assumption)
            obtain ⟨ad247, e247, hx247_0⟩ := Kd.at_int (Kd.R_reads' HO_17.out).2.2 x19_2 p247 q247
            obtain rfl : ad240 = ad247 := (by injection e247)
            replace p247 := eq_true p247
            replace q247 := eq_true q247
            refine start_ (n := 18) (S := fun w' => w'.cell? (ad239.add ((x18_1).toNat * 3)) = some (.int .i64 ((rd_T42 y233 x18_1).f0)) ∧ w'.cell? ⟨(ad239.add ((x18_1).toNat * 3)).block, (ad239.add ((x18_1).toNat * 3)).off + 1, none⟩ = some (.int .i64 ((rd_T42 y233 x18_1).f1)) ∧ w'.cell? ⟨(ad239.add ((x18_1).toNat * 3)).block, (ad239.add ((x18_1).toNat * 3)).off + 2, none⟩ = some (.int .i64 ((rd_T42 y233 x18_1).f2)) ∧ w'.cell? (ad240.add (x19_2).toNat) = some (.int .i64 (rd y236 x19_2))) (ds := []) #[false, false, false, false, false, false, false, false, false, false, false, false, false, false, false, false, false, false] (by kernel_rfl) rfl rfl ⟨hx246_0, hx246_1, hx246_2, hx247_0⟩ (fun hHeld => ?_); refine with_tabW flagstonelaw39_ScoreTells.tab15 flagstonelaw39_ScoreTells.bits15 (fun HT_ HW_ => ?_)
            generalize w40.drew = w41 at HO_15 HO_16 HO_17 BK228 BK245 HB hx246_0 hx246_1 hx246_2 hx247_0 hHeld ⊢
            refine pure_ (i := 0) (N := some 80) (v := ?_) (a' := ?_) #[true, false, false, false, false, false, false, false, false, false, false, false, false, false, false, false, false, false] rfl rfl (any_of HT_.out (by kernel_rfl)) (fun _ _ _ h => h) (Or.inl ⟨by rfl, ?_⟩) ?_ ?_
            rotate_left
            ·intro w'
             go_simp
             with_reducible rfl
            rotate_left
            ·simp only [Act.put, List.setIfInBounds_toArray, List.set_cons_zero, List.set_cons_succ, i64_w, i32_w]
             rfl
            refine pure_ (i := 1) (N := some 81) (v := ?_) (a' := ?_) #[true, true, false, false, false, false, false, false, false, false, false, false, false, false, false, false, false, false] rfl rfl (any_of HT_.out (by kernel_rfl)) (fun _ _ _ h => h) (Or.inl ⟨by rfl, ?_⟩) ?_ ?_
            rotate_left
            ·intro w'
             go_simp
             with_reducible rfl
            rotate_left
            ·simp only [Act.put, List.setIfInBounds_toArray, List.set_cons_zero, List.set_cons_succ, i64_w, i32_w]
             rfl
            refine pure_ (i := 2) (N := some 82) (v := ?_) (a' := ?_) #[true, true, true, false, false, false, false, false, false, false, false, false, false, false, false, false, false, false] rfl rfl (any_of HT_.out (by kernel_rfl)) (fun _ _ _ h => h) (Or.inl ⟨by rfl, ?_⟩) ?_ ?_
            rotate_left
            ·intro w'
             go_simp
             with_reducible rfl
            rotate_left
            ·simp only [Act.put, List.setIfInBounds_toArray, List.set_cons_zero, List.set_cons_succ, i64_w, i32_w]
             rfl
            refine pure_ (i := 3) (N := some 83) (v := ?_) (a' := ?_) #[true, true, true, true, false, false, false, false, false, false, false, false, false, false, false, false, false, false] rfl rfl (any_of HT_.out (by kernel_rfl)) (fun _ _ _ h => h) (Or.inl ⟨by rfl, ?_⟩) ?_ ?_
            rotate_left
            ·intro w'
             go_simp
             with_reducible rfl
            rotate_left
            ·simp only [Act.put, List.setIfInBounds_toArray, List.set_cons_zero, List.set_cons_succ, i64_w, i32_w]
             rfl
            refine pure_ (i := 4) (N := some 84) (v := ?_) (a' := ?_) #[true, true, true, true, true, false, false, false, false, false, false, false, false, false, false, false, false, false] rfl rfl (any_of HT_.out (by kernel_rfl)) (fun _ _ _ h => h) (Or.inl ⟨by rfl, ?_⟩) ?_ ?_
            rotate_left
            ·intro w'
             go_simp
             with_reducible rfl
            rotate_left
            ·simp only [Act.put, List.setIfInBounds_toArray, List.set_cons_zero, List.set_cons_succ, i64_w, i32_w]
             rfl
            refine pure_ (i := 6) (N := some 86) (v := ?_) (a' := ?_) #[true, true, true, true, true, false, true, false, false, false, false, false, false, false, false, false, false, false] rfl rfl (any_of HT_.out (by kernel_rfl)) (fun _ _ _ h => h) (Or.inl ⟨by rfl, ?_⟩) ?_ ?_
            rotate_left
            ·intro w'
             go_simp
             with_reducible rfl
            rotate_left
            ·simp only [Act.put, List.setIfInBounds_toArray, List.set_cons_zero, List.set_cons_succ, i64_w, i32_w]
             rfl
            refine pure_ (i := 7) (N := some 87) (v := ?_) (a' := ?_) #[true, true, true, true, true, false, true, true, false, false, false, false, false, false, false, false, false, false] rfl rfl (any_of HT_.out (by kernel_rfl)) (fun _ _ _ h => h) (Or.inl ⟨by rfl, ?_⟩) ?_ ?_
            rotate_left
            ·intro w'
             go_simp
             with_reducible rfl
            rotate_left
            ·simp only [Act.put, List.setIfInBounds_toArray, List.set_cons_zero, List.set_cons_succ, i64_w, i32_w]
             rfl
            refine pure_ (i := 8) (N := some 88) (v := ?_) (a' := ?_) #[true, true, true, true, true, false, true, true, true, false, false, false, false, false, false, false, false, false] rfl rfl (any_of HT_.out (by kernel_rfl)) (fun _ _ _ h => h) (Or.inl ⟨by rfl, ?_⟩) ?_ ?_
            rotate_left
            ·intro w'
             go_simp
             with_reducible rfl
            rotate_left
            ·simp only [Act.put, List.setIfInBounds_toArray, List.set_cons_zero, List.set_cons_succ, i64_w, i32_w]
             rfl
            refine pure_ (i := 10) (N := some 90) (v := ?_) (a' := ?_) #[true, true, true, true, true, false, true, true, true, false, true, false, false, false, false, false, false, false] rfl rfl (any_of HT_.out (by kernel_rfl)) (fun _ _ _ h => h) (Or.inl ⟨by rfl, ?_⟩) ?_ ?_
            rotate_left
            ·intro w'
             go_simp
             with_reducible rfl
            rotate_left
            ·simp only [Act.put, List.setIfInBounds_toArray, List.set_cons_zero, List.set_cons_succ, i64_w, i32_w]
             rfl
            refine take_ (i := 5) (N := some 85) (v := ?_) (a' := ?_) #[true, true, true, true, true, true, true, true, true, false, true, false, false, false, false, false, false, false] rfl rfl (take_ofW HT_.out HW_.out (by kernel_rfl)) (fun _ _ _ h => h) (Or.inl ⟨by rfl, ?_⟩) hHeld ?_ ?_
            rotate_left
            ·rintro w' ⟨s0, s1, s2, s3⟩
             go_simp
             with_reducible rfl
            rotate_left
            ·simp only [Act.put, List.setIfInBounds_toArray, List.set_cons_zero, List.set_cons_succ, i64_w, i32_w]
             rfl
            refine take_ (i := 9) (N := some 89) (v := ?_) (a' := ?_) #[true, true, true, true, true, true, true, true, true, true, true, false, false, false, false, false, false, false] rfl rfl (take_ofW HT_.out HW_.out (by kernel_rfl)) (fun _ _ _ h => h) (Or.inl ⟨by rfl, ?_⟩) hHeld ?_ ?_
            rotate_left
            ·rintro w' ⟨s0, s1, s2, s3⟩
             go_simp
             with_reducible rfl
            rotate_left
            ·simp only [Act.put, List.setIfInBounds_toArray, List.set_cons_zero, List.set_cons_succ, i64_w, i32_w]
             rfl
            refine join_ (σ := Nat) 2 #[true, true, true, true, true, true, true, true, true, true, true, true, true, true, true, true, false, false] (fun s_ => [(91, .tuple #[.agg #[.int .i64 t248, .int .i64 t249, .int .i64 t250], .bool t251]), (22, .pointer (some ⟨s_, 0, none⟩)), (79, .tuple #[.agg #[.int .i64 t248, .int .i64 t249, .int .i64 t250], .bool t251]), (92, .agg #[.int .i64 t248, .int .i64 t249, .int .i64 t250]), (93, .bool t251)]) (fun s_ w' => (w'.cell? (ad239.add ((x18_1).toNat * 3)) = some (.int .i64 ((rd_T42 y233 x18_1).f0)) ∧ w'.cell? ⟨(ad239.add ((x18_1).toNat * 3)).block, (ad239.add ((x18_1).toNat * 3)).off + 1, none⟩ = some (.int .i64 ((rd_T42 y233 x18_1).f1)) ∧ w'.cell? ⟨(ad239.add ((x18_1).toNat * 3)).block, (ad239.add ((x18_1).toNat * 3)).off + 2, none⟩ = some (.int .i64 ((rd_T42 y233 x18_1).f2)) ∧ w'.cell? (ad240.add (x19_2).toNat) = some (.int .i64 (rd y236 x19_2))) ∧ (Kd.R k34 34 w' w.heap.size (fun _ => True) (.slice Ao32 t230.length co32) t230) ∧ (Kd.R k42 42 w' w.heap.size (fun k_ => k_ ≠ gb228) (.slice (some ad239) y233.length co23) y233) ∧ (Kd.R (Kd.int .i64) 3 w' w.heap.size (fun _ => True) (.slice (some ad240) y236.length co31) y236) ∧ (w'.heap[gb228]? = some (.cells #[.int .i64 a1_0, .int .i64 a1_1, .int .i64 a1_2] 42 (0, 0))) ∧ (w'.heap[gb245]? = some (.cells #[.int .i64 t241, .int .i64 t242, .int .i64 t243] 37 (0, 0))) ∧ (w'.heap[s_]? = some (.cells #[.int .i64 0, .int .i64 0, .int .i64 0] 37 (0, 0))) ∧ (w.heap.size ≤ s_) ∧ (w.heap.size ≤ s_) ∧ (gb228 ≠ s_) ∧ (s_ ≠ gb228) ∧ (gb245 ≠ s_) ∧ (s_ ≠ gb245) ∧ (Below w.heap.size w w')) ?_ ?_
            rotate_left
            ·intro hCont
             refine two_ (i := 11) (j := 15) (Ni := some 91) (Nj := some 22) #[true, true, true, true, true, true, true, true, true, true, true, true, false, false, false, false, false, false] #[true, true, true, true, true, true, true, true, true, true, true, false, false, false, false, true, false, false] rfl rfl rfl rfl (two_of HT_.out (by kernel_rfl)) (by decide) (by decide) (fun K hK => ?_) (fun K hK => ?_)
             ·skip
              refine goes_ Try.func20 (by kernel_rfl) rfl #[.slice Ao32 t230.length co32, .int .i64 a4, .agg #[.int .i64 ((rd_T42 y233 x18_1).f0), .int .i64 ((rd_T42 y233 x18_1).f1), .int .i64 ((rd_T42 y233 x18_1).f2)], .int .i64 (rd y236 x19_2), .bool a6] (by rfl) rfl rfl (by (try simp only [List.map_toArray, List.map_cons, List.map_nil]); first | done | rfl | (simp only [List.length_drop, List.length_take]; rfl)) ?_
              with_reducible refine (flagstoneref39_Of.calls k2 _ _ t230 a4 ((rd_T42 y233 x18_1).f0) ((rd_T42 y233 x18_1).f1) ((rd_T42 y233 x18_1).f2) (rd y236 x19_2) a6 t248 t249 t250 t251 _ ?side1 ?side2 A29.out).mono ?_
              (case side1 => repeat (first | exact (Kd.R_reads' HO_15.out).2.2 | (with_reducible refine Kd.C_alloc ?_ _) | (with_reducible refine Kd.C_drewN ?_ _) | (with_reducible refine Kd.C_drew ?_)))
              (case side2 => exact (Kd.R_reads' HO_15.out).2.1)
              rintro e w42 ⟨rfl, hb⟩
              have HS0_ := (hb.cell (World.block_lt_of_cell? _ _ (hHeld.1))).trans (hHeld.1)
              have HS1_ := (hb.cell (World.block_lt_of_cell? _ _ (hHeld.2.1))).trans (hHeld.2.1)
              have HS2_ := (hb.cell (World.block_lt_of_cell? _ _ (hHeld.2.2.1))).trans (hHeld.2.2.1)
              have HS3_ := (hb.cell (World.block_lt_of_cell? _ _ (hHeld.2.2.2))).trans (hHeld.2.2.2)
              refine ⟨_, rfl, ?_⟩
              have n0_ := Aside0.mk (Kd.R_below (by (with_reducible repeat (first | apply Kd.R_alloc | apply Kd.R_drewN | apply Kd.R_drew)); exact HO_15.out) hb)
              have n1_ := Aside0.mk (Kd.R_below (by (with_reducible repeat (first | apply Kd.R_alloc | apply Kd.R_drewN | apply Kd.R_drew)); exact HO_16.out) hb)
              have n2_ := Aside0.mk (Kd.R_below (by (with_reducible repeat (first | apply Kd.R_alloc | apply Kd.R_drewN | apply Kd.R_drew)); exact HO_17.out) hb)
              have n3_ := Aside0.mk (blk_below (g := gb228) (o := .cells #[.int .i64 a1_0, .int .i64 a1_1, .int .i64 a1_2] 42 (0, 0)) (by (with_reducible repeat (first | refine blk_drewN ?_ _ | refine blk_drew ?_ | refine blk_alloc ?_ _)); exact BK228.out) hb)
              have n4_ := Aside0.mk (blk_below (g := gb245) (o := .cells #[.int .i64 t241, .int .i64 t242, .int .i64 t243] 37 (0, 0)) (by (with_reducible repeat (first | refine blk_drewN ?_ _ | refine blk_drew ?_ | refine blk_alloc ?_ _)); exact BK245.out) hb)
              have n5_ := Aside0.mk (below_step (by repeat (first | (with_reducible first | exact HB.out | apply below_alloc | apply pw_below_drewN | apply below_drew1 | refine below_set ?_ GE228.out | refine below_set ?_ GE245.out) | exact HB.out)) hb)
              clear HO_15
              clear HO_16
              clear HO_17
              clear BK228
              clear BK245
              clear HB
              have HO_15 := n0_
              have HO_16 := n1_
              have HO_17 := n2_
              have BK228 := n3_
              have BK245 := n4_
              have HB := n5_
              clear n0_ n1_ n2_ n3_ n4_ n5_
              (try clear hb)
              (try clear hb2)
              (try clear hk)
              (try clear hi)
              refine hK.out _ _ ⟨HS0_, HS1_, HS2_, HS3_⟩ (fun hHeld => ?_)
              clear hK K
              refine norm_ (a' := ?_) ?_ ?_
              rotate_left
              ·show Act.put _ (some 91) _ = _
               simp only [Act.put, List.setIfInBounds_toArray, List.set_cons_zero, List.set_cons_succ, i64_w, i32_w]
               rfl
              refine pure_ (i := 12) (N := some 79) (v := ?_) (a' := ?_) #[true, true, true, true, true, true, true, true, true, true, true, true, true, false, false, false, false, false] rfl rfl (any_of HT_.out (by kernel_rfl)) (fun _ _ _ h => h) (Or.inl ⟨by rfl, ?_⟩) ?_ ?_
              rotate_left
              ·intro w'
               go_simp
               with_reducible rfl
              rotate_left
              ·simp only [Act.put, List.setIfInBounds_toArray, List.set_cons_zero, List.set_cons_succ, i64_w, i32_w]
               rfl
              refine pure_ (i := 13) (N := some 92) (v := ?_) (a' := ?_) #[true, true, true, true, true, true, true, true, true, true, true, true, true, true, false, false, false, false] rfl rfl (any_of HT_.out (by kernel_rfl)) (fun _ _ _ h => h) (Or.inl ⟨by rfl, ?_⟩) ?_ ?_
              rotate_left
              ·intro w'
               go_simp
               with_reducible rfl
              rotate_left
              ·simp only [Act.put, List.setIfInBounds_toArray, List.set_cons_zero, List.set_cons_succ, i64_w, i32_w]
               rfl
              refine pure_ (i := 14) (N := some 93) (v := ?_) (a' := ?_) #[true, true, true, true, true, true, true, true, true, true, true, true, true, true, true, false, false, false] rfl rfl (any_of HT_.out (by kernel_rfl)) (fun _ _ _ h => h) (Or.inl ⟨by rfl, ?_⟩) ?_ ?_
              rotate_left
              ·intro w'
               go_simp
               with_reducible rfl
              rotate_left
              ·simp only [Act.put, List.setIfInBounds_toArray, List.set_cons_zero, List.set_cons_succ, i64_w, i32_w]
               rfl
              refine one_ (i := 15) (N := some 22) #[true, true, true, true, true, true, true, true, true, true, true, true, true, true, true, true, false, false] rfl rfl (one_of HT_.out (by kernel_rfl)) (by decide) (fun K hK => ?_)
              refine box_step ?hg (N := 22) ?hd (cs := #[.int .i64 0, .int .i64 0, .int .i64 0]) (t := 37) ?hr ?_; (case hd => rfl); (case hg => rfl); (case hr => first | (go_simp; done) | (go_simp; rfl))
              intro gb252 hg w43 hbox hb
              have HS0_ := (hb.cell (World.block_lt_of_cell? _ _ (hHeld.1))).trans (hHeld.1)
              have HS1_ := (hb.cell (World.block_lt_of_cell? _ _ (hHeld.2.1))).trans (hHeld.2.1)
              have HS2_ := (hb.cell (World.block_lt_of_cell? _ _ (hHeld.2.2.1))).trans (hHeld.2.2.1)
              have HS3_ := (hb.cell (World.block_lt_of_cell? _ _ (hHeld.2.2.2))).trans (hHeld.2.2.2)
              have n0_ := Aside0.mk (Kd.R_below (by (with_reducible repeat (first | apply Kd.R_alloc | apply Kd.R_drewN | apply Kd.R_drew)); exact HO_15.out) hb)
              have n1_ := Aside0.mk (Kd.R_below (by (with_reducible repeat (first | apply Kd.R_alloc | apply Kd.R_drewN | apply Kd.R_drew)); exact HO_16.out) hb)
              have n2_ := Aside0.mk (Kd.R_below (by (with_reducible repeat (first | apply Kd.R_alloc | apply Kd.R_drewN | apply Kd.R_drew)); exact HO_17.out) hb)
              have n3_ := Aside0.mk (blk_below (g := gb228) (o := .cells #[.int .i64 a1_0, .int .i64 a1_1, .int .i64 a1_2] 42 (0, 0)) (by (with_reducible repeat (first | refine blk_drewN ?_ _ | refine blk_drew ?_ | refine blk_alloc ?_ _)); exact BK228.out) hb)
              have n4_ := Aside0.mk (blk_below (g := gb245) (o := .cells #[.int .i64 t241, .int .i64 t242, .int .i64 t243] 37 (0, 0)) (by (with_reducible repeat (first | refine blk_drewN ?_ _ | refine blk_drew ?_ | refine blk_alloc ?_ _)); exact BK245.out) hb)
              have n5_ := Aside0.mk (below_step (by repeat (first | (with_reducible first | exact HB.out | apply below_alloc | apply pw_below_drewN | apply below_drew1 | refine below_set ?_ GE228.out | refine below_set ?_ GE245.out) | exact HB.out)) hb)
              have n6_ := Aside0.mk (hbox)
              have n7_ := Aside0.mk ((by rw [hg]; exact (below_size (by repeat (first | (with_reducible first | exact HB.out | apply below_alloc | apply pw_below_drewN | apply below_drew1 | refine below_set ?_ GE228.out | refine below_set ?_ GE245.out) | exact HB.out))) : w.heap.size ≤ gb252))
              have n8_ := Aside0.mk ((by rw [hg]; exact (below_size (by repeat (first | (with_reducible first | exact HB.out | apply below_alloc | apply pw_below_drewN | apply below_drew1 | refine below_set ?_ GE228.out | refine below_set ?_ GE245.out) | exact HB.out))) : w.heap.size ≤ gb252))
              have n9_ := Aside0.mk ((by rw [hg]; exact Nat.ne_of_lt (blk_lt (g := gb228) (o := .cells #[.int .i64 a1_0, .int .i64 a1_1, .int .i64 a1_2] 42 (0, 0)) (by (with_reducible repeat (first | refine blk_drewN ?_ _ | refine blk_drew ?_ | refine blk_alloc ?_ _)); exact BK228.out)) : gb228 ≠ gb252))
              have n10_ := Aside0.mk ((by rw [hg]; exact Nat.ne_of_gt (blk_lt (g := gb228) (o := .cells #[.int .i64 a1_0, .int .i64 a1_1, .int .i64 a1_2] 42 (0, 0)) (by (with_reducible repeat (first | refine blk_drewN ?_ _ | refine blk_drew ?_ | refine blk_alloc ?_ _)); exact BK228.out)) : gb252 ≠ gb228))
              have n11_ := Aside0.mk ((by rw [hg]; exact Nat.ne_of_lt (blk_lt (g := gb245) (o := .cells #[.int .i64 t241, .int .i64 t242, .int .i64 t243] 37 (0, 0)) (by (with_reducible repeat (first | refine blk_drewN ?_ _ | refine blk_drew ?_ | refine blk_alloc ?_ _)); exact BK245.out)) : gb245 ≠ gb252))
              have n12_ := Aside0.mk ((by rw [hg]; exact Nat.ne_of_gt (blk_lt (g := gb245) (o := .cells #[.int .i64 t241, .int .i64 t242, .int .i64 t243] 37 (0, 0)) (by (with_reducible repeat (first | refine blk_drewN ?_ _ | refine blk_drew ?_ | refine blk_alloc ?_ _)); exact BK245.out)) : gb252 ≠ gb245))
              clear HO_15
              clear HO_16
              clear HO_17
              clear BK228
              clear BK245
              clear HB
              have HO_15 := n0_
              have HO_16 := n1_
              have HO_17 := n2_
              have BK228 := n3_
              have BK245 := n4_
              have HB := n5_
              have BK252 := n6_
              have GW252 := n7_
              have GE252 := n8_
              have NB228_252 := n9_
              have NB252_228 := n10_
              have NB245_252 := n11_
              have NB252_245 := n12_
              clear n0_ n1_ n2_ n3_ n4_ n5_ n6_ n7_ n8_ n9_ n10_ n11_ n12_
              clear hb hbox hg
              refine hK.out _ _ ⟨HS0_, HS1_, HS2_, HS3_⟩ (fun hHeld => ?_)
              clear hK K
              refine norm_ (a' := ?_) ?_ ?_
              rotate_left
              ·show Act.put _ (some 22) _ = _
               simp only [Act.put, List.setIfInBounds_toArray, List.set_cons_zero, List.set_cons_succ, i64_w, i32_w]
               rfl
              exact norm_ (by simp only [putAll, Act.put, List.setIfInBounds_toArray, List.set_cons_zero, List.set_cons_succ]) (hCont (gb252) _ ⟨hHeld, (by (with_reducible repeat (first | apply Kd.R_alloc | apply Kd.R_drewN | apply Kd.R_drew)); exact HO_15.out), (by (with_reducible repeat (first | apply Kd.R_alloc | apply Kd.R_drewN | apply Kd.R_drew)); exact HO_16.out), (by (with_reducible repeat (first | apply Kd.R_alloc | apply Kd.R_drewN | apply Kd.R_drew)); exact HO_17.out), (by (with_reducible repeat (first | refine blk_drewN ?_ _ | refine blk_drew ?_ | refine blk_alloc ?_ _)); exact BK228.out), (by (with_reducible repeat (first | refine blk_drewN ?_ _ | refine blk_drew ?_ | refine blk_alloc ?_ _)); exact BK245.out), (by (with_reducible repeat (first | refine blk_drewN ?_ _ | refine blk_drew ?_ | refine blk_alloc ?_ _)); exact BK252.out), GW252.out, GE252.out, NB228_252.out, NB252_228.out, NB245_252.out, NB252_245.out, (by repeat (first | (with_reducible first | exact HB.out | apply below_alloc | apply pw_below_drewN | apply below_drew1 | refine below_set ?_ GE228.out | refine below_set ?_ GE245.out | refine below_set ?_ GE252.out) | exact HB.out))⟩)
             ·skip
              refine box_step ?hg (N := 22) ?hd (cs := #[.int .i64 0, .int .i64 0, .int .i64 0]) (t := 37) ?hr ?_; (case hd => rfl); (case hg => rfl); (case hr => first | (go_simp; done) | (go_simp; rfl))
              intro gb252 hg w42 hbox hb
              have HS0_ := (hb.cell (World.block_lt_of_cell? _ _ (hHeld.1))).trans (hHeld.1)
              have HS1_ := (hb.cell (World.block_lt_of_cell? _ _ (hHeld.2.1))).trans (hHeld.2.1)
              have HS2_ := (hb.cell (World.block_lt_of_cell? _ _ (hHeld.2.2.1))).trans (hHeld.2.2.1)
              have HS3_ := (hb.cell (World.block_lt_of_cell? _ _ (hHeld.2.2.2))).trans (hHeld.2.2.2)
              have n0_ := Aside0.mk (Kd.R_below (by (with_reducible repeat (first | apply Kd.R_alloc | apply Kd.R_drewN | apply Kd.R_drew)); exact HO_15.out) hb)
              have n1_ := Aside0.mk (Kd.R_below (by (with_reducible repeat (first | apply Kd.R_alloc | apply Kd.R_drewN | apply Kd.R_drew)); exact HO_16.out) hb)
              have n2_ := Aside0.mk (Kd.R_below (by (with_reducible repeat (first | apply Kd.R_alloc | apply Kd.R_drewN | apply Kd.R_drew)); exact HO_17.out) hb)
              have n3_ := Aside0.mk (blk_below (g := gb228) (o := .cells #[.int .i64 a1_0, .int .i64 a1_1, .int .i64 a1_2] 42 (0, 0)) (by (with_reducible repeat (first | refine blk_drewN ?_ _ | refine blk_drew ?_ | refine blk_alloc ?_ _)); exact BK228.out) hb)
              have n4_ := Aside0.mk (blk_below (g := gb245) (o := .cells #[.int .i64 t241, .int .i64 t242, .int .i64 t243] 37 (0, 0)) (by (with_reducible repeat (first | refine blk_drewN ?_ _ | refine blk_drew ?_ | refine blk_alloc ?_ _)); exact BK245.out) hb)
              have n5_ := Aside0.mk (below_step (by repeat (first | (with_reducible first | exact HB.out | apply below_alloc | apply pw_below_drewN | apply below_drew1 | refine below_set ?_ GE228.out | refine below_set ?_ GE245.out) | exact HB.out)) hb)
              have n6_ := Aside0.mk (hbox)
              have n7_ := Aside0.mk ((by rw [hg]; exact (below_size (by repeat (first | (with_reducible first | exact HB.out | apply below_alloc | apply pw_below_drewN | apply below_drew1 | refine below_set ?_ GE228.out | refine below_set ?_ GE245.out) | exact HB.out))) : w.heap.size ≤ gb252))
              have n8_ := Aside0.mk ((by rw [hg]; exact (below_size (by repeat (first | (with_reducible first | exact HB.out | apply below_alloc | apply pw_below_drewN | apply below_drew1 | refine below_set ?_ GE228.out | refine below_set ?_ GE245.out) | exact HB.out))) : w.heap.size ≤ gb252))
              have n9_ := Aside0.mk ((by rw [hg]; exact Nat.ne_of_lt (blk_lt (g := gb228) (o := .cells #[.int .i64 a1_0, .int .i64 a1_1, .int .i64 a1_2] 42 (0, 0)) (by (with_reducible repeat (first | refine blk_drewN ?_ _ | refine blk_drew ?_ | refine blk_alloc ?_ _)); exact BK228.out)) : gb228 ≠ gb252))
              have n10_ := Aside0.mk ((by rw [hg]; exact Nat.ne_of_gt (blk_lt (g := gb228) (o := .cells #[.int .i64 a1_0, .int .i64 a1_1, .int .i64 a1_2] 42 (0, 0)) (by (with_reducible repeat (first | refine blk_drewN ?_ _ | refine blk_drew ?_ | refine blk_alloc ?_ _)); exact BK228.out)) : gb252 ≠ gb228))
              have n11_ := Aside0.mk ((by rw [hg]; exact Nat.ne_of_lt (blk_lt (g := gb245) (o := .cells #[.int .i64 t241, .int .i64 t242, .int .i64 t243] 37 (0, 0)) (by (with_reducible repeat (first | refine blk_drewN ?_ _ | refine blk_drew ?_ | refine blk_alloc ?_ _)); exact BK245.out)) : gb245 ≠ gb252))
              have n12_ := Aside0.mk ((by rw [hg]; exact Nat.ne_of_gt (blk_lt (g := gb245) (o := .cells #[.int .i64 t241, .int .i64 t242, .int .i64 t243] 37 (0, 0)) (by (with_reducible repeat (first | refine blk_drewN ?_ _ | refine blk_drew ?_ | refine blk_alloc ?_ _)); exact BK245.out)) : gb252 ≠ gb245))
              clear HO_15
              clear HO_16
              clear HO_17
              clear BK228
              clear BK245
              clear HB
              have HO_15 := n0_
              have HO_16 := n1_
              have HO_17 := n2_
              have BK228 := n3_
              have BK245 := n4_
              have HB := n5_
              have BK252 := n6_
              have GW252 := n7_
              have GE252 := n8_
              have NB228_252 := n9_
              have NB252_228 := n10_
              have NB245_252 := n11_
              have NB252_245 := n12_
              clear n0_ n1_ n2_ n3_ n4_ n5_ n6_ n7_ n8_ n9_ n10_ n11_ n12_
              clear hb hbox hg
              refine hK.out _ _ ⟨HS0_, HS1_, HS2_, HS3_⟩ (fun hHeld => ?_)
              clear hK K
              refine norm_ (a' := ?_) ?_ ?_
              rotate_left
              ·show Act.put _ (some 22) _ = _
               simp only [Act.put, List.setIfInBounds_toArray, List.set_cons_zero, List.set_cons_succ, i64_w, i32_w]
               rfl
              refine one_ (i := 11) (N := some 91) #[true, true, true, true, true, true, true, true, true, true, true, true, false, false, false, true, false, false] rfl rfl (one_of HT_.out (by kernel_rfl)) (by decide) (fun K hK => ?_)
              refine goes_ Try.func20 (by kernel_rfl) rfl #[.slice Ao32 t230.length co32, .int .i64 a4, .agg #[.int .i64 ((rd_T42 y233 x18_1).f0), .int .i64 ((rd_T42 y233 x18_1).f1), .int .i64 ((rd_T42 y233 x18_1).f2)], .int .i64 (rd y236 x19_2), .bool a6] (by rfl) rfl rfl (by (try simp only [List.map_toArray, List.map_cons, List.map_nil]); first | done | rfl | (simp only [List.length_drop, List.length_take]; rfl)) ?_
              with_reducible refine (flagstoneref39_Of.calls k2 _ _ t230 a4 ((rd_T42 y233 x18_1).f0) ((rd_T42 y233 x18_1).f1) ((rd_T42 y233 x18_1).f2) (rd y236 x19_2) a6 t248 t249 t250 t251 _ ?side1 ?side2 A29.out).mono ?_
              (case side1 => repeat (first | exact (Kd.R_reads' HO_15.out).2.2 | (with_reducible refine Kd.C_alloc ?_ _) | (with_reducible refine Kd.C_drewN ?_ _) | (with_reducible refine Kd.C_drew ?_)))
              (case side2 => exact (Kd.R_reads' HO_15.out).2.1)
              rintro e w43 ⟨rfl, hb⟩
              have HS0_ := (hb.cell (World.block_lt_of_cell? _ _ (hHeld.1))).trans (hHeld.1)
              have HS1_ := (hb.cell (World.block_lt_of_cell? _ _ (hHeld.2.1))).trans (hHeld.2.1)
              have HS2_ := (hb.cell (World.block_lt_of_cell? _ _ (hHeld.2.2.1))).trans (hHeld.2.2.1)
              have HS3_ := (hb.cell (World.block_lt_of_cell? _ _ (hHeld.2.2.2))).trans (hHeld.2.2.2)
              refine ⟨_, rfl, ?_⟩
              have n0_ := Aside0.mk (Kd.R_below (by (with_reducible repeat (first | apply Kd.R_alloc | apply Kd.R_drewN | apply Kd.R_drew)); exact HO_15.out) hb)
              have n1_ := Aside0.mk (Kd.R_below (by (with_reducible repeat (first | apply Kd.R_alloc | apply Kd.R_drewN | apply Kd.R_drew)); exact HO_16.out) hb)
              have n2_ := Aside0.mk (Kd.R_below (by (with_reducible repeat (first | apply Kd.R_alloc | apply Kd.R_drewN | apply Kd.R_drew)); exact HO_17.out) hb)
              have n3_ := Aside0.mk (blk_below (g := gb228) (o := .cells #[.int .i64 a1_0, .int .i64 a1_1, .int .i64 a1_2] 42 (0, 0)) (by (with_reducible repeat (first | refine blk_drewN ?_ _ | refine blk_drew ?_ | refine blk_alloc ?_ _)); exact BK228.out) hb)
              have n4_ := Aside0.mk (blk_below (g := gb245) (o := .cells #[.int .i64 t241, .int .i64 t242, .int .i64 t243] 37 (0, 0)) (by (with_reducible repeat (first | refine blk_drewN ?_ _ | refine blk_drew ?_ | refine blk_alloc ?_ _)); exact BK245.out) hb)
              have n5_ := Aside0.mk (blk_below (g := gb252) (o := .cells #[.int .i64 0, .int .i64 0, .int .i64 0] 37 (0, 0)) (by (with_reducible repeat (first | refine blk_drewN ?_ _ | refine blk_drew ?_ | refine blk_alloc ?_ _)); exact BK252.out) hb)
              have n6_ := Aside0.mk (below_step (by repeat (first | (with_reducible first | exact HB.out | apply below_alloc | apply pw_below_drewN | apply below_drew1 | refine below_set ?_ GE228.out | refine below_set ?_ GE245.out | refine below_set ?_ GE252.out) | exact HB.out)) hb)
              clear HO_15
              clear HO_16
              clear HO_17
              clear BK228
              clear BK245
              clear BK252
              clear HB
              have HO_15 := n0_
              have HO_16 := n1_
              have HO_17 := n2_
              have BK228 := n3_
              have BK245 := n4_
              have BK252 := n5_
              have HB := n6_
              clear n0_ n1_ n2_ n3_ n4_ n5_ n6_
              (try clear hb)
              (try clear hb2)
              (try clear hk)
              (try clear hi)
              refine hK.out _ _ ⟨HS0_, HS1_, HS2_, HS3_⟩ (fun hHeld => ?_)
              clear hK K
              refine norm_ (a' := ?_) ?_ ?_
              rotate_left
              ·show Act.put _ (some 91) _ = _
               simp only [Act.put, List.setIfInBounds_toArray, List.set_cons_zero, List.set_cons_succ, i64_w, i32_w]
               rfl
              refine pure_ (i := 12) (N := some 79) (v := ?_) (a' := ?_) #[true, true, true, true, true, true, true, true, true, true, true, true, true, false, false, true, false, false] rfl rfl (any_of HT_.out (by kernel_rfl)) (fun _ _ _ h => h) (Or.inl ⟨by rfl, ?_⟩) ?_ ?_
              rotate_left
              ·intro w'
               go_simp
               with_reducible rfl
              rotate_left
              ·simp only [Act.put, List.setIfInBounds_toArray, List.set_cons_zero, List.set_cons_succ, i64_w, i32_w]
               rfl
              refine pure_ (i := 13) (N := some 92) (v := ?_) (a' := ?_) #[true, true, true, true, true, true, true, true, true, true, true, true, true, true, false, true, false, false] rfl rfl (any_of HT_.out (by kernel_rfl)) (fun _ _ _ h => h) (Or.inl ⟨by rfl, ?_⟩) ?_ ?_
              rotate_left
              ·intro w'
               go_simp
               with_reducible rfl
              rotate_left
              ·simp only [Act.put, List.setIfInBounds_toArray, List.set_cons_zero, List.set_cons_succ, i64_w, i32_w]
               rfl
              refine pure_ (i := 14) (N := some 93) (v := ?_) (a' := ?_) #[true, true, true, true, true, true, true, true, true, true, true, true, true, true, true, true, false, false] rfl rfl (any_of HT_.out (by kernel_rfl)) (fun _ _ _ h => h) (Or.inl ⟨by rfl, ?_⟩) ?_ ?_
              rotate_left
              ·intro w'
               go_simp
               with_reducible rfl
              rotate_left
              ·simp only [Act.put, List.setIfInBounds_toArray, List.set_cons_zero, List.set_cons_succ, i64_w, i32_w]
               rfl
              exact norm_ (by simp only [putAll, Act.put, List.setIfInBounds_toArray, List.set_cons_zero, List.set_cons_succ]) (hCont (gb252) _ ⟨hHeld, (by (with_reducible repeat (first | apply Kd.R_alloc | apply Kd.R_drewN | apply Kd.R_drew)); exact HO_15.out), (by (with_reducible repeat (first | apply Kd.R_alloc | apply Kd.R_drewN | apply Kd.R_drew)); exact HO_16.out), (by (with_reducible repeat (first | apply Kd.R_alloc | apply Kd.R_drewN | apply Kd.R_drew)); exact HO_17.out), (by (with_reducible repeat (first | refine blk_drewN ?_ _ | refine blk_drew ?_ | refine blk_alloc ?_ _)); exact BK228.out), (by (with_reducible repeat (first | refine blk_drewN ?_ _ | refine blk_drew ?_ | refine blk_alloc ?_ _)); exact BK245.out), (by (with_reducible repeat (first | refine blk_drewN ?_ _ | refine blk_drew ?_ | refine blk_alloc ?_ _)); exact BK252.out), GW252.out, GE252.out, NB228_252.out, NB252_228.out, NB245_252.out, NB252_245.out, (by repeat (first | (with_reducible first | exact HB.out | apply below_alloc | apply pw_below_drewN | apply below_drew1 | refine below_set ?_ GE228.out | refine below_set ?_ GE245.out | refine below_set ?_ GE252.out) | exact HB.out))⟩)
            rintro gb252 w44 ⟨hS_, h0_, h1_, h2_, h3_, h4_, h5_, h6_, h7_, h8_, h9_, h10_, h11_, h12_⟩
            have n0_ : Aside0 (Kd.R k34 34 w44 w.heap.size (fun _ => True) (.slice Ao32 t230.length co32) t230) := ⟨h0_⟩
            have n1_ : Aside0 (Kd.R k42 42 w44 w.heap.size (fun k_ => k_ ≠ gb228) (.slice (some ad239) y233.length co23) y233) := ⟨h1_⟩
            have n2_ : Aside0 (Kd.R (Kd.int .i64) 3 w44 w.heap.size (fun _ => True) (.slice (some ad240) y236.length co31) y236) := ⟨h2_⟩
            have n3_ : Aside0 (w44.heap[gb228]? = some (.cells #[.int .i64 a1_0, .int .i64 a1_1, .int .i64 a1_2] 42 (0, 0))) := ⟨h3_⟩
            have n4_ : Aside0 (w44.heap[gb245]? = some (.cells #[.int .i64 t241, .int .i64 t242, .int .i64 t243] 37 (0, 0))) := ⟨h4_⟩
            have n5_ : Aside0 (w44.heap[gb252]? = some (.cells #[.int .i64 0, .int .i64 0, .int .i64 0] 37 (0, 0))) := ⟨h5_⟩
            have n6_ : Aside0 (w.heap.size ≤ gb252) := ⟨h6_⟩
            have n7_ : Aside0 (w.heap.size ≤ gb252) := ⟨h7_⟩
            have n8_ : Aside0 (gb228 ≠ gb252) := ⟨h8_⟩
            have n9_ : Aside0 (gb252 ≠ gb228) := ⟨h9_⟩
            have n10_ : Aside0 (gb245 ≠ gb252) := ⟨h10_⟩
            have n11_ : Aside0 (gb252 ≠ gb245) := ⟨h11_⟩
            have n12_ : Aside0 (Below w.heap.size w w44) := ⟨h12_⟩
            clear HO_15
            clear HO_16
            clear HO_17
            clear BK228
            clear BK245
            clear HB
            clear h0_ h1_ h2_ h3_ h4_ h5_ h6_ h7_ h8_ h9_ h10_ h11_ h12_
            have HO_15 := n0_
            have HO_16 := n1_
            have HO_17 := n2_
            have BK228 := n3_
            have BK245 := n4_
            have BK252 := n5_
            have GW252 := n6_
            have GE252 := n7_
            have NB228_252 := n8_
            have NB252_228 := n9_
            have NB245_252 := n10_
            have NB252_245 := n11_
            have HB := n12_
            clear n0_ n1_ n2_ n3_ n4_ n5_ n6_ n7_ n8_ n9_ n10_ n11_ n12_
            have hHeld : w44.cell? (ad239.add ((x18_1).toNat * 3)) = some (.int .i64 ((rd_T42 y233 x18_1).f0)) ∧ w44.cell? ⟨(ad239.add ((x18_1).toNat * 3)).block, (ad239.add ((x18_1).toNat * 3)).off + 1, none⟩ = some (.int .i64 ((rd_T42 y233 x18_1).f1)) ∧ w44.cell? ⟨(ad239.add ((x18_1).toNat * 3)).block, (ad239.add ((x18_1).toNat * 3)).off + 2, none⟩ = some (.int .i64 ((rd_T42 y233 x18_1).f2)) ∧ w44.cell? (ad240.add (x19_2).toNat) = some (.int .i64 (rd y236 x19_2)) := hS_
            refine norm_ (a' := ?_) ?_ ?_
            rotate_left
            ·simp only [putAll, Act.put, List.setIfInBounds_toArray, List.set_cons_zero, List.set_cons_succ]
             rfl
            refine one_ (i := 16) (N := none) #[true, true, true, true, true, true, true, true, true, true, true, true, true, true, true, true, true, false] rfl rfl (one_of HT_.out (by kernel_rfl)) (by decide) (fun K hK => ?_)
            have hs45 : w44.cell? ⟨gb252, 0, none⟩ = some (.int .i64 0) := (blk_cell BK252.out 0).trans rfl
            have hfs45 := blk_frozen BK252.out 0
            have hns45_0 := NB228_252.out
            have hns45_1 := NB245_252.out
            have hms45_0 := NB252_228.out
            have hms45_1 := NB252_245.out
            have hs46 : w44.cell? ⟨gb252, 1, none⟩ = some (.int .i64 0) := (blk_cell BK252.out 1).trans rfl
            have hfs46 := blk_frozen BK252.out 1
            have hns46_0 := NB228_252.out
            have hns46_1 := NB245_252.out
            have hms46_0 := NB252_228.out
            have hms46_1 := NB252_245.out
            have hs47 : w44.cell? ⟨gb252, 2, none⟩ = some (.int .i64 0) := (blk_cell BK252.out 2).trans rfl
            have hfs47 := blk_frozen BK252.out 2
            have hns47_0 := NB228_252.out
            have hns47_1 := NB245_252.out
            have hms47_0 := NB252_228.out
            have hms47_1 := NB252_245.out
            refine skip_ (w1 := ?_) (by rfl) rfl ?_ ?_
            rotate_left
            ·go_simp
             rfl
            refine hK.out _ _ ⟨((cell_far (p := ⟨gb252, _, none⟩) (by first | exact Kd.own_blk (Kd.R_ne HO_16.out BK252.out (by decide)) | (rw [add_block]; exact Kd.own_blk (Kd.R_ne HO_16.out BK252.out (by decide))) | (show (Addr.add _ _).block ≠ _; rw [add_block]; exact Kd.own_blk (Kd.R_ne HO_16.out BK252.out (by decide))) | (dsimp only; exact Kd.own_blk (Kd.R_ne HO_16.out BK252.out (by decide)))) _).trans (((cell_far (p := ⟨gb252, _, none⟩) (by first | exact Kd.own_blk (Kd.R_ne HO_16.out BK252.out (by decide)) | (rw [add_block]; exact Kd.own_blk (Kd.R_ne HO_16.out BK252.out (by decide))) | (show (Addr.add _ _).block ≠ _; rw [add_block]; exact Kd.own_blk (Kd.R_ne HO_16.out BK252.out (by decide))) | (dsimp only; exact Kd.own_blk (Kd.R_ne HO_16.out BK252.out (by decide)))) _).trans (((cell_far (p := ⟨gb252, _, none⟩) (by first | exact Kd.own_blk (Kd.R_ne HO_16.out BK252.out (by decide)) | (rw [add_block]; exact Kd.own_blk (Kd.R_ne HO_16.out BK252.out (by decide))) | (show (Addr.add _ _).block ≠ _; rw [add_block]; exact Kd.own_blk (Kd.R_ne HO_16.out BK252.out (by decide))) | (dsimp only; exact Kd.own_blk (Kd.R_ne HO_16.out BK252.out (by decide)))) _).trans (hHeld.1)))))), ((cell_far (p := ⟨gb252, _, none⟩) (by first | exact Kd.own_blk (Kd.R_ne HO_16.out BK252.out (by decide)) | (rw [add_block]; exact Kd.own_blk (Kd.R_ne HO_16.out BK252.out (by decide))) | (show (Addr.add _ _).block ≠ _; rw [add_block]; exact Kd.own_blk (Kd.R_ne HO_16.out BK252.out (by decide))) | (dsimp only; exact Kd.own_blk (Kd.R_ne HO_16.out BK252.out (by decide)))) _).trans (((cell_far (p := ⟨gb252, _, none⟩) (by first | exact Kd.own_blk (Kd.R_ne HO_16.out BK252.out (by decide)) | (rw [add_block]; exact Kd.own_blk (Kd.R_ne HO_16.out BK252.out (by decide))) | (show (Addr.add _ _).block ≠ _; rw [add_block]; exact Kd.own_blk (Kd.R_ne HO_16.out BK252.out (by decide))) | (dsimp only; exact Kd.own_blk (Kd.R_ne HO_16.out BK252.out (by decide)))) _).trans (((cell_far (p := ⟨gb252, _, none⟩) (by first | exact Kd.own_blk (Kd.R_ne HO_16.out BK252.out (by decide)) | (rw [add_block]; exact Kd.own_blk (Kd.R_ne HO_16.out BK252.out (by decide))) | (show (Addr.add _ _).block ≠ _; rw [add_block]; exact Kd.own_blk (Kd.R_ne HO_16.out BK252.out (by decide))) | (dsimp only; exact Kd.own_blk (Kd.R_ne HO_16.out BK252.out (by decide)))) _).trans (hHeld.2.1)))))), ((cell_far (p := ⟨gb252, _, none⟩) (by first | exact Kd.own_blk (Kd.R_ne HO_16.out BK252.out (by decide)) | (rw [add_block]; exact Kd.own_blk (Kd.R_ne HO_16.out BK252.out (by decide))) | (show (Addr.add _ _).block ≠ _; rw [add_block]; exact Kd.own_blk (Kd.R_ne HO_16.out BK252.out (by decide))) | (dsimp only; exact Kd.own_blk (Kd.R_ne HO_16.out BK252.out (by decide)))) _).trans (((cell_far (p := ⟨gb252, _, none⟩) (by first | exact Kd.own_blk (Kd.R_ne HO_16.out BK252.out (by decide)) | (rw [add_block]; exact Kd.own_blk (Kd.R_ne HO_16.out BK252.out (by decide))) | (show (Addr.add _ _).block ≠ _; rw [add_block]; exact Kd.own_blk (Kd.R_ne HO_16.out BK252.out (by decide))) | (dsimp only; exact Kd.own_blk (Kd.R_ne HO_16.out BK252.out (by decide)))) _).trans (((cell_far (p := ⟨gb252, _, none⟩) (by first | exact Kd.own_blk (Kd.R_ne HO_16.out BK252.out (by decide)) | (rw [add_block]; exact Kd.own_blk (Kd.R_ne HO_16.out BK252.out (by decide))) | (show (Addr.add _ _).block ≠ _; rw [add_block]; exact Kd.own_blk (Kd.R_ne HO_16.out BK252.out (by decide))) | (dsimp only; exact Kd.own_blk (Kd.R_ne HO_16.out BK252.out (by decide)))) _).trans (hHeld.2.2.1)))))), ((cell_far (p := ⟨gb252, _, none⟩) (by first | exact Kd.own_blk (Kd.R_ne HO_17.out BK252.out (by decide)) | (rw [add_block]; exact Kd.own_blk (Kd.R_ne HO_17.out BK252.out (by decide))) | (show (Addr.add _ _).block ≠ _; rw [add_block]; exact Kd.own_blk (Kd.R_ne HO_17.out BK252.out (by decide))) | (dsimp only; exact Kd.own_blk (Kd.R_ne HO_17.out BK252.out (by decide)))) _).trans (((cell_far (p := ⟨gb252, _, none⟩) (by first | exact Kd.own_blk (Kd.R_ne HO_17.out BK252.out (by decide)) | (rw [add_block]; exact Kd.own_blk (Kd.R_ne HO_17.out BK252.out (by decide))) | (show (Addr.add _ _).block ≠ _; rw [add_block]; exact Kd.own_blk (Kd.R_ne HO_17.out BK252.out (by decide))) | (dsimp only; exact Kd.own_blk (Kd.R_ne HO_17.out BK252.out (by decide)))) _).trans (((cell_far (p := ⟨gb252, _, none⟩) (by first | exact Kd.own_blk (Kd.R_ne HO_17.out BK252.out (by decide)) | (rw [add_block]; exact Kd.own_blk (Kd.R_ne HO_17.out BK252.out (by decide))) | (show (Addr.add _ _).block ≠ _; rw [add_block]; exact Kd.own_blk (Kd.R_ne HO_17.out BK252.out (by decide))) | (dsimp only; exact Kd.own_blk (Kd.R_ne HO_17.out BK252.out (by decide)))) _).trans (hHeld.2.2.2))))))⟩ (fun hHeld => ?_)
            clear hK K
            refine pure_ (i := 17) (N := some 23) (v := ?_) (a' := ?_) #[true, true, true, true, true, true, true, true, true, true, true, true, true, true, true, true, true, true] rfl rfl (any_of HT_.out (by kernel_rfl)) (fun _ _ _ h => h) (Or.inl ⟨by rfl, ?_⟩) ?_ ?_
            rotate_left
            ·intro w'
             go_simp
             with_reducible rfl
            rotate_left
            ·simp only [Act.put, List.setIfInBounds_toArray, List.set_cons_zero, List.set_cons_succ, i64_w, i32_w]
             rfl
            refine done_ (done_of HT_.out (by kernel_rfl)) ?_
            go_upto_region 16 with (fail)
            go_cut [101] (fun v101 wc => ∃ (kq : Nat) (x101_29 : Bool), v101 = .bool x101_29 ∧ Aside0 (flagstonelaw39_ScoreTells.j2 kq a4 a6 t230 y233 y236 x18_1 x19_2 x101_29 = some r) ∧ Aside0 (kq ≤ k2) ∧ Aside0 (Kd.R k34 34 wc w.heap.size (fun _ => True) (.slice Ao32 t230.length co32) t230) ∧ Aside0 (Kd.R k42 42 wc w.heap.size (fun k_ => k_ ≠ gb228) (.slice (some ad239) y233.length co23) y233) ∧ Aside0 (Kd.R (Kd.int .i64) 3 wc w.heap.size (fun _ => True) (.slice (some ad240) y236.length co31) y236) ∧ Aside0 (wc.heap[gb228]? = some (.cells #[.int .i64 a1_0, .int .i64 a1_1, .int .i64 a1_2] 42 (0, 0))) ∧ Aside0 (wc.heap[gb245]? = some (.cells #[.int .i64 t241, .int .i64 t242, .int .i64 t243] 37 (0, 0))) ∧ Aside0 (wc.heap[gb252]? = some (.cells #[.int .i64 t248, .int .i64 t249, .int .i64 t250] 37 (0, 0))) ∧ Aside0 (Below w.heap.size w wc))
            case first =>
             have H := HC30.out
             clear HC30
             by_cases c48 : (!(t241 == t248) || (!(t242 == t249) || (!(t243 == t250)))) = true
             ·rw [if_pos c48] at H
              have c48b0 : (!(t241 == t248) || (!(t242 == t249) || (!(t243 == t250)))) = true := c48
              clear c48
              (first | rw [c48b0] | (simp only [i64_w, i32_w]; rw [c48b0]) | skip)
              have H' := Aside0.mk H
              clear H
              have hnb49 := NB245_228.out
              have hnc49 := NB228_245.out
              have hnb50 := NB245_252.out
              have hnc50 := NB252_245.out
              have hcz51_0 : w44.cell? ⟨gb245, 0, none⟩ = some (.int .i64 t241) := (blk_cell BK245.out 0).trans rfl
              have hcz51_1 : w44.cell? ⟨gb245, 1, none⟩ = some (.int .i64 t242) := (blk_cell BK245.out 1).trans rfl
              have hcz51_2 : w44.cell? ⟨gb245, 2, none⟩ = some (.int .i64 t243) := (blk_cell BK245.out 2).trans rfl
              have hfz51_0 := blk_frozen BK245.out 0
              have hfz51_1 := blk_frozen BK245.out 1
              have hfz51_2 := blk_frozen BK245.out 2
              have hnb52 := NB252_228.out
              have hnc52 := NB228_252.out
              have hcz53_0 : w44.cell? ⟨gb252, 0, none⟩ = some (.int .i64 0) := (blk_cell BK252.out 0).trans rfl
              have hcz53_1 : w44.cell? ⟨gb252, 1, none⟩ = some (.int .i64 0) := (blk_cell BK252.out 1).trans rfl
              have hcz53_2 : w44.cell? ⟨gb252, 2, none⟩ = some (.int .i64 0) := (blk_cell BK252.out 2).trans rfl
              have hfz53_0 := blk_frozen BK252.out 0
              have hfz53_1 := blk_frozen BK252.out 1
              have hfz53_2 := blk_frozen BK252.out 2
              go_wp2
              go_meet
              case rel => exact ⟨_, (true), (by first | rfl | (simp; done) | (simp [*]; done) | exact congrArg (Value.int _) (by unfold wrap64; omega)), H', ⟨by have := HK1.out; have := HK2.out; first | omega | exact Nat.le_refl _⟩, ⟨by (with_reducible repeat (first | apply Kd.R_alloc | apply Kd.R_drewN | apply Kd.R_drew)); exact Kd.R_mono (Kd.R_far (p := ⟨gb252, 2, none⟩) (Kd.R_far (p := ⟨gb252, 1, none⟩) (Kd.R_far (p := ⟨gb252, 0, none⟩) (Kd.R_types HO_15.out BK252.out (by decide)) (fun _ hk => hk.2) (.int .i64 t248)) (fun _ hk => hk.2) (.int .i64 t249)) (fun _ hk => hk.2) (.int .i64 t250)) (fun _ hk => trivial)⟩, ⟨by (with_reducible repeat (first | apply Kd.R_alloc | apply Kd.R_drewN | apply Kd.R_drew)); exact Kd.R_mono (Kd.R_far (p := ⟨gb252, 2, none⟩) (Kd.R_far (p := ⟨gb252, 1, none⟩) (Kd.R_far (p := ⟨gb252, 0, none⟩) (Kd.R_types HO_16.out BK252.out (by decide)) (fun _ hk => hk.2) (.int .i64 t248)) (fun _ hk => hk.2) (.int .i64 t249)) (fun _ hk => hk.2) (.int .i64 t250)) (fun _ hk => hk.1)⟩, ⟨by (with_reducible repeat (first | apply Kd.R_alloc | apply Kd.R_drewN | apply Kd.R_drew)); exact Kd.R_mono (Kd.R_far (p := ⟨gb252, 2, none⟩) (Kd.R_far (p := ⟨gb252, 1, none⟩) (Kd.R_far (p := ⟨gb252, 0, none⟩) (Kd.R_types HO_17.out BK252.out (by decide)) (fun _ hk => hk.2) (.int .i64 t248)) (fun _ hk => hk.2) (.int .i64 t249)) (fun _ hk => hk.2) (.int .i64 t250)) (fun _ hk => trivial)⟩, ⟨by (with_reducible repeat (first | refine blk_drewN ?_ _ | refine blk_drew ?_ | refine blk_alloc ?_ _)); refine blk_far ?_ NB228_252.out _; (with_reducible repeat (first | refine blk_drewN ?_ _ | refine blk_drew ?_ | refine blk_alloc ?_ _)); refine blk_far ?_ NB228_252.out _; (with_reducible repeat (first | refine blk_drewN ?_ _ | refine blk_drew ?_ | refine blk_alloc ?_ _)); refine blk_far ?_ NB228_252.out _; (with_reducible repeat (first | refine blk_drewN ?_ _ | refine blk_drew ?_ | refine blk_alloc ?_ _)); exact BK228.out⟩, ⟨by (with_reducible repeat (first | refine blk_drewN ?_ _ | refine blk_drew ?_ | refine blk_alloc ?_ _)); refine blk_far ?_ NB245_252.out _; (with_reducible repeat (first | refine blk_drewN ?_ _ | refine blk_drew ?_ | refine blk_alloc ?_ _)); refine blk_far ?_ NB245_252.out _; (with_reducible repeat (first | refine blk_drewN ?_ _ | refine blk_drew ?_ | refine blk_alloc ?_ _)); refine blk_far ?_ NB245_252.out _; (with_reducible repeat (first | refine blk_drewN ?_ _ | refine blk_drew ?_ | refine blk_alloc ?_ _)); exact BK245.out⟩, ⟨by (with_reducible repeat (first | refine blk_drewN ?_ _ | refine blk_drew ?_ | refine blk_alloc ?_ _)); refine blk_put (cs := #[.int .i64 t248, .int .i64 t249, .int .i64 0]) ?_ 2 _ rfl; (with_reducible repeat (first | refine blk_drewN ?_ _ | refine blk_drew ?_ | refine blk_alloc ?_ _)); refine blk_put (cs := #[.int .i64 t248, .int .i64 0, .int .i64 0]) ?_ 1 _ rfl; (with_reducible repeat (first | refine blk_drewN ?_ _ | refine blk_drew ?_ | refine blk_alloc ?_ _)); refine blk_put (cs := #[.int .i64 0, .int .i64 0, .int .i64 0]) ?_ 0 _ rfl; (with_reducible repeat (first | refine blk_drewN ?_ _ | refine blk_drew ?_ | refine blk_alloc ?_ _)); exact BK252.out⟩, ⟨by repeat (first | (with_reducible first | exact HB.out | apply below_alloc | apply pw_below_drewN | apply below_drew1 | refine below_set ?_ GE228.out | refine below_set ?_ GE245.out | refine below_set ?_ GE252.out) | exact HB.out)⟩⟩
             ·rw [if_neg c48] at H
              have c48b0 : (!(t241 == t248) || (!(t242 == t249) || (!(t243 == t250)))) = false := by simpa using c48
              clear c48
              (first | rw [c48b0] | (simp only [i64_w, i32_w]; rw [c48b0]) | skip)
              have H' := Aside0.mk H
              clear H
              have hnb54 := NB245_228.out
              have hnc54 := NB228_245.out
              have hnb55 := NB245_252.out
              have hnc55 := NB252_245.out
              have hcz56_0 : w44.cell? ⟨gb245, 0, none⟩ = some (.int .i64 t241) := (blk_cell BK245.out 0).trans rfl
              have hcz56_1 : w44.cell? ⟨gb245, 1, none⟩ = some (.int .i64 t242) := (blk_cell BK245.out 1).trans rfl
              have hcz56_2 : w44.cell? ⟨gb245, 2, none⟩ = some (.int .i64 t243) := (blk_cell BK245.out 2).trans rfl
              have hfz56_0 := blk_frozen BK245.out 0
              have hfz56_1 := blk_frozen BK245.out 1
              have hfz56_2 := blk_frozen BK245.out 2
              have hnb57 := NB252_228.out
              have hnc57 := NB228_252.out
              have hcz58_0 : w44.cell? ⟨gb252, 0, none⟩ = some (.int .i64 0) := (blk_cell BK252.out 0).trans rfl
              have hcz58_1 : w44.cell? ⟨gb252, 1, none⟩ = some (.int .i64 0) := (blk_cell BK252.out 1).trans rfl
              have hcz58_2 : w44.cell? ⟨gb252, 2, none⟩ = some (.int .i64 0) := (blk_cell BK252.out 2).trans rfl
              have hfz58_0 := blk_frozen BK252.out 0
              have hfz58_1 := blk_frozen BK252.out 1
              have hfz58_2 := blk_frozen BK252.out 2
              go_wp2
              go_meet
              case rel => exact ⟨_, ((t244 != t251)), (by first | rfl | (simp; done) | (simp [*]; done) | exact congrArg (Value.int _) (by unfold wrap64; omega)), H', ⟨by have := HK1.out; have := HK2.out; first | omega | exact Nat.le_refl _⟩, ⟨by (with_reducible repeat (first | apply Kd.R_alloc | apply Kd.R_drewN | apply Kd.R_drew)); exact Kd.R_mono (Kd.R_far (p := ⟨gb252, 2, none⟩) (Kd.R_far (p := ⟨gb252, 1, none⟩) (Kd.R_far (p := ⟨gb252, 0, none⟩) (Kd.R_types HO_15.out BK252.out (by decide)) (fun _ hk => hk.2) (.int .i64 t248)) (fun _ hk => hk.2) (.int .i64 t249)) (fun _ hk => hk.2) (.int .i64 t250)) (fun _ hk => trivial)⟩, ⟨by (with_reducible repeat (first | apply Kd.R_alloc | apply Kd.R_drewN | apply Kd.R_drew)); exact Kd.R_mono (Kd.R_far (p := ⟨gb252, 2, none⟩) (Kd.R_far (p := ⟨gb252, 1, none⟩) (Kd.R_far (p := ⟨gb252, 0, none⟩) (Kd.R_types HO_16.out BK252.out (by decide)) (fun _ hk => hk.2) (.int .i64 t248)) (fun _ hk => hk.2) (.int .i64 t249)) (fun _ hk => hk.2) (.int .i64 t250)) (fun _ hk => hk.1)⟩, ⟨by (with_reducible repeat (first | apply Kd.R_alloc | apply Kd.R_drewN | apply Kd.R_drew)); exact Kd.R_mono (Kd.R_far (p := ⟨gb252, 2, none⟩) (Kd.R_far (p := ⟨gb252, 1, none⟩) (Kd.R_far (p := ⟨gb252, 0, none⟩) (Kd.R_types HO_17.out BK252.out (by decide)) (fun _ hk => hk.2) (.int .i64 t248)) (fun _ hk => hk.2) (.int .i64 t249)) (fun _ hk => hk.2) (.int .i64 t250)) (fun _ hk => trivial)⟩, ⟨by (with_reducible repeat (first | refine blk_drewN ?_ _ | refine blk_drew ?_ | refine blk_alloc ?_ _)); refine blk_far ?_ NB228_252.out _; (with_reducible repeat (first | refine blk_drewN ?_ _ | refine blk_drew ?_ | refine blk_alloc ?_ _)); refine blk_far ?_ NB228_252.out _; (with_reducible repeat (first | refine blk_drewN ?_ _ | refine blk_drew ?_ | refine blk_alloc ?_ _)); refine blk_far ?_ NB228_252.out _; (with_reducible repeat (first | refine blk_drewN ?_ _ | refine blk_drew ?_ | refine blk_alloc ?_ _)); exact BK228.out⟩, ⟨by (with_reducible repeat (first | refine blk_drewN ?_ _ | refine blk_drew ?_ | refine blk_alloc ?_ _)); refine blk_far ?_ NB245_252.out _; (with_reducible repeat (first | refine blk_drewN ?_ _ | refine blk_drew ?_ | refine blk_alloc ?_ _)); refine blk_far ?_ NB245_252.out _; (with_reducible repeat (first | refine blk_drewN ?_ _ | refine blk_drew ?_ | refine blk_alloc ?_ _)); refine blk_far ?_ NB245_252.out _; (with_reducible repeat (first | refine blk_drewN ?_ _ | refine blk_drew ?_ | refine blk_alloc ?_ _)); exact BK245.out⟩, ⟨by (with_reducible repeat (first | refine blk_drewN ?_ _ | refine blk_drew ?_ | refine blk_alloc ?_ _)); refine blk_put (cs := #[.int .i64 t248, .int .i64 t249, .int .i64 0]) ?_ 2 _ rfl; (with_reducible repeat (first | refine blk_drewN ?_ _ | refine blk_drew ?_ | refine blk_alloc ?_ _)); refine blk_put (cs := #[.int .i64 t248, .int .i64 0, .int .i64 0]) ?_ 1 _ rfl; (with_reducible repeat (first | refine blk_drewN ?_ _ | refine blk_drew ?_ | refine blk_alloc ?_ _)); refine blk_put (cs := #[.int .i64 0, .int .i64 0, .int .i64 0]) ?_ 0 _ rfl; (with_reducible repeat (first | refine blk_drewN ?_ _ | refine blk_drew ?_ | refine blk_alloc ?_ _)); exact BK252.out⟩, ⟨by repeat (first | (with_reducible first | exact HB.out | apply below_alloc | apply pw_below_drewN | apply below_drew1 | refine below_set ?_ GE228.out | refine below_set ?_ GE245.out | refine below_set ?_ GE252.out) | exact HB.out)⟩⟩
            case rest =>
             clear HC30
             try clear c2
             try clear p2
             try clear q2
             try clear hx2
             try clear c4
             try clear c5
             try clear p6
             try clear c20
             try clear p24
             try clear q24
             try clear hx24
             try clear c48
             try clear c48b0
             try clear c49
             try clear c50
             try clear c52
             try clear c54
             try clear c55
             try clear c57
             try clear hcz51_0
             try clear hcz51_1
             try clear hcz51_2
             try clear hcz53_0
             try clear hcz53_1
             try clear hcz53_2
             try clear hcz56_0
             try clear hcz56_1
             try clear hcz56_2
             try clear hcz58_0
             try clear hcz58_1
             try clear hcz58_2
             try clear hfz51_0
             try clear hfz51_1
             try clear hfz51_2
             try clear hfz53_0
             try clear hfz53_1
             try clear hfz53_2
             try clear hfz56_0
             try clear hfz56_1
             try clear hfz56_2
             try clear hfz58_0
             try clear hfz58_1
             try clear hfz58_2
             try clear hx246_0
             try clear hx246_1
             try clear hx246_2
             try clear hx247_0
             try clear p246
             try clear p247
             try clear q246
             try clear q247
             obtain ⟨kq, x101_29, rfl, HA, HJ29, HO_15, HO_16, HO_17, BK228, BK245, BK252, HB⟩ := hcut
             cases kq with
             | zero => exact absurd HA.out (by simp [flagstonelaw39_ScoreTells.j2])
             | succ kj29 =>
              have H := HA.out
              clear HA
              simp only [flagstonelaw39_ScoreTells.j2] at H
              by_cases c59 : x101_29 = true
              ·subst c59
               have H1 : (some false) = some r := by rw [if_pos rfl] at H; exact H
               clear H
               have H := H1
               clear H1
               obtain rfl := Option.some.inj H
               go_wp2
               go_ret
               exact ⟨by first | rfl | (simp [errW_none, errW_some] <;> rfl) | (simp [*, errW_none, errW_some] <;> rfl), by repeat (first | (with_reducible first | exact HB.out | apply below_alloc | apply pw_below_drewN | apply below_drew1 | refine below_set ?_ GE228.out | refine below_set ?_ GE245.out | refine below_set ?_ GE252.out) | exact HB.out)⟩
              ·replace c59 := Bool.eq_false_iff.mpr c59
               subst c59
               have H1 : (flagstonelaw39_ScoreTells.l2 kj29 a4 a6 t230 y233 y236 x18_1 x19_2 0) = some r := by rw [if_neg (show ¬ (false = true) by decide)] at H; exact H
               clear H
               have H := H1
               clear H1
               have H' := Aside0.mk H
               clear H
               go_wp2
               go_loopg [24] kj29 (fun kq v24 w' => ∃ (x24_4 : Int) (x246000_4 : Int) (x246001_4 : Int) (x246002_4 : Int) (x253000_4 : Int) (x253001_4 : Int) (x253002_4 : Int), v24 = .int .i64 x24_4 ∧ Aside0 (flagstonelaw39_ScoreTells.l2 kq a4 a6 t230 y233 y236 x18_1 x19_2 x24_4 = some r) ∧ Aside0 (kq ≤ kj29) ∧ Aside0 (Kd.R k34 34 w' w.heap.size (fun _ => True) (.slice Ao32 t230.length co32) t230) ∧ Aside0 (Kd.R k42 42 w' w.heap.size (fun k_ => k_ ≠ gb228) (.slice (some ad239) y233.length co23) y233) ∧ Aside0 (Kd.R (Kd.int .i64) 3 w' w.heap.size (fun _ => True) (.slice (some ad240) y236.length co31) y236) ∧ Aside0 (w'.heap[gb228]? = some (.cells #[.int .i64 a1_0, .int .i64 a1_1, .int .i64 a1_2] 42 (0, 0))) ∧ Aside0 (w'.heap[gb245]? = some (.cells #[.int .i64 x246000_4, .int .i64 x246001_4, .int .i64 x246002_4] 37 (0, 0))) ∧ Aside0 (w'.heap[gb252]? = some (.cells #[.int .i64 x253000_4, .int .i64 x253001_4, .int .i64 x253002_4] 37 (0, 0))) ∧ Aside0 (Below w.heap.size w w'))
               case atStart => exact ⟨(0), (t241), (t242), (t243), (t248), (t249), (t250), (by first | rfl | (simp; done) | (simp [*]; done) | exact congrArg (Value.int _) (by unfold wrap64; omega)), H', ⟨Nat.le_refl _⟩, ⟨by (with_reducible repeat (first | apply Kd.R_alloc | apply Kd.R_drewN | apply Kd.R_drew)); exact HO_15.out⟩, ⟨by (with_reducible repeat (first | apply Kd.R_alloc | apply Kd.R_drewN | apply Kd.R_drew)); exact HO_16.out⟩, ⟨by (with_reducible repeat (first | apply Kd.R_alloc | apply Kd.R_drewN | apply Kd.R_drew)); exact HO_17.out⟩, ⟨by (with_reducible repeat (first | refine blk_drewN ?_ _ | refine blk_drew ?_ | refine blk_alloc ?_ _)); exact BK228.out⟩, ⟨by (with_reducible repeat (first | refine blk_drewN ?_ _ | refine blk_drew ?_ | refine blk_alloc ?_ _)); exact BK245.out⟩, ⟨by (with_reducible repeat (first | refine blk_drewN ?_ _ | refine blk_drew ?_ | refine blk_alloc ?_ _)); exact BK252.out⟩, ⟨by repeat (first | (with_reducible first | exact HB.out | apply below_alloc | apply pw_below_drewN | apply below_drew1 | refine below_set ?_ GE228.out | refine below_set ?_ GE245.out | refine below_set ?_ GE252.out) | exact HB.out)⟩⟩
               case round =>
                clear H'
                try clear c2
                try clear p2
                try clear q2
                try clear hx2
                try clear c4
                try clear c5
                try clear p6
                try clear c20
                try clear p24
                try clear q24
                try clear hx24
                try clear c48
                try clear c48b0
                try clear c49
                try clear c50
                try clear c52
                try clear c54
                try clear c55
                try clear c57
                try clear c59
                try clear hcz51_0
                try clear hcz51_1
                try clear hcz51_2
                try clear hcz53_0
                try clear hcz53_1
                try clear hcz53_2
                try clear hcz56_0
                try clear hcz56_1
                try clear hcz56_2
                try clear hcz58_0
                try clear hcz58_1
                try clear hcz58_2
                try clear hfz51_0
                try clear hfz51_1
                try clear hfz51_2
                try clear hfz53_0
                try clear hfz53_1
                try clear hfz53_2
                try clear hfz56_0
                try clear hfz56_1
                try clear hfz56_2
                try clear hfz58_0
                try clear hfz58_1
                try clear hfz58_2
                try clear hx246_0
                try clear hx246_1
                try clear hx246_2
                try clear hx247_0
                try clear p2
                try clear p24
                try clear p246
                try clear p247
                try clear p6
                try clear q2
                try clear q24
                try clear q246
                try clear q247
                obtain ⟨x24_4, x246000_4, x246001_4, x246002_4, x253000_4, x253001_4, x253002_4, rfl, HA, HK4, HO_15, HO_16, HO_17, BK228, BK245, BK252, HB⟩ := hrel
                cases gk with
                | zero => exact absurd HA.out (by simp [flagstonelaw39_ScoreTells.l2])
                | succ k4 =>
                 have H := HA.out
                 clear HA
                 simp only [flagstonelaw39_ScoreTells.l2] at H
                 have HC60 := Aside0.mk H
                 clear H
                 go_upto_region 19 with (fail)
                 go_cut [109] (fun v109 wc => ∃ (kq : Nat) (x109_59 : Bool), v109 = .bool x109_59 ∧ Aside0 (flagstonelaw39_ScoreTells.j4 kq a4 a6 t230 y233 y236 x18_1 x19_2 x24_4 x109_59 = some r) ∧ Aside0 (kq ≤ k4) ∧ Aside0 (Kd.R k34 34 wc w.heap.size (fun _ => True) (.slice Ao32 t230.length co32) t230) ∧ Aside0 (Kd.R k42 42 wc w.heap.size (fun k_ => k_ ≠ gb228) (.slice (some ad239) y233.length co23) y233) ∧ Aside0 (Kd.R (Kd.int .i64) 3 wc w.heap.size (fun _ => True) (.slice (some ad240) y236.length co31) y236) ∧ Aside0 (wc.heap[gb228]? = some (.cells #[.int .i64 a1_0, .int .i64 a1_1, .int .i64 a1_2] 42 (0, 0))) ∧ Aside0 (wc.heap[gb245]? = some (.cells #[.int .i64 x246000_4, .int .i64 x246001_4, .int .i64 x246002_4] 37 (0, 0))) ∧ Aside0 (wc.heap[gb252]? = some (.cells #[.int .i64 x253000_4, .int .i64 x253001_4, .int .i64 x253002_4] 37 (0, 0))) ∧ Aside0 (Below w.heap.size w wc))
                 case first =>
                  have H := HC60.out
                  clear HC60
                  by_cases c61 : x24_4 < (t230.length : Int)
                  ·rw [if_pos c61] at H
                   have c61b0 : decide (x24_4 < (t230.length : Int)) = true := decide_eq_true c61
                   clear c61
                   (first | rw [c61b0] | (simp only [i64_w, i32_w]; rw [c61b0]) | skip)
                   have H' := Aside0.mk H
                   clear H
                   go_wp2
                   go_meet
                   case rel => exact ⟨_, (decide (x19_2 < 3)), (by first | rfl | (simp; done) | (simp [*]; done) | exact congrArg (Value.int _) (by unfold wrap64; omega)), H', ⟨by have := HK1.out; have := HK2.out; have := HJ29.out; have := HK4.out; first | omega | exact Nat.le_refl _⟩, ⟨by (with_reducible repeat (first | apply Kd.R_alloc | apply Kd.R_drewN | apply Kd.R_drew)); exact HO_15.out⟩, ⟨by (with_reducible repeat (first | apply Kd.R_alloc | apply Kd.R_drewN | apply Kd.R_drew)); exact HO_16.out⟩, ⟨by (with_reducible repeat (first | apply Kd.R_alloc | apply Kd.R_drewN | apply Kd.R_drew)); exact HO_17.out⟩, ⟨by (with_reducible repeat (first | refine blk_drewN ?_ _ | refine blk_drew ?_ | refine blk_alloc ?_ _)); exact BK228.out⟩, ⟨by (with_reducible repeat (first | refine blk_drewN ?_ _ | refine blk_drew ?_ | refine blk_alloc ?_ _)); exact BK245.out⟩, ⟨by (with_reducible repeat (first | refine blk_drewN ?_ _ | refine blk_drew ?_ | refine blk_alloc ?_ _)); exact BK252.out⟩, ⟨by repeat (first | (with_reducible first | exact HB.out | apply below_alloc | apply pw_below_drewN | apply below_drew1 | refine below_set ?_ GE228.out | refine below_set ?_ GE245.out | refine below_set ?_ GE252.out) | exact HB.out)⟩⟩
                  ·rw [if_neg c61] at H
                   have c61b0 : decide (x24_4 < (t230.length : Int)) = false := decide_eq_false c61
                   clear c61
                   (first | rw [c61b0] | (simp only [i64_w, i32_w]; rw [c61b0]) | skip)
                   have H' := Aside0.mk H
                   clear H
                   go_wp2
                   go_meet
                   case rel => exact ⟨_, (false), (by first | rfl | (simp; done) | (simp [*]; done) | exact congrArg (Value.int _) (by unfold wrap64; omega)), H', ⟨by have := HK1.out; have := HK2.out; have := HJ29.out; have := HK4.out; first | omega | exact Nat.le_refl _⟩, ⟨by (with_reducible repeat (first | apply Kd.R_alloc | apply Kd.R_drewN | apply Kd.R_drew)); exact HO_15.out⟩, ⟨by (with_reducible repeat (first | apply Kd.R_alloc | apply Kd.R_drewN | apply Kd.R_drew)); exact HO_16.out⟩, ⟨by (with_reducible repeat (first | apply Kd.R_alloc | apply Kd.R_drewN | apply Kd.R_drew)); exact HO_17.out⟩, ⟨by (with_reducible repeat (first | refine blk_drewN ?_ _ | refine blk_drew ?_ | refine blk_alloc ?_ _)); exact BK228.out⟩, ⟨by (with_reducible repeat (first | refine blk_drewN ?_ _ | refine blk_drew ?_ | refine blk_alloc ?_ _)); exact BK245.out⟩, ⟨by (with_reducible repeat (first | refine blk_drewN ?_ _ | refine blk_drew ?_ | refine blk_alloc ?_ _)); exact BK252.out⟩, ⟨by repeat (first | (with_reducible first | exact HB.out | apply below_alloc | apply pw_below_drewN | apply below_drew1 | refine below_set ?_ GE228.out | refine below_set ?_ GE245.out | refine below_set ?_ GE252.out) | exact HB.out)⟩⟩
                 case rest =>
                  clear HC60
                  try clear c2
                  try clear p2
                  try clear q2
                  try clear hx2
                  try clear c4
                  try clear c5
                  try clear c6
                  try clear p6
                  try clear c20
                  try clear p24
                  try clear q24
                  try clear hx24
                  try clear c48
                  try clear c48b0
                  try clear c49
                  try clear c50
                  try clear c52
                  try clear c54
                  try clear c55
                  try clear c57
                  try clear c59
                  try clear c61
                  try clear c61b0
                  try clear hcz51_0
                  try clear hcz51_1
                  try clear hcz51_2
                  try clear hcz53_0
                  try clear hcz53_1
                  try clear hcz53_2
                  try clear hcz56_0
                  try clear hcz56_1
                  try clear hcz56_2
                  try clear hcz58_0
                  try clear hcz58_1
                  try clear hcz58_2
                  try clear hfz51_0
                  try clear hfz51_1
                  try clear hfz51_2
                  try clear hfz53_0
                  try clear hfz53_1
                  try clear hfz53_2
                  try clear hfz56_0
                  try clear hfz56_1
                  try clear hfz56_2
                  try clear hfz58_0
                  try clear hfz58_1
                  try clear hfz58_2
                  try clear hx246_0
                  try clear hx246_1
                  try clear hx246_2
                  try clear hx247_0
                  try clear p2
                  try clear p24
                  try clear p246
                  try clear p247
                  try clear p6
                  try clear q2
                  try clear q24
                  try clear q246
                  try clear q247
                  obtain ⟨kq, x109_59, rfl, HA, HJ59, HO_15, HO_16, HO_17, BK228, BK245, BK252, HB⟩ := hcut
                  cases kq with
                  | zero => exact absurd HA.out (by simp [flagstonelaw39_ScoreTells.j4])
                  | succ kj59 =>
                   have H := HA.out
                   clear HA
                   simp only [flagstonelaw39_ScoreTells.j4] at H
                   by_cases c62 : x109_59 = true
                   ·subst c62
                    have H1 : (if 0 ≤ x18_1 then (if x18_1 < (y233.length : Int) then (if 0 ≤ x19_2 then (if x19_2 < (y236.length : Int) then ((score_Of.f kj59 t230 x24_4 ((rd_T42 y233 x18_1).f0) ((rd_T42 y233 x18_1).f1) ((rd_T42 y233 x18_1).f2) (rd y236 x19_2) a6).bind fun bt255 => ((flagstoneref39_Of.f kj59 t230 x24_4 ((rd_T42 y233 x18_1).f0) ((rd_T42 y233 x18_1).f1) ((rd_T42 y233 x18_1).f2) (rd y236 x19_2) a6).bind fun bt261 => (if (!(bt255.1 == bt261.1) || (!(bt255.2.1 == bt261.2.1) || (!(bt255.2.2.1 == bt261.2.2.1)))) = true then (flagstonelaw39_ScoreTells.j5 kj59 a4 a6 t230 y233 y236 x18_1 x19_2 x24_4 true) else (if (bt255.2.2.2 != bt261.2.2.2) = true then (flagstonelaw39_ScoreTells.j5 kj59 a4 a6 t230 y233 y236 x18_1 x19_2 x24_4 true) else (if bt255.2.2.2 = true then ((score_Valid.f bt255.1 bt255.2.1 bt255.2.2.1).bind fun t265 => (flagstonelaw39_ScoreTells.j5 kj59 a4 a6 t230 y233 y236 x18_1 x19_2 x24_4 (!t265))) else (flagstonelaw39_ScoreTells.j5 kj59 a4 a6 t230 y233 y236 x18_1 x19_2 x24_4 false)))))) else (none)) else (none)) else (none)) else (none)) = some r := by rw [if_pos rfl] at H; exact H
                    clear H
                    have H := H1
                    clear H1
                    by_cases c63 : 0 ≤ x18_1
                    ·rw [if_pos c63] at H
                     have c63b0 : decide (0 ≤ x18_1) = true := decide_eq_true c63
                     clear c63
                     by_cases c64 : x18_1 < (y233.length : Int)
                     ·rw [if_pos c64] at H
                      have c64b0 : decide (x18_1 < (y233.length : Int)) = true := decide_eq_true c64
                      clear c64
                      by_cases c65 : 0 ≤ x19_2
                      ·rw [if_pos c65] at H
                       have c65b0 : decide (0 ≤ x19_2) = true := decide_eq_true c65
                       clear c65
                       by_cases c66 : x19_2 < (y236.length : Int)
                       ·rw [if_pos c66] at H
                        have c66b0 : decide (x19_2 < (y236.length : Int)) = true := decide_eq_true c66
                        clear c66
                        replace H := Option.bind_eq_some_iff.mp H
                        obtain ⟨⟨t255, t256, t257, t258⟩, A670, H⟩ := H
                        replace H : ((flagstoneref39_Of.f kj59 t230 x24_4 ((rd_T42 y233 x18_1).f0) ((rd_T42 y233 x18_1).f1) ((rd_T42 y233 x18_1).f2) (rd y236 x19_2) a6).bind fun bt261 => (if (!(t255 == bt261.1) || (!(t256 == bt261.2.1) || (!(t257 == bt261.2.2.1)))) = true then (flagstonelaw39_ScoreTells.j5 kj59 a4 a6 t230 y233 y236 x18_1 x19_2 x24_4 true) else (if (t258 != bt261.2.2.2) = true then (flagstonelaw39_ScoreTells.j5 kj59 a4 a6 t230 y233 y236 x18_1 x19_2 x24_4 true) else (if t258 = true then ((score_Valid.f t255 t256 t257).bind fun t265 => (flagstonelaw39_ScoreTells.j5 kj59 a4 a6 t230 y233 y236 x18_1 x19_2 x24_4 (!t265))) else (flagstonelaw39_ScoreTells.j5 kj59 a4 a6 t230 y233 y236 x18_1 x19_2 x24_4 false))))) = some r := H
                        have A67 := Aside0.mk A670
                        clear A670
                        replace H := Option.bind_eq_some_iff.mp H
                        obtain ⟨⟨t261, t262, t263, t264⟩, A680, H⟩ := H
                        replace H : (if (!(t255 == t261) || (!(t256 == t262) || (!(t257 == t263)))) = true then (flagstonelaw39_ScoreTells.j5 kj59 a4 a6 t230 y233 y236 x18_1 x19_2 x24_4 true) else (if (t258 != t264) = true then (flagstonelaw39_ScoreTells.j5 kj59 a4 a6 t230 y233 y236 x18_1 x19_2 x24_4 true) else (if t258 = true then ((score_Valid.f t255 t256 t257).bind fun t265 => (flagstonelaw39_ScoreTells.j5 kj59 a4 a6 t230 y233 y236 x18_1 x19_2 x24_4 (!t265))) else (flagstonelaw39_ScoreTells.j5 kj59 a4 a6 t230 y233 y236 x18_1 x19_2 x24_4 false)))) = some r := H
                        have A68 := Aside0.mk A680
                        clear A680
                        have HC69 := Aside0.mk H
                        clear H
                        try go_wp2
                        have n0_ := Aside0.mk (Kd.R_drew HO_15.out)
                        have n1_ := Aside0.mk (Kd.R_drew HO_16.out)
                        have n2_ := Aside0.mk (Kd.R_drew HO_17.out)
                        have n3_ := Aside0.mk (blk_drew BK228.out)
                        have n4_ := Aside0.mk (blk_drew BK245.out)
                        have n5_ := Aside0.mk (blk_drew BK252.out)
                        have n6_ := Aside0.mk (below_drew1 HB.out)
                        clear HO_15
                        clear HO_16
                        clear HO_17
                        clear BK228
                        clear BK245
                        clear BK252
                        clear HB
                        have HO_15 := n0_
                        have HO_16 := n1_
                        have HO_17 := n2_
                        have BK228 := n3_
                        have BK245 := n4_
                        have BK252 := n5_
                        have HB := n6_
                        clear n0_ n1_ n2_ n3_ n4_ n5_ n6_
                        have p253 : 0 ≤ (x18_1 : Int) := of_decide_eq_true (by first | (with_reducible assumption) | assumption)
                        have q253 : x18_1 < (y233.length : Int) := of_decide_eq_true (by first | (with_reducible assumption) | assumption)
                        obtain ⟨ad253, e253, hx253_0, hx253_1, hx253_2⟩ := at_T42 (Kd.R_reads' HO_16.out).2.2 x18_1 p253 q253
                        obtain rfl : ad239 = ad253 := (by injection e253)
                        replace p253 := eq_true p253
                        replace q253 := eq_true q253
                        have p254 : 0 ≤ (x19_2 : Int) := of_decide_eq_true (by first | (with_reducible assumption) | assumption)
                        have q254 : x19_2 < (y236.length : Int) := of_decide_eq_true (by first | (with_reducible assumption) | assumption)
                        obtain ⟨ad254, e254, hx254_0⟩ := Kd.at_int (Kd.R_reads' HO_17.out).2.2 x19_2 p254 q254
                        obtain rfl : ad240 = ad254 := (by injection e254)
                        replace p254 := eq_true p254
                        replace q254 := eq_true q254
                        refine start_ (n := 17) (S := fun w' => w'.cell? (ad239.add ((x18_1).toNat * 3)) = some (.int .i64 ((rd_T42 y233 x18_1).f0)) ∧ w'.cell? ⟨(ad239.add ((x18_1).toNat * 3)).block, (ad239.add ((x18_1).toNat * 3)).off + 1, none⟩ = some (.int .i64 ((rd_T42 y233 x18_1).f1)) ∧ w'.cell? ⟨(ad239.add ((x18_1).toNat * 3)).block, (ad239.add ((x18_1).toNat * 3)).off + 2, none⟩ = some (.int .i64 ((rd_T42 y233 x18_1).f2)) ∧ w'.cell? (ad240.add (x19_2).toNat) = some (.int .i64 (rd y236 x19_2))) (ds := []) #[false, false, false, false, false, false, false, false, false, false, false, false, false, false, false, false, false] (by kernel_rfl) rfl rfl ⟨hx253_0, hx253_1, hx253_2, hx254_0⟩ (fun hHeld => ?_); refine with_tabW flagstonelaw39_ScoreTells.tab21 flagstonelaw39_ScoreTells.bits21 (fun HT_ HW_ => ?_)
                        generalize wc.drew = w70 at HO_15 HO_16 HO_17 BK228 BK245 BK252 HB hx253_0 hx253_1 hx253_2 hx254_0 hHeld ⊢
                        refine pure_ (i := 0) (N := some 113) (v := ?_) (a' := ?_) #[true, false, false, false, false, false, false, false, false, false, false, false, false, false, false, false, false] rfl rfl (any_of HT_.out (by kernel_rfl)) (fun _ _ _ h => h) (Or.inl ⟨by rfl, ?_⟩) ?_ ?_
                        rotate_left
                        ·intro w'
                         go_simp
                         with_reducible rfl
                        rotate_left
                        ·simp only [Act.put, List.setIfInBounds_toArray, List.set_cons_zero, List.set_cons_succ, i64_w, i32_w]
                         rfl
                        refine pure_ (i := 1) (N := some 114) (v := ?_) (a' := ?_) #[true, true, false, false, false, false, false, false, false, false, false, false, false, false, false, false, false] rfl rfl (any_of HT_.out (by kernel_rfl)) (fun _ _ _ h => h) (Or.inl ⟨by rfl, ?_⟩) ?_ ?_
                        rotate_left
                        ·intro w'
                         go_simp
                         with_reducible rfl
                        rotate_left
                        ·simp only [Act.put, List.setIfInBounds_toArray, List.set_cons_zero, List.set_cons_succ, i64_w, i32_w]
                         rfl
                        refine pure_ (i := 2) (N := some 115) (v := ?_) (a' := ?_) #[true, true, true, false, false, false, false, false, false, false, false, false, false, false, false, false, false] rfl rfl (any_of HT_.out (by kernel_rfl)) (fun _ _ _ h => h) (Or.inl ⟨by rfl, ?_⟩) ?_ ?_
                        rotate_left
                        ·intro w'
                         go_simp
                         with_reducible rfl
                        rotate_left
                        ·simp only [Act.put, List.setIfInBounds_toArray, List.set_cons_zero, List.set_cons_succ, i64_w, i32_w]
                         rfl
                        refine pure_ (i := 3) (N := some 116) (v := ?_) (a' := ?_) #[true, true, true, true, false, false, false, false, false, false, false, false, false, false, false, false, false] rfl rfl (any_of HT_.out (by kernel_rfl)) (fun _ _ _ h => h) (Or.inl ⟨by rfl, ?_⟩) ?_ ?_
                        rotate_left
                        ·intro w'
                         go_simp
                         with_reducible rfl
                        rotate_left
                        ·simp only [Act.put, List.setIfInBounds_toArray, List.set_cons_zero, List.set_cons_succ, i64_w, i32_w]
                         rfl
                        refine pure_ (i := 4) (N := some 117) (v := ?_) (a' := ?_) #[true, true, true, true, true, false, false, false, false, false, false, false, false, false, false, false, false] rfl rfl (any_of HT_.out (by kernel_rfl)) (fun _ _ _ h => h) (Or.inl ⟨by rfl, ?_⟩) ?_ ?_
                        rotate_left
                        ·intro w'
                         go_simp
                         with_reducible rfl
                        rotate_left
                        ·simp only [Act.put, List.setIfInBounds_toArray, List.set_cons_zero, List.set_cons_succ, i64_w, i32_w]
                         rfl
                        refine pure_ (i := 6) (N := some 119) (v := ?_) (a' := ?_) #[true, true, true, true, true, false, true, false, false, false, false, false, false, false, false, false, false] rfl rfl (any_of HT_.out (by kernel_rfl)) (fun _ _ _ h => h) (Or.inl ⟨by rfl, ?_⟩) ?_ ?_
                        rotate_left
                        ·intro w'
                         go_simp
                         with_reducible rfl
                        rotate_left
                        ·simp only [Act.put, List.setIfInBounds_toArray, List.set_cons_zero, List.set_cons_succ, i64_w, i32_w]
                         rfl
                        refine pure_ (i := 7) (N := some 120) (v := ?_) (a' := ?_) #[true, true, true, true, true, false, true, true, false, false, false, false, false, false, false, false, false] rfl rfl (any_of HT_.out (by kernel_rfl)) (fun _ _ _ h => h) (Or.inl ⟨by rfl, ?_⟩) ?_ ?_
                        rotate_left
                        ·intro w'
                         go_simp
                         with_reducible rfl
                        rotate_left
                        ·simp only [Act.put, List.setIfInBounds_toArray, List.set_cons_zero, List.set_cons_succ, i64_w, i32_w]
                         rfl
                        refine pure_ (i := 8) (N := some 121) (v := ?_) (a' := ?_) #[true, true, true, true, true, false, true, true, true, false, false, false, false, false, false, false, false] rfl rfl (any_of HT_.out (by kernel_rfl)) (fun _ _ _ h => h) (Or.inl ⟨by rfl, ?_⟩) ?_ ?_
                        rotate_left
                        ·intro w'
                         go_simp
                         with_reducible rfl
                        rotate_left
                        ·simp only [Act.put, List.setIfInBounds_toArray, List.set_cons_zero, List.set_cons_succ, i64_w, i32_w]
                         rfl
                        refine pure_ (i := 10) (N := some 123) (v := ?_) (a' := ?_) #[true, true, true, true, true, false, true, true, true, false, true, false, false, false, false, false, false] rfl rfl (any_of HT_.out (by kernel_rfl)) (fun _ _ _ h => h) (Or.inl ⟨by rfl, ?_⟩) ?_ ?_
                        rotate_left
                        ·intro w'
                         go_simp
                         with_reducible rfl
                        rotate_left
                        ·simp only [Act.put, List.setIfInBounds_toArray, List.set_cons_zero, List.set_cons_succ, i64_w, i32_w]
                         rfl
                        refine take_ (i := 5) (N := some 118) (v := ?_) (a' := ?_) #[true, true, true, true, true, true, true, true, true, false, true, false, false, false, false, false, false] rfl rfl (take_ofW HT_.out HW_.out (by kernel_rfl)) (fun _ _ _ h => h) (Or.inl ⟨by rfl, ?_⟩) hHeld ?_ ?_
                        rotate_left
                        ·rintro w' ⟨s0, s1, s2, s3⟩
                         go_simp
                         with_reducible rfl
                        rotate_left
                        ·simp only [Act.put, List.setIfInBounds_toArray, List.set_cons_zero, List.set_cons_succ, i64_w, i32_w]
                         rfl
                        refine take_ (i := 9) (N := some 122) (v := ?_) (a' := ?_) #[true, true, true, true, true, true, true, true, true, true, true, false, false, false, false, false, false] rfl rfl (take_ofW HT_.out HW_.out (by kernel_rfl)) (fun _ _ _ h => h) (Or.inl ⟨by rfl, ?_⟩) hHeld ?_ ?_
                        rotate_left
                        ·rintro w' ⟨s0, s1, s2, s3⟩
                         go_simp
                         with_reducible rfl
                        rotate_left
                        ·simp only [Act.put, List.setIfInBounds_toArray, List.set_cons_zero, List.set_cons_succ, i64_w, i32_w]
                         rfl
                        refine one_ (i := 11) (N := some 124) #[true, true, true, true, true, true, true, true, true, true, true, true, false, false, false, false, false] rfl rfl (one_of HT_.out (by kernel_rfl)) (by decide) (fun K hK => ?_)
                        refine goes_ Try.func19 (by kernel_rfl) rfl #[.slice Ao32 t230.length co32, .int .i64 x24_4, .agg #[.int .i64 ((rd_T42 y233 x18_1).f0), .int .i64 ((rd_T42 y233 x18_1).f1), .int .i64 ((rd_T42 y233 x18_1).f2)], .int .i64 (rd y236 x19_2), .bool a6] (by rfl) rfl rfl (by (try simp only [List.map_toArray, List.map_cons, List.map_nil]); first | done | rfl | (simp only [List.length_drop, List.length_take]; rfl)) ?_
                        with_reducible refine (score_Of.calls kj59 _ _ t230 x24_4 ((rd_T42 y233 x18_1).f0) ((rd_T42 y233 x18_1).f1) ((rd_T42 y233 x18_1).f2) (rd y236 x19_2) a6 t255 t256 t257 t258 _ ?side1 ?side2 A67.out).mono ?_
                        (case side1 => repeat (first | exact (Kd.R_reads' HO_15.out).2.2 | (with_reducible refine Kd.C_alloc ?_ _) | (with_reducible refine Kd.C_drewN ?_ _) | (with_reducible refine Kd.C_drew ?_)))
                        (case side2 => exact (Kd.R_reads' HO_15.out).2.1)
                        rintro e w71 ⟨rfl, hb⟩
                        have HS0_ := (hb.cell (World.block_lt_of_cell? _ _ (hHeld.1))).trans (hHeld.1)
                        have HS1_ := (hb.cell (World.block_lt_of_cell? _ _ (hHeld.2.1))).trans (hHeld.2.1)
                        have HS2_ := (hb.cell (World.block_lt_of_cell? _ _ (hHeld.2.2.1))).trans (hHeld.2.2.1)
                        have HS3_ := (hb.cell (World.block_lt_of_cell? _ _ (hHeld.2.2.2))).trans (hHeld.2.2.2)
                        refine ⟨_, rfl, ?_⟩
                        have n0_ := Aside0.mk (Kd.R_below (by (with_reducible repeat (first | apply Kd.R_alloc | apply Kd.R_drewN | apply Kd.R_drew)); exact HO_15.out) hb)
                        have n1_ := Aside0.mk (Kd.R_below (by (with_reducible repeat (first | apply Kd.R_alloc | apply Kd.R_drewN | apply Kd.R_drew)); exact HO_16.out) hb)
                        have n2_ := Aside0.mk (Kd.R_below (by (with_reducible repeat (first | apply Kd.R_alloc | apply Kd.R_drewN | apply Kd.R_drew)); exact HO_17.out) hb)
                        have n3_ := Aside0.mk (blk_below (g := gb228) (o := .cells #[.int .i64 a1_0, .int .i64 a1_1, .int .i64 a1_2] 42 (0, 0)) (by (with_reducible repeat (first | refine blk_drewN ?_ _ | refine blk_drew ?_ | refine blk_alloc ?_ _)); exact BK228.out) hb)
                        have n4_ := Aside0.mk (blk_below (g := gb245) (o := .cells #[.int .i64 x246000_4, .int .i64 x246001_4, .int .i64 x246002_4] 37 (0, 0)) (by (with_reducible repeat (first | refine blk_drewN ?_ _ | refine blk_drew ?_ | refine blk_alloc ?_ _)); exact BK245.out) hb)
                        have n5_ := Aside0.mk (blk_below (g := gb252) (o := .cells #[.int .i64 x253000_4, .int .i64 x253001_4, .int .i64 x253002_4] 37 (0, 0)) (by (with_reducible repeat (first | refine blk_drewN ?_ _ | refine blk_drew ?_ | refine blk_alloc ?_ _)); exact BK252.out) hb)
                        have n6_ := Aside0.mk (below_step (by repeat (first | (with_reducible first | exact HB.out | apply below_alloc | apply pw_below_drewN | apply below_drew1 | refine below_set ?_ GE228.out | refine below_set ?_ GE245.out | refine below_set ?_ GE252.out) | exact HB.out)) hb)
                        clear HO_15
                        clear HO_16
                        clear HO_17
                        clear BK228
                        clear BK245
                        clear BK252
                        clear HB
                        have HO_15 := n0_
                        have HO_16 := n1_
                        have HO_17 := n2_
                        have BK228 := n3_
                        have BK245 := n4_
                        have BK252 := n5_
                        have HB := n6_
                        clear n0_ n1_ n2_ n3_ n4_ n5_ n6_
                        (try clear hb)
                        (try clear hb2)
                        (try clear hk)
                        (try clear hi)
                        refine hK.out _ _ ⟨HS0_, HS1_, HS2_, HS3_⟩ (fun hHeld => ?_)
                        clear hK K
                        refine norm_ (a' := ?_) ?_ ?_
                        rotate_left
                        ·show Act.put _ (some 124) _ = _
                         simp only [Act.put, List.setIfInBounds_toArray, List.set_cons_zero, List.set_cons_succ, i64_w, i32_w]
                         rfl
                        refine pure_ (i := 12) (N := some 112) (v := ?_) (a' := ?_) #[true, true, true, true, true, true, true, true, true, true, true, true, true, false, false, false, false] rfl rfl (any_of HT_.out (by kernel_rfl)) (fun _ _ _ h => h) (Or.inl ⟨by rfl, ?_⟩) ?_ ?_
                        rotate_left
                        ·intro w'
                         go_simp
                         with_reducible rfl
                        rotate_left
                        ·simp only [Act.put, List.setIfInBounds_toArray, List.set_cons_zero, List.set_cons_succ, i64_w, i32_w]
                         rfl
                        refine pure_ (i := 13) (N := some 125) (v := ?_) (a' := ?_) #[true, true, true, true, true, true, true, true, true, true, true, true, true, true, false, false, false] rfl rfl (any_of HT_.out (by kernel_rfl)) (fun _ _ _ h => h) (Or.inl ⟨by rfl, ?_⟩) ?_ ?_
                        rotate_left
                        ·intro w'
                         go_simp
                         with_reducible rfl
                        rotate_left
                        ·simp only [Act.put, List.setIfInBounds_toArray, List.set_cons_zero, List.set_cons_succ, i64_w, i32_w]
                         rfl
                        refine pure_ (i := 14) (N := some 126) (v := ?_) (a' := ?_) #[true, true, true, true, true, true, true, true, true, true, true, true, true, true, true, false, false] rfl rfl (any_of HT_.out (by kernel_rfl)) (fun _ _ _ h => h) (Or.inl ⟨by rfl, ?_⟩) ?_ ?_
                        rotate_left
                        ·intro w'
                         go_simp
                         with_reducible rfl
                        rotate_left
                        ·simp only [Act.put, List.setIfInBounds_toArray, List.set_cons_zero, List.set_cons_succ, i64_w, i32_w]
                         rfl
                        refine one_ (i := 15) (N := none) #[true, true, true, true, true, true, true, true, true, true, true, true, true, true, true, true, false] rfl rfl (one_of HT_.out (by kernel_rfl)) (by decide) (fun K hK => ?_)
                        have hs72 : w71.cell? ⟨gb245, 0, none⟩ = some (.int .i64 x246000_4) := (blk_cell BK245.out 0).trans rfl
                        have hfs72 := blk_frozen BK245.out 0
                        have hns72_0 := NB228_245.out
                        have hns72_2 := NB252_245.out
                        have hms72_0 := NB245_228.out
                        have hms72_2 := NB245_252.out
                        have hs73 : w71.cell? ⟨gb245, 1, none⟩ = some (.int .i64 x246001_4) := (blk_cell BK245.out 1).trans rfl
                        have hfs73 := blk_frozen BK245.out 1
                        have hns73_0 := NB228_245.out
                        have hns73_2 := NB252_245.out
                        have hms73_0 := NB245_228.out
                        have hms73_2 := NB245_252.out
                        have hs74 : w71.cell? ⟨gb245, 2, none⟩ = some (.int .i64 x246002_4) := (blk_cell BK245.out 2).trans rfl
                        have hfs74 := blk_frozen BK245.out 2
                        have hns74_0 := NB228_245.out
                        have hns74_2 := NB252_245.out
                        have hms74_0 := NB245_228.out
                        have hms74_2 := NB245_252.out
                        refine skip_ (w1 := ?_) (by rfl) rfl ?_ ?_
                        rotate_left
                        ·go_simp
                         rfl
                        refine hK.out _ _ ⟨((cell_far (p := ⟨gb245, _, none⟩) (by first | exact Kd.own_blk (Kd.R_ne HO_16.out BK245.out (by decide)) | (rw [add_block]; exact Kd.own_blk (Kd.R_ne HO_16.out BK245.out (by decide))) | (show (Addr.add _ _).block ≠ _; rw [add_block]; exact Kd.own_blk (Kd.R_ne HO_16.out BK245.out (by decide))) | (dsimp only; exact Kd.own_blk (Kd.R_ne HO_16.out BK245.out (by decide)))) _).trans (((cell_far (p := ⟨gb245, _, none⟩) (by first | exact Kd.own_blk (Kd.R_ne HO_16.out BK245.out (by decide)) | (rw [add_block]; exact Kd.own_blk (Kd.R_ne HO_16.out BK245.out (by decide))) | (show (Addr.add _ _).block ≠ _; rw [add_block]; exact Kd.own_blk (Kd.R_ne HO_16.out BK245.out (by decide))) | (dsimp only; exact Kd.own_blk (Kd.R_ne HO_16.out BK245.out (by decide)))) _).trans (((cell_far (p := ⟨gb245, _, none⟩) (by first | exact Kd.own_blk (Kd.R_ne HO_16.out BK245.out (by decide)) | (rw [add_block]; exact Kd.own_blk (Kd.R_ne HO_16.out BK245.out (by decide))) | (show (Addr.add _ _).block ≠ _; rw [add_block]; exact Kd.own_blk (Kd.R_ne HO_16.out BK245.out (by decide))) | (dsimp only; exact Kd.own_blk (Kd.R_ne HO_16.out BK245.out (by decide)))) _).trans (hHeld.1)))))), ((cell_far (p := ⟨gb245, _, none⟩) (by first | exact Kd.own_blk (Kd.R_ne HO_16.out BK245.out (by decide)) | (rw [add_block]; exact Kd.own_blk (Kd.R_ne HO_16.out BK245.out (by decide))) | (show (Addr.add _ _).block ≠ _; rw [add_block]; exact Kd.own_blk (Kd.R_ne HO_16.out BK245.out (by decide))) | (dsimp only; exact Kd.own_blk (Kd.R_ne HO_16.out BK245.out (by decide)))) _).trans (((cell_far (p := ⟨gb245, _, none⟩) (by first | exact Kd.own_blk (Kd.R_ne HO_16.out BK245.out (by decide)) | (rw [add_block]; exact Kd.own_blk (Kd.R_ne HO_16.out BK245.out (by decide))) | (show (Addr.add _ _).block ≠ _; rw [add_block]; exact Kd.own_blk (Kd.R_ne HO_16.out BK245.out (by decide))) | (dsimp only; exact Kd.own_blk (Kd.R_ne HO_16.out BK245.out (by decide)))) _).trans (((cell_far (p := ⟨gb245, _, none⟩) (by first | exact Kd.own_blk (Kd.R_ne HO_16.out BK245.out (by decide)) | (rw [add_block]; exact Kd.own_blk (Kd.R_ne HO_16.out BK245.out (by decide))) | (show (Addr.add _ _).block ≠ _; rw [add_block]; exact Kd.own_blk (Kd.R_ne HO_16.out BK245.out (by decide))) | (dsimp only; exact Kd.own_blk (Kd.R_ne HO_16.out BK245.out (by decide)))) _).trans (hHeld.2.1)))))), ((cell_far (p := ⟨gb245, _, none⟩) (by first | exact Kd.own_blk (Kd.R_ne HO_16.out BK245.out (by decide)) | (rw [add_block]; exact Kd.own_blk (Kd.R_ne HO_16.out BK245.out (by decide))) | (show (Addr.add _ _).block ≠ _; rw [add_block]; exact Kd.own_blk (Kd.R_ne HO_16.out BK245.out (by decide))) | (dsimp only; exact Kd.own_blk (Kd.R_ne HO_16.out BK245.out (by decide)))) _).trans (((cell_far (p := ⟨gb245, _, none⟩) (by first | exact Kd.own_blk (Kd.R_ne HO_16.out BK245.out (by decide)) | (rw [add_block]; exact Kd.own_blk (Kd.R_ne HO_16.out BK245.out (by decide))) | (show (Addr.add _ _).block ≠ _; rw [add_block]; exact Kd.own_blk (Kd.R_ne HO_16.out BK245.out (by decide))) | (dsimp only; exact Kd.own_blk (Kd.R_ne HO_16.out BK245.out (by decide)))) _).trans (((cell_far (p := ⟨gb245, _, none⟩) (by first | exact Kd.own_blk (Kd.R_ne HO_16.out BK245.out (by decide)) | (rw [add_block]; exact Kd.own_blk (Kd.R_ne HO_16.out BK245.out (by decide))) | (show (Addr.add _ _).block ≠ _; rw [add_block]; exact Kd.own_blk (Kd.R_ne HO_16.out BK245.out (by decide))) | (dsimp only; exact Kd.own_blk (Kd.R_ne HO_16.out BK245.out (by decide)))) _).trans (hHeld.2.2.1)))))), ((cell_far (p := ⟨gb245, _, none⟩) (by first | exact Kd.own_blk (Kd.R_ne HO_17.out BK245.out (by decide)) | (rw [add_block]; exact Kd.own_blk (Kd.R_ne HO_17.out BK245.out (by decide))) | (show (Addr.add _ _).block ≠ _; rw [add_block]; exact Kd.own_blk (Kd.R_ne HO_17.out BK245.out (by decide))) | (dsimp only; exact Kd.own_blk (Kd.R_ne HO_17.out BK245.out (by decide)))) _).trans (((cell_far (p := ⟨gb245, _, none⟩) (by first | exact Kd.own_blk (Kd.R_ne HO_17.out BK245.out (by decide)) | (rw [add_block]; exact Kd.own_blk (Kd.R_ne HO_17.out BK245.out (by decide))) | (show (Addr.add _ _).block ≠ _; rw [add_block]; exact Kd.own_blk (Kd.R_ne HO_17.out BK245.out (by decide))) | (dsimp only; exact Kd.own_blk (Kd.R_ne HO_17.out BK245.out (by decide)))) _).trans (((cell_far (p := ⟨gb245, _, none⟩) (by first | exact Kd.own_blk (Kd.R_ne HO_17.out BK245.out (by decide)) | (rw [add_block]; exact Kd.own_blk (Kd.R_ne HO_17.out BK245.out (by decide))) | (show (Addr.add _ _).block ≠ _; rw [add_block]; exact Kd.own_blk (Kd.R_ne HO_17.out BK245.out (by decide))) | (dsimp only; exact Kd.own_blk (Kd.R_ne HO_17.out BK245.out (by decide)))) _).trans (hHeld.2.2.2))))))⟩ (fun hHeld => ?_)
                        clear hK K
                        refine pure_ (i := 16) (N := some 21) (v := ?_) (a' := ?_) #[true, true, true, true, true, true, true, true, true, true, true, true, true, true, true, true, true] rfl rfl (any_of HT_.out (by kernel_rfl)) (fun _ _ _ h => h) (Or.inl ⟨by rfl, ?_⟩) ?_ ?_
                        rotate_left
                        ·intro w'
                         go_simp
                         with_reducible rfl
                        rotate_left
                        ·simp only [Act.put, List.setIfInBounds_toArray, List.set_cons_zero, List.set_cons_succ, i64_w, i32_w]
                         rfl
                        refine done_ (done_of HT_.out (by kernel_rfl)) ?_
                        try go_wp2
                        have n0_ : Aside0 (Kd.R k34 34 (((w71.setCell ⟨gb245, 0, none⟩ (.int .i64 t255)).setCell ⟨gb245, 1, none⟩ (.int .i64 t256)).setCell ⟨gb245, 2, none⟩ (.int .i64 t257)) w.heap.size (fun _ => True) (.slice Ao32 t230.length co32) t230) := ⟨by (with_reducible repeat (first | apply Kd.R_alloc | apply Kd.R_drewN | apply Kd.R_drew)); exact Kd.R_mono (Kd.R_far (p := ⟨gb245, 2, none⟩) (Kd.R_far (p := ⟨gb245, 1, none⟩) (Kd.R_far (p := ⟨gb245, 0, none⟩) (Kd.R_types HO_15.out BK245.out (by decide)) (fun _ hk => hk.2) (.int .i64 t255)) (fun _ hk => hk.2) (.int .i64 t256)) (fun _ hk => hk.2) (.int .i64 t257)) (fun _ hk => trivial)⟩
                        have n1_ : Aside0 (Kd.R k42 42 (((w71.setCell ⟨gb245, 0, none⟩ (.int .i64 t255)).setCell ⟨gb245, 1, none⟩ (.int .i64 t256)).setCell ⟨gb245, 2, none⟩ (.int .i64 t257)) w.heap.size (fun k_ => k_ ≠ gb228) (.slice (some ad239) y233.length co23) y233) := ⟨by (with_reducible repeat (first | apply Kd.R_alloc | apply Kd.R_drewN | apply Kd.R_drew)); exact Kd.R_mono (Kd.R_far (p := ⟨gb245, 2, none⟩) (Kd.R_far (p := ⟨gb245, 1, none⟩) (Kd.R_far (p := ⟨gb245, 0, none⟩) (Kd.R_types HO_16.out BK245.out (by decide)) (fun _ hk => hk.2) (.int .i64 t255)) (fun _ hk => hk.2) (.int .i64 t256)) (fun _ hk => hk.2) (.int .i64 t257)) (fun _ hk => hk.1)⟩
                        have n2_ : Aside0 (Kd.R (Kd.int .i64) 3 (((w71.setCell ⟨gb245, 0, none⟩ (.int .i64 t255)).setCell ⟨gb245, 1, none⟩ (.int .i64 t256)).setCell ⟨gb245, 2, none⟩ (.int .i64 t257)) w.heap.size (fun _ => True) (.slice (some ad240) y236.length co31) y236) := ⟨by (with_reducible repeat (first | apply Kd.R_alloc | apply Kd.R_drewN | apply Kd.R_drew)); exact Kd.R_mono (Kd.R_far (p := ⟨gb245, 2, none⟩) (Kd.R_far (p := ⟨gb245, 1, none⟩) (Kd.R_far (p := ⟨gb245, 0, none⟩) (Kd.R_types HO_17.out BK245.out (by decide)) (fun _ hk => hk.2) (.int .i64 t255)) (fun _ hk => hk.2) (.int .i64 t256)) (fun _ hk => hk.2) (.int .i64 t257)) (fun _ hk => trivial)⟩
                        have n3_ : Aside0 ((((w71.setCell ⟨gb245, 0, none⟩ (.int .i64 t255)).setCell ⟨gb245, 1, none⟩ (.int .i64 t256)).setCell ⟨gb245, 2, none⟩ (.int .i64 t257)).heap[gb228]? = some (.cells #[.int .i64 a1_0, .int .i64 a1_1, .int .i64 a1_2] 42 (0, 0))) := ⟨by (with_reducible repeat (first | refine blk_drewN ?_ _ | refine blk_drew ?_ | refine blk_alloc ?_ _)); refine blk_far ?_ NB228_245.out _; (with_reducible repeat (first | refine blk_drewN ?_ _ | refine blk_drew ?_ | refine blk_alloc ?_ _)); refine blk_far ?_ NB228_245.out _; (with_reducible repeat (first | refine blk_drewN ?_ _ | refine blk_drew ?_ | refine blk_alloc ?_ _)); refine blk_far ?_ NB228_245.out _; (with_reducible repeat (first | refine blk_drewN ?_ _ | refine blk_drew ?_ | refine blk_alloc ?_ _)); exact BK228.out⟩
                        have n4_ : Aside0 ((((w71.setCell ⟨gb245, 0, none⟩ (.int .i64 t255)).setCell ⟨gb245, 1, none⟩ (.int .i64 t256)).setCell ⟨gb245, 2, none⟩ (.int .i64 t257)).heap[gb245]? = some (.cells #[.int .i64 t255, .int .i64 t256, .int .i64 t257] 37 (0, 0))) := ⟨by (with_reducible repeat (first | refine blk_drewN ?_ _ | refine blk_drew ?_ | refine blk_alloc ?_ _)); refine blk_put (cs := #[.int .i64 t255, .int .i64 t256, .int .i64 x246002_4]) ?_ 2 _ rfl; (with_reducible repeat (first | refine blk_drewN ?_ _ | refine blk_drew ?_ | refine blk_alloc ?_ _)); refine blk_put (cs := #[.int .i64 t255, .int .i64 x246001_4, .int .i64 x246002_4]) ?_ 1 _ rfl; (with_reducible repeat (first | refine blk_drewN ?_ _ | refine blk_drew ?_ | refine blk_alloc ?_ _)); refine blk_put (cs := #[.int .i64 x246000_4, .int .i64 x246001_4, .int .i64 x246002_4]) ?_ 0 _ rfl; (with_reducible repeat (first | refine blk_drewN ?_ _ | refine blk_drew ?_ | refine blk_alloc ?_ _)); exact BK245.out⟩
                        have n5_ : Aside0 ((((w71.setCell ⟨gb245, 0, none⟩ (.int .i64 t255)).setCell ⟨gb245, 1, none⟩ (.int .i64 t256)).setCell ⟨gb245, 2, none⟩ (.int .i64 t257)).heap[gb252]? = some (.cells #[.int .i64 x253000_4, .int .i64 x253001_4, .int .i64 x253002_4] 37 (0, 0))) := ⟨by (with_reducible repeat (first | refine blk_drewN ?_ _ | refine blk_drew ?_ | refine blk_alloc ?_ _)); refine blk_far ?_ NB252_245.out _; (with_reducible repeat (first | refine blk_drewN ?_ _ | refine blk_drew ?_ | refine blk_alloc ?_ _)); refine blk_far ?_ NB252_245.out _; (with_reducible repeat (first | refine blk_drewN ?_ _ | refine blk_drew ?_ | refine blk_alloc ?_ _)); refine blk_far ?_ NB252_245.out _; (with_reducible repeat (first | refine blk_drewN ?_ _ | refine blk_drew ?_ | refine blk_alloc ?_ _)); exact BK252.out⟩
                        have n6_ : Aside0 (Below w.heap.size w (((w71.setCell ⟨gb245, 0, none⟩ (.int .i64 t255)).setCell ⟨gb245, 1, none⟩ (.int .i64 t256)).setCell ⟨gb245, 2, none⟩ (.int .i64 t257))) := ⟨by repeat (first | (with_reducible first | exact HB.out | apply below_alloc | apply pw_below_drewN | apply below_drew1 | refine below_set ?_ GE228.out | refine below_set ?_ GE245.out | refine below_set ?_ GE252.out) | exact HB.out)⟩
                        (try clear HO_15)
                        (try clear HO_16)
                        (try clear HO_17)
                        (try clear BK228)
                        (try clear BK245)
                        (try clear BK252)
                        (try clear HB)
                        generalize (((w71.setCell ⟨gb245, 0, none⟩ (.int .i64 t255)).setCell ⟨gb245, 1, none⟩ (.int .i64 t256)).setCell ⟨gb245, 2, none⟩ (.int .i64 t257)) = w75 at n0_ n1_ n2_ n3_ n4_ n5_ n6_ ⊢
                        have HO_15 := n0_
                        have HO_16 := n1_
                        have HO_17 := n2_
                        have BK228 := n3_
                        have BK245 := n4_
                        have BK252 := n5_
                        have HB := n6_
                        clear n0_ n1_ n2_ n3_ n4_ n5_ n6_
                        have n0_ := Aside0.mk (Kd.R_drew HO_15.out)
                        have n1_ := Aside0.mk (Kd.R_drew HO_16.out)
                        have n2_ := Aside0.mk (Kd.R_drew HO_17.out)
                        have n3_ := Aside0.mk (blk_drew BK228.out)
                        have n4_ := Aside0.mk (blk_drew BK245.out)
                        have n5_ := Aside0.mk (blk_drew BK252.out)
                        have n6_ := Aside0.mk (below_drew1 HB.out)
                        clear HO_15
                        clear HO_16
                        clear HO_17
                        clear BK228
                        clear BK245
                        clear BK252
                        clear HB
                        have HO_15 := n0_
                        have HO_16 := n1_
                        have HO_17 := n2_
                        have BK228 := n3_
                        have BK245 := n4_
                        have BK252 := n5_
                        have HB := n6_
                        clear n0_ n1_ n2_ n3_ n4_ n5_ n6_
                        have p259 : 0 ≤ (x18_1 : Int) := of_decide_eq_true (by first | (with_reducible assumption) | assumption)
                        have q259 : x18_1 < (y233.length : Int) := of_decide_eq_true (by first | (with_reducible assumption) | assumption)
                        obtain ⟨ad259, e259, hx259_0, hx259_1, hx259_2⟩ := at_T42 (Kd.R_reads' HO_16.out).2.2 x18_1 p259 q259
                        obtain rfl : ad239 = ad259 := (by injection e259)
                        replace p259 := eq_true p259
                        replace q259 := eq_true q259
                        have p260 : 0 ≤ (x19_2 : Int) := of_decide_eq_true (by first | (with_reducible assumption) | assumption)
                        have q260 : x19_2 < (y236.length : Int) := of_decide_eq_true (by first | (with_reducible assumption) | assumption)
                        obtain ⟨ad260, e260, hx260_0⟩ := Kd.at_int (Kd.R_reads' HO_17.out).2.2 x19_2 p260 q260
                        obtain rfl : ad240 = ad260 := (by injection e260)
                        replace p260 := eq_true p260
                        replace q260 := eq_true q260
                        refine start_ (n := 17) (S := fun w' => w'.cell? (ad239.add ((x18_1).toNat * 3)) = some (.int .i64 ((rd_T42 y233 x18_1).f0)) ∧ w'.cell? ⟨(ad239.add ((x18_1).toNat * 3)).block, (ad239.add ((x18_1).toNat * 3)).off + 1, none⟩ = some (.int .i64 ((rd_T42 y233 x18_1).f1)) ∧ w'.cell? ⟨(ad239.add ((x18_1).toNat * 3)).block, (ad239.add ((x18_1).toNat * 3)).off + 2, none⟩ = some (.int .i64 ((rd_T42 y233 x18_1).f2)) ∧ w'.cell? (ad240.add (x19_2).toNat) = some (.int .i64 (rd y236 x19_2))) (ds := []) #[false, false, false, false, false, false, false, false, false, false, false, false, false, false, false, false, false] (by kernel_rfl) rfl rfl ⟨hx259_0, hx259_1, hx259_2, hx260_0⟩ (fun hHeld => ?_); refine with_tabW flagstonelaw39_ScoreTells.tab22 flagstonelaw39_ScoreTells.bits22 (fun HT_ HW_ => ?_)
                        generalize w75.drew = w76 at HO_15 HO_16 HO_17 BK228 BK245 BK252 HB hx259_0 hx259_1 hx259_2 hx260_0 hHeld ⊢
                        refine pure_ (i := 0) (N := some 128) (v := ?_) (a' := ?_) #[true, false, false, false, false, false, false, false, false, false, false, false, false, false, false, false, false] rfl rfl (any_of HT_.out (by kernel_rfl)) (fun _ _ _ h => h) (Or.inl ⟨by rfl, ?_⟩) ?_ ?_
                        rotate_left
                        ·intro w'
                         go_simp
                         with_reducible rfl
                        rotate_left
                        ·simp only [Act.put, List.setIfInBounds_toArray, List.set_cons_zero, List.set_cons_succ, i64_w, i32_w]
                         rfl
                        refine pure_ (i := 1) (N := some 129) (v := ?_) (a' := ?_) #[true, true, false, false, false, false, false, false, false, false, false, false, false, false, false, false, false] rfl rfl (any_of HT_.out (by kernel_rfl)) (fun _ _ _ h => h) (Or.inl ⟨by rfl, ?_⟩) ?_ ?_
                        rotate_left
                        ·intro w'
                         go_simp
                         with_reducible rfl
                        rotate_left
                        ·simp only [Act.put, List.setIfInBounds_toArray, List.set_cons_zero, List.set_cons_succ, i64_w, i32_w]
                         rfl
                        refine pure_ (i := 2) (N := some 130) (v := ?_) (a' := ?_) #[true, true, true, false, false, false, false, false, false, false, false, false, false, false, false, false, false] rfl rfl (any_of HT_.out (by kernel_rfl)) (fun _ _ _ h => h) (Or.inl ⟨by rfl, ?_⟩) ?_ ?_
                        rotate_left
                        ·intro w'
                         go_simp
                         with_reducible rfl
                        rotate_left
                        ·simp only [Act.put, List.setIfInBounds_toArray, List.set_cons_zero, List.set_cons_succ, i64_w, i32_w]
                         rfl
                        refine pure_ (i := 3) (N := some 131) (v := ?_) (a' := ?_) #[true, true, true, true, false, false, false, false, false, false, false, false, false, false, false, false, false] rfl rfl (any_of HT_.out (by kernel_rfl)) (fun _ _ _ h => h) (Or.inl ⟨by rfl, ?_⟩) ?_ ?_
                        rotate_left
                        ·intro w'
                         go_simp
                         with_reducible rfl
                        rotate_left
                        ·simp only [Act.put, List.setIfInBounds_toArray, List.set_cons_zero, List.set_cons_succ, i64_w, i32_w]
                         rfl
                        refine pure_ (i := 4) (N := some 132) (v := ?_) (a' := ?_) #[true, true, true, true, true, false, false, false, false, false, false, false, false, false, false, false, false] rfl rfl (any_of HT_.out (by kernel_rfl)) (fun _ _ _ h => h) (Or.inl ⟨by rfl, ?_⟩) ?_ ?_
                        rotate_left
                        ·intro w'
                         go_simp
                         with_reducible rfl
                        rotate_left
                        ·simp only [Act.put, List.setIfInBounds_toArray, List.set_cons_zero, List.set_cons_succ, i64_w, i32_w]
                         rfl
                        refine pure_ (i := 6) (N := some 134) (v := ?_) (a' := ?_) #[true, true, true, true, true, false, true, false, false, false, false, false, false, false, false, false, false] rfl rfl (any_of HT_.out (by kernel_rfl)) (fun _ _ _ h => h) (Or.inl ⟨by rfl, ?_⟩) ?_ ?_
                        rotate_left
                        ·intro w'
                         go_simp
                         with_reducible rfl
                        rotate_left
                        ·simp only [Act.put, List.setIfInBounds_toArray, List.set_cons_zero, List.set_cons_succ, i64_w, i32_w]
                         rfl
                        refine pure_ (i := 7) (N := some 135) (v := ?_) (a' := ?_) #[true, true, true, true, true, false, true, true, false, false, false, false, false, false, false, false, false] rfl rfl (any_of HT_.out (by kernel_rfl)) (fun _ _ _ h => h) (Or.inl ⟨by rfl, ?_⟩) ?_ ?_
                        rotate_left
                        ·intro w'
                         go_simp
                         with_reducible rfl
                        rotate_left
                        ·simp only [Act.put, List.setIfInBounds_toArray, List.set_cons_zero, List.set_cons_succ, i64_w, i32_w]
                         rfl
                        refine pure_ (i := 8) (N := some 136) (v := ?_) (a' := ?_) #[true, true, true, true, true, false, true, true, true, false, false, false, false, false, false, false, false] rfl rfl (any_of HT_.out (by kernel_rfl)) (fun _ _ _ h => h) (Or.inl ⟨by rfl, ?_⟩) ?_ ?_
                        rotate_left
                        ·intro w'
                         go_simp
                         with_reducible rfl
                        rotate_left
                        ·simp only [Act.put, List.setIfInBounds_toArray, List.set_cons_zero, List.set_cons_succ, i64_w, i32_w]
                         rfl
                        refine pure_ (i := 10) (N := some 138) (v := ?_) (a' := ?_) #[true, true, true, true, true, false, true, true, true, false, true, false, false, false, false, false, false] rfl rfl (any_of HT_.out (by kernel_rfl)) (fun _ _ _ h => h) (Or.inl ⟨by rfl, ?_⟩) ?_ ?_
                        rotate_left
                        ·intro w'
                         go_simp
                         with_reducible rfl
                        rotate_left
                        ·simp only [Act.put, List.setIfInBounds_toArray, List.set_cons_zero, List.set_cons_succ, i64_w, i32_w]
                         rfl
                        refine take_ (i := 5) (N := some 133) (v := ?_) (a' := ?_) #[true, true, true, true, true, true, true, true, true, false, true, false, false, false, false, false, false] rfl rfl (take_ofW HT_.out HW_.out (by kernel_rfl)) (fun _ _ _ h => h) (Or.inl ⟨by rfl, ?_⟩) hHeld ?_ ?_
                        rotate_left
                        ·rintro w' ⟨s0, s1, s2, s3⟩
                         go_simp
                         with_reducible rfl
                        rotate_left
                        ·simp only [Act.put, List.setIfInBounds_toArray, List.set_cons_zero, List.set_cons_succ, i64_w, i32_w]
                         rfl
                        refine take_ (i := 9) (N := some 137) (v := ?_) (a' := ?_) #[true, true, true, true, true, true, true, true, true, true, true, false, false, false, false, false, false] rfl rfl (take_ofW HT_.out HW_.out (by kernel_rfl)) (fun _ _ _ h => h) (Or.inl ⟨by rfl, ?_⟩) hHeld ?_ ?_
                        rotate_left
                        ·rintro w' ⟨s0, s1, s2, s3⟩
                         go_simp
                         with_reducible rfl
                        rotate_left
                        ·simp only [Act.put, List.setIfInBounds_toArray, List.set_cons_zero, List.set_cons_succ, i64_w, i32_w]
                         rfl
                        refine one_ (i := 11) (N := some 139) #[true, true, true, true, true, true, true, true, true, true, true, true, false, false, false, false, false] rfl rfl (one_of HT_.out (by kernel_rfl)) (by decide) (fun K hK => ?_)
                        refine goes_ Try.func20 (by kernel_rfl) rfl #[.slice Ao32 t230.length co32, .int .i64 x24_4, .agg #[.int .i64 ((rd_T42 y233 x18_1).f0), .int .i64 ((rd_T42 y233 x18_1).f1), .int .i64 ((rd_T42 y233 x18_1).f2)], .int .i64 (rd y236 x19_2), .bool a6] (by rfl) rfl rfl (by (try simp only [List.map_toArray, List.map_cons, List.map_nil]); first | done | rfl | (simp only [List.length_drop, List.length_take]; rfl)) ?_
                        with_reducible refine (flagstoneref39_Of.calls kj59 _ _ t230 x24_4 ((rd_T42 y233 x18_1).f0) ((rd_T42 y233 x18_1).f1) ((rd_T42 y233 x18_1).f2) (rd y236 x19_2) a6 t261 t262 t263 t264 _ ?side1 ?side2 A68.out).mono ?_
                        (case side1 => repeat (first | exact (Kd.R_reads' HO_15.out).2.2 | (with_reducible refine Kd.C_alloc ?_ _) | (with_reducible refine Kd.C_drewN ?_ _) | (with_reducible refine Kd.C_drew ?_)))
                        (case side2 => exact (Kd.R_reads' HO_15.out).2.1)
                        rintro e w77 ⟨rfl, hb⟩
                        have HS0_ := (hb.cell (World.block_lt_of_cell? _ _ (hHeld.1))).trans (hHeld.1)
                        have HS1_ := (hb.cell (World.block_lt_of_cell? _ _ (hHeld.2.1))).trans (hHeld.2.1)
                        have HS2_ := (hb.cell (World.block_lt_of_cell? _ _ (hHeld.2.2.1))).trans (hHeld.2.2.1)
                        have HS3_ := (hb.cell (World.block_lt_of_cell? _ _ (hHeld.2.2.2))).trans (hHeld.2.2.2)
                        refine ⟨_, rfl, ?_⟩
                        have n0_ := Aside0.mk (Kd.R_below (by (with_reducible repeat (first | apply Kd.R_alloc | apply Kd.R_drewN | apply Kd.R_drew)); exact HO_15.out) hb)
                        have n1_ := Aside0.mk (Kd.R_below (by (with_reducible repeat (first | apply Kd.R_alloc | apply Kd.R_drewN | apply Kd.R_drew)); exact HO_16.out) hb)
                        have n2_ := Aside0.mk (Kd.R_below (by (with_reducible repeat (first | apply Kd.R_alloc | apply Kd.R_drewN | apply Kd.R_drew)); exact HO_17.out) hb)
                        have n3_ := Aside0.mk (blk_below (g := gb228) (o := .cells #[.int .i64 a1_0, .int .i64 a1_1, .int .i64 a1_2] 42 (0, 0)) (by (with_reducible repeat (first | refine blk_drewN ?_ _ | refine blk_drew ?_ | refine blk_alloc ?_ _)); exact BK228.out) hb)
                        have n4_ := Aside0.mk (blk_below (g := gb245) (o := .cells #[.int .i64 t255, .int .i64 t256, .int .i64 t257] 37 (0, 0)) (by (with_reducible repeat (first | refine blk_drewN ?_ _ | refine blk_drew ?_ | refine blk_alloc ?_ _)); exact BK245.out) hb)
                        have n5_ := Aside0.mk (blk_below (g := gb252) (o := .cells #[.int .i64 x253000_4, .int .i64 x253001_4, .int .i64 x253002_4] 37 (0, 0)) (by (with_reducible repeat (first | refine blk_drewN ?_ _ | refine blk_drew ?_ | refine blk_alloc ?_ _)); exact BK252.out) hb)
                        have n6_ := Aside0.mk (below_step (by repeat (first | (with_reducible first | exact HB.out | apply below_alloc | apply pw_below_drewN | apply below_drew1 | refine below_set ?_ GE228.out | refine below_set ?_ GE245.out | refine below_set ?_ GE252.out) | exact HB.out)) hb)
                        clear HO_15
                        clear HO_16
                        clear HO_17
                        clear BK228
                        clear BK245
                        clear BK252
                        clear HB
                        have HO_15 := n0_
                        have HO_16 := n1_
                        have HO_17 := n2_
                        have BK228 := n3_
                        have BK245 := n4_
                        have BK252 := n5_
                        have HB := n6_
                        clear n0_ n1_ n2_ n3_ n4_ n5_ n6_
                        (try clear hb)
                        (try clear hb2)
                        (try clear hk)
                        (try clear hi)
                        refine hK.out _ _ ⟨HS0_, HS1_, HS2_, HS3_⟩ (fun hHeld => ?_)
                        clear hK K
                        refine norm_ (a' := ?_) ?_ ?_
                        rotate_left
                        ·show Act.put _ (some 139) _ = _
                         simp only [Act.put, List.setIfInBounds_toArray, List.set_cons_zero, List.set_cons_succ, i64_w, i32_w]
                         rfl
                        refine pure_ (i := 12) (N := some 127) (v := ?_) (a' := ?_) #[true, true, true, true, true, true, true, true, true, true, true, true, true, false, false, false, false] rfl rfl (any_of HT_.out (by kernel_rfl)) (fun _ _ _ h => h) (Or.inl ⟨by rfl, ?_⟩) ?_ ?_
                        rotate_left
                        ·intro w'
                         go_simp
                         with_reducible rfl
                        rotate_left
                        ·simp only [Act.put, List.setIfInBounds_toArray, List.set_cons_zero, List.set_cons_succ, i64_w, i32_w]
                         rfl
                        refine pure_ (i := 13) (N := some 140) (v := ?_) (a' := ?_) #[true, true, true, true, true, true, true, true, true, true, true, true, true, true, false, false, false] rfl rfl (any_of HT_.out (by kernel_rfl)) (fun _ _ _ h => h) (Or.inl ⟨by rfl, ?_⟩) ?_ ?_
                        rotate_left
                        ·intro w'
                         go_simp
                         with_reducible rfl
                        rotate_left
                        ·simp only [Act.put, List.setIfInBounds_toArray, List.set_cons_zero, List.set_cons_succ, i64_w, i32_w]
                         rfl
                        refine pure_ (i := 14) (N := some 141) (v := ?_) (a' := ?_) #[true, true, true, true, true, true, true, true, true, true, true, true, true, true, true, false, false] rfl rfl (any_of HT_.out (by kernel_rfl)) (fun _ _ _ h => h) (Or.inl ⟨by rfl, ?_⟩) ?_ ?_
                        rotate_left
                        ·intro w'
                         go_simp
                         with_reducible rfl
                        rotate_left
                        ·simp only [Act.put, List.setIfInBounds_toArray, List.set_cons_zero, List.set_cons_succ, i64_w, i32_w]
                         rfl
                        refine one_ (i := 15) (N := none) #[true, true, true, true, true, true, true, true, true, true, true, true, true, true, true, true, false] rfl rfl (one_of HT_.out (by kernel_rfl)) (by decide) (fun K hK => ?_)
                        have hs78 : w77.cell? ⟨gb252, 0, none⟩ = some (.int .i64 x253000_4) := (blk_cell BK252.out 0).trans rfl
                        have hfs78 := blk_frozen BK252.out 0
                        have hns78_0 := NB228_252.out
                        have hns78_1 := NB245_252.out
                        have hms78_0 := NB252_228.out
                        have hms78_1 := NB252_245.out
                        have hs79 : w77.cell? ⟨gb252, 1, none⟩ = some (.int .i64 x253001_4) := (blk_cell BK252.out 1).trans rfl
                        have hfs79 := blk_frozen BK252.out 1
                        have hns79_0 := NB228_252.out
                        have hns79_1 := NB245_252.out
                        have hms79_0 := NB252_228.out
                        have hms79_1 := NB252_245.out
                        have hs80 : w77.cell? ⟨gb252, 2, none⟩ = some (.int .i64 x253002_4) := (blk_cell BK252.out 2).trans rfl
                        have hfs80 := blk_frozen BK252.out 2
                        have hns80_0 := NB228_252.out
                        have hns80_1 := NB245_252.out
                        have hms80_0 := NB252_228.out
                        have hms80_1 := NB252_245.out
                        refine skip_ (w1 := ?_) (by rfl) rfl ?_ ?_
                        rotate_left
                        ·go_simp
                         rfl
                        refine hK.out _ _ ⟨((cell_far (p := ⟨gb252, _, none⟩) (by first | exact Kd.own_blk (Kd.R_ne HO_16.out BK252.out (by decide)) | (rw [add_block]; exact Kd.own_blk (Kd.R_ne HO_16.out BK252.out (by decide))) | (show (Addr.add _ _).block ≠ _; rw [add_block]; exact Kd.own_blk (Kd.R_ne HO_16.out BK252.out (by decide))) | (dsimp only; exact Kd.own_blk (Kd.R_ne HO_16.out BK252.out (by decide)))) _).trans (((cell_far (p := ⟨gb252, _, none⟩) (by first | exact Kd.own_blk (Kd.R_ne HO_16.out BK252.out (by decide)) | (rw [add_block]; exact Kd.own_blk (Kd.R_ne HO_16.out BK252.out (by decide))) | (show (Addr.add _ _).block ≠ _; rw [add_block]; exact Kd.own_blk (Kd.R_ne HO_16.out BK252.out (by decide))) | (dsimp only; exact Kd.own_blk (Kd.R_ne HO_16.out BK252.out (by decide)))) _).trans (((cell_far (p := ⟨gb252, _, none⟩) (by first | exact Kd.own_blk (Kd.R_ne HO_16.out BK252.out (by decide)) | (rw [add_block]; exact Kd.own_blk (Kd.R_ne HO_16.out BK252.out (by decide))) | (show (Addr.add _ _).block ≠ _; rw [add_block]; exact Kd.own_blk (Kd.R_ne HO_16.out BK252.out (by decide))) | (dsimp only; exact Kd.own_blk (Kd.R_ne HO_16.out BK252.out (by decide)))) _).trans (hHeld.1)))))), ((cell_far (p := ⟨gb252, _, none⟩) (by first | exact Kd.own_blk (Kd.R_ne HO_16.out BK252.out (by decide)) | (rw [add_block]; exact Kd.own_blk (Kd.R_ne HO_16.out BK252.out (by decide))) | (show (Addr.add _ _).block ≠ _; rw [add_block]; exact Kd.own_blk (Kd.R_ne HO_16.out BK252.out (by decide))) | (dsimp only; exact Kd.own_blk (Kd.R_ne HO_16.out BK252.out (by decide)))) _).trans (((cell_far (p := ⟨gb252, _, none⟩) (by first | exact Kd.own_blk (Kd.R_ne HO_16.out BK252.out (by decide)) | (rw [add_block]; exact Kd.own_blk (Kd.R_ne HO_16.out BK252.out (by decide))) | (show (Addr.add _ _).block ≠ _; rw [add_block]; exact Kd.own_blk (Kd.R_ne HO_16.out BK252.out (by decide))) | (dsimp only; exact Kd.own_blk (Kd.R_ne HO_16.out BK252.out (by decide)))) _).trans (((cell_far (p := ⟨gb252, _, none⟩) (by first | exact Kd.own_blk (Kd.R_ne HO_16.out BK252.out (by decide)) | (rw [add_block]; exact Kd.own_blk (Kd.R_ne HO_16.out BK252.out (by decide))) | (show (Addr.add _ _).block ≠ _; rw [add_block]; exact Kd.own_blk (Kd.R_ne HO_16.out BK252.out (by decide))) | (dsimp only; exact Kd.own_blk (Kd.R_ne HO_16.out BK252.out (by decide)))) _).trans (hHeld.2.1)))))), ((cell_far (p := ⟨gb252, _, none⟩) (by first | exact Kd.own_blk (Kd.R_ne HO_16.out BK252.out (by decide)) | (rw [add_block]; exact Kd.own_blk (Kd.R_ne HO_16.out BK252.out (by decide))) | (show (Addr.add _ _).block ≠ _; rw [add_block]; exact Kd.own_blk (Kd.R_ne HO_16.out BK252.out (by decide))) | (dsimp only; exact Kd.own_blk (Kd.R_ne HO_16.out BK252.out (by decide)))) _).trans (((cell_far (p := ⟨gb252, _, none⟩) (by first | exact Kd.own_blk (Kd.R_ne HO_16.out BK252.out (by decide)) | (rw [add_block]; exact Kd.own_blk (Kd.R_ne HO_16.out BK252.out (by decide))) | (show (Addr.add _ _).block ≠ _; rw [add_block]; exact Kd.own_blk (Kd.R_ne HO_16.out BK252.out (by decide))) | (dsimp only; exact Kd.own_blk (Kd.R_ne HO_16.out BK252.out (by decide)))) _).trans (((cell_far (p := ⟨gb252, _, none⟩) (by first | exact Kd.own_blk (Kd.R_ne HO_16.out BK252.out (by decide)) | (rw [add_block]; exact Kd.own_blk (Kd.R_ne HO_16.out BK252.out (by decide))) | (show (Addr.add _ _).block ≠ _; rw [add_block]; exact Kd.own_blk (Kd.R_ne HO_16.out BK252.out (by decide))) | (dsimp only; exact Kd.own_blk (Kd.R_ne HO_16.out BK252.out (by decide)))) _).trans (hHeld.2.2.1)))))), ((cell_far (p := ⟨gb252, _, none⟩) (by first | exact Kd.own_blk (Kd.R_ne HO_17.out BK252.out (by decide)) | (rw [add_block]; exact Kd.own_blk (Kd.R_ne HO_17.out BK252.out (by decide))) | (show (Addr.add _ _).block ≠ _; rw [add_block]; exact Kd.own_blk (Kd.R_ne HO_17.out BK252.out (by decide))) | (dsimp only; exact Kd.own_blk (Kd.R_ne HO_17.out BK252.out (by decide)))) _).trans (((cell_far (p := ⟨gb252, _, none⟩) (by first | exact Kd.own_blk (Kd.R_ne HO_17.out BK252.out (by decide)) | (rw [add_block]; exact Kd.own_blk (Kd.R_ne HO_17.out BK252.out (by decide))) | (show (Addr.add _ _).block ≠ _; rw [add_block]; exact Kd.own_blk (Kd.R_ne HO_17.out BK252.out (by decide))) | (dsimp only; exact Kd.own_blk (Kd.R_ne HO_17.out BK252.out (by decide)))) _).trans (((cell_far (p := ⟨gb252, _, none⟩) (by first | exact Kd.own_blk (Kd.R_ne HO_17.out BK252.out (by decide)) | (rw [add_block]; exact Kd.own_blk (Kd.R_ne HO_17.out BK252.out (by decide))) | (show (Addr.add _ _).block ≠ _; rw [add_block]; exact Kd.own_blk (Kd.R_ne HO_17.out BK252.out (by decide))) | (dsimp only; exact Kd.own_blk (Kd.R_ne HO_17.out BK252.out (by decide)))) _).trans (hHeld.2.2.2))))))⟩ (fun hHeld => ?_)
                        clear hK K
                        refine pure_ (i := 16) (N := some 23) (v := ?_) (a' := ?_) #[true, true, true, true, true, true, true, true, true, true, true, true, true, true, true, true, true] rfl rfl (any_of HT_.out (by kernel_rfl)) (fun _ _ _ h => h) (Or.inl ⟨by rfl, ?_⟩) ?_ ?_
                        rotate_left
                        ·intro w'
                         go_simp
                         with_reducible rfl
                        rotate_left
                        ·simp only [Act.put, List.setIfInBounds_toArray, List.set_cons_zero, List.set_cons_succ, i64_w, i32_w]
                         rfl
                        refine done_ (done_of HT_.out (by kernel_rfl)) ?_
                        go_upto_region 23 with (fail)
                        go_cut [157] (fun v157 wc => ∃ (kq : Nat) (x157_68 : Bool), v157 = .bool x157_68 ∧ Aside0 (flagstonelaw39_ScoreTells.j5 kq a4 a6 t230 y233 y236 x18_1 x19_2 x24_4 x157_68 = some r) ∧ Aside0 (kq ≤ kj59) ∧ Aside0 (Kd.R k34 34 wc w.heap.size (fun _ => True) (.slice Ao32 t230.length co32) t230) ∧ Aside0 (Kd.R k42 42 wc w.heap.size (fun k_ => k_ ≠ gb228) (.slice (some ad239) y233.length co23) y233) ∧ Aside0 (Kd.R (Kd.int .i64) 3 wc w.heap.size (fun _ => True) (.slice (some ad240) y236.length co31) y236) ∧ Aside0 (wc.heap[gb228]? = some (.cells #[.int .i64 a1_0, .int .i64 a1_1, .int .i64 a1_2] 42 (0, 0))) ∧ Aside0 (wc.heap[gb245]? = some (.cells #[.int .i64 t255, .int .i64 t256, .int .i64 t257] 37 (0, 0))) ∧ Aside0 (wc.heap[gb252]? = some (.cells #[.int .i64 t261, .int .i64 t262, .int .i64 t263] 37 (0, 0))) ∧ Aside0 (Below w.heap.size w wc))
                        case first =>
                         have H := HC69.out
                         clear HC69
                         by_cases c81 : (!(t255 == t261) || (!(t256 == t262) || (!(t257 == t263)))) = true
                         ·rw [if_pos c81] at H
                          have c81b0 : (!(t255 == t261) || (!(t256 == t262) || (!(t257 == t263)))) = true := c81
                          clear c81
                          (first | rw [c81b0] | (simp only [i64_w, i32_w]; rw [c81b0]) | skip)
                          have H' := Aside0.mk H
                          clear H
                          have hnb82 := NB245_228.out
                          have hnc82 := NB228_245.out
                          have hnb83 := NB245_252.out
                          have hnc83 := NB252_245.out
                          have hcz84_0 : w77.cell? ⟨gb245, 0, none⟩ = some (.int .i64 t255) := (blk_cell BK245.out 0).trans rfl
                          have hcz84_1 : w77.cell? ⟨gb245, 1, none⟩ = some (.int .i64 t256) := (blk_cell BK245.out 1).trans rfl
                          have hcz84_2 : w77.cell? ⟨gb245, 2, none⟩ = some (.int .i64 t257) := (blk_cell BK245.out 2).trans rfl
                          have hfz84_0 := blk_frozen BK245.out 0
                          have hfz84_1 := blk_frozen BK245.out 1
                          have hfz84_2 := blk_frozen BK245.out 2
                          have hnb85 := NB252_228.out
                          have hnc85 := NB228_252.out
                          have hcz86_0 : w77.cell? ⟨gb252, 0, none⟩ = some (.int .i64 x253000_4) := (blk_cell BK252.out 0).trans rfl
                          have hcz86_1 : w77.cell? ⟨gb252, 1, none⟩ = some (.int .i64 x253001_4) := (blk_cell BK252.out 1).trans rfl
                          have hcz86_2 : w77.cell? ⟨gb252, 2, none⟩ = some (.int .i64 x253002_4) := (blk_cell BK252.out 2).trans rfl
                          have hfz86_0 := blk_frozen BK252.out 0
                          have hfz86_1 := blk_frozen BK252.out 1
                          have hfz86_2 := blk_frozen BK252.out 2
                          go_wp2
                          go_meet
                          case rel => exact ⟨_, (true), (by first | rfl | (simp; done) | (simp [*]; done) | exact congrArg (Value.int _) (by unfold wrap64; omega)), H', ⟨by have := HK1.out; have := HK2.out; have := HJ29.out; have := HK4.out; have := HJ59.out; first | omega | exact Nat.le_refl _⟩, ⟨by (with_reducible repeat (first | apply Kd.R_alloc | apply Kd.R_drewN | apply Kd.R_drew)); exact Kd.R_mono (Kd.R_far (p := ⟨gb252, 2, none⟩) (Kd.R_far (p := ⟨gb252, 1, none⟩) (Kd.R_far (p := ⟨gb252, 0, none⟩) (Kd.R_types HO_15.out BK252.out (by decide)) (fun _ hk => hk.2) (.int .i64 t261)) (fun _ hk => hk.2) (.int .i64 t262)) (fun _ hk => hk.2) (.int .i64 t263)) (fun _ hk => trivial)⟩, ⟨by (with_reducible repeat (first | apply Kd.R_alloc | apply Kd.R_drewN | apply Kd.R_drew)); exact Kd.R_mono (Kd.R_far (p := ⟨gb252, 2, none⟩) (Kd.R_far (p := ⟨gb252, 1, none⟩) (Kd.R_far (p := ⟨gb252, 0, none⟩) (Kd.R_types HO_16.out BK252.out (by decide)) (fun _ hk => hk.2) (.int .i64 t261)) (fun _ hk => hk.2) (.int .i64 t262)) (fun _ hk => hk.2) (.int .i64 t263)) (fun _ hk => hk.1)⟩, ⟨by (with_reducible repeat (first | apply Kd.R_alloc | apply Kd.R_drewN | apply Kd.R_drew)); exact Kd.R_mono (Kd.R_far (p := ⟨gb252, 2, none⟩) (Kd.R_far (p := ⟨gb252, 1, none⟩) (Kd.R_far (p := ⟨gb252, 0, none⟩) (Kd.R_types HO_17.out BK252.out (by decide)) (fun _ hk => hk.2) (.int .i64 t261)) (fun _ hk => hk.2) (.int .i64 t262)) (fun _ hk => hk.2) (.int .i64 t263)) (fun _ hk => trivial)⟩, ⟨by (with_reducible repeat (first | refine blk_drewN ?_ _ | refine blk_drew ?_ | refine blk_alloc ?_ _)); refine blk_far ?_ NB228_252.out _; (with_reducible repeat (first | refine blk_drewN ?_ _ | refine blk_drew ?_ | refine blk_alloc ?_ _)); refine blk_far ?_ NB228_252.out _; (with_reducible repeat (first | refine blk_drewN ?_ _ | refine blk_drew ?_ | refine blk_alloc ?_ _)); refine blk_far ?_ NB228_252.out _; (with_reducible repeat (first | refine blk_drewN ?_ _ | refine blk_drew ?_ | refine blk_alloc ?_ _)); exact BK228.out⟩, ⟨by (with_reducible repeat (first | refine blk_drewN ?_ _ | refine blk_drew ?_ | refine blk_alloc ?_ _)); refine blk_far ?_ NB245_252.out _; (with_reducible repeat (first | refine blk_drewN ?_ _ | refine blk_drew ?_ | refine blk_alloc ?_ _)); refine blk_far ?_ NB245_252.out _; (with_reducible repeat (first | refine blk_drewN ?_ _ | refine blk_drew ?_ | refine blk_alloc ?_ _)); refine blk_far ?_ NB245_252.out _; (with_reducible repeat (first | refine blk_drewN ?_ _ | refine blk_drew ?_ | refine blk_alloc ?_ _)); exact BK245.out⟩, ⟨by (with_reducible repeat (first | refine blk_drewN ?_ _ | refine blk_drew ?_ | refine blk_alloc ?_ _)); refine blk_put (cs := #[.int .i64 t261, .int .i64 t262, .int .i64 x253002_4]) ?_ 2 _ rfl; (with_reducible repeat (first | refine blk_drewN ?_ _ | refine blk_drew ?_ | refine blk_alloc ?_ _)); refine blk_put (cs := #[.int .i64 t261, .int .i64 x253001_4, .int .i64 x253002_4]) ?_ 1 _ rfl; (with_reducible repeat (first | refine blk_drewN ?_ _ | refine blk_drew ?_ | refine blk_alloc ?_ _)); refine blk_put (cs := #[.int .i64 x253000_4, .int .i64 x253001_4, .int .i64 x253002_4]) ?_ 0 _ rfl; (with_reducible repeat (first | refine blk_drewN ?_ _ | refine blk_drew ?_ | refine blk_alloc ?_ _)); exact BK252.out⟩, ⟨by repeat (first | (with_reducible first | exact HB.out | apply below_alloc | apply pw_below_drewN | apply below_drew1 | refine below_set ?_ GE228.out | refine below_set ?_ GE245.out | refine below_set ?_ GE252.out) | exact HB.out)⟩⟩
                         ·rw [if_neg c81] at H
                          have c81b0 : (!(t255 == t261) || (!(t256 == t262) || (!(t257 == t263)))) = false := by simpa using c81
                          clear c81
                          (first | rw [c81b0] | (simp only [i64_w, i32_w]; rw [c81b0]) | skip)
                          by_cases c87 : (t258 != t264) = true
                          ·rw [if_pos c87] at H
                           have c87b0 : (t258 != t264) = true := c87
                           (try (have c87b1 : decide (t258 = t264) = false := by simpa using c87))
                           (try (have c87b2 : (t258 == t264) = false := by simpa using c87))
                           (try (have c87b3 : ¬ (t258 = t264) := by simpa using c87))
                           clear c87
                           have H' := Aside0.mk H
                           clear H
                           have hnb88 := NB245_228.out
                           have hnc88 := NB228_245.out
                           have hnb89 := NB245_252.out
                           have hnc89 := NB252_245.out
                           have hcz90_0 : w77.cell? ⟨gb245, 0, none⟩ = some (.int .i64 t255) := (blk_cell BK245.out 0).trans rfl
                           have hcz90_1 : w77.cell? ⟨gb245, 1, none⟩ = some (.int .i64 t256) := (blk_cell BK245.out 1).trans rfl
                           have hcz90_2 : w77.cell? ⟨gb245, 2, none⟩ = some (.int .i64 t257) := (blk_cell BK245.out 2).trans rfl
                           have hfz90_0 := blk_frozen BK245.out 0
                           have hfz90_1 := blk_frozen BK245.out 1
                           have hfz90_2 := blk_frozen BK245.out 2
                           have hnb91 := NB252_228.out
                           have hnc91 := NB228_252.out
                           have hcz92_0 : w77.cell? ⟨gb252, 0, none⟩ = some (.int .i64 x253000_4) := (blk_cell BK252.out 0).trans rfl
                           have hcz92_1 : w77.cell? ⟨gb252, 1, none⟩ = some (.int .i64 x253001_4) := (blk_cell BK252.out 1).trans rfl
                           have hcz92_2 : w77.cell? ⟨gb252, 2, none⟩ = some (.int .i64 x253002_4) := (blk_cell BK252.out 2).trans rfl
                           have hfz92_0 := blk_frozen BK252.out 0
                           have hfz92_1 := blk_frozen BK252.out 1
                           have hfz92_2 := blk_frozen BK252.out 2
                           go_wp2
                           go_meet
                           case rel => exact ⟨_, (true), (by first | rfl | (simp; done) | (simp [*]; done) | exact congrArg (Value.int _) (by unfold wrap64; omega)), H', ⟨by have := HK1.out; have := HK2.out; have := HJ29.out; have := HK4.out; have := HJ59.out; first | omega | exact Nat.le_refl _⟩, ⟨by (with_reducible repeat (first | apply Kd.R_alloc | apply Kd.R_drewN | apply Kd.R_drew)); exact Kd.R_mono (Kd.R_far (p := ⟨gb252, 2, none⟩) (Kd.R_far (p := ⟨gb252, 1, none⟩) (Kd.R_far (p := ⟨gb252, 0, none⟩) (Kd.R_types HO_15.out BK252.out (by decide)) (fun _ hk => hk.2) (.int .i64 t261)) (fun _ hk => hk.2) (.int .i64 t262)) (fun _ hk => hk.2) (.int .i64 t263)) (fun _ hk => trivial)⟩, ⟨by (with_reducible repeat (first | apply Kd.R_alloc | apply Kd.R_drewN | apply Kd.R_drew)); exact Kd.R_mono (Kd.R_far (p := ⟨gb252, 2, none⟩) (Kd.R_far (p := ⟨gb252, 1, none⟩) (Kd.R_far (p := ⟨gb252, 0, none⟩) (Kd.R_types HO_16.out BK252.out (by decide)) (fun _ hk => hk.2) (.int .i64 t261)) (fun _ hk => hk.2) (.int .i64 t262)) (fun _ hk => hk.2) (.int .i64 t263)) (fun _ hk => hk.1)⟩, ⟨by (with_reducible repeat (first | apply Kd.R_alloc | apply Kd.R_drewN | apply Kd.R_drew)); exact Kd.R_mono (Kd.R_far (p := ⟨gb252, 2, none⟩) (Kd.R_far (p := ⟨gb252, 1, none⟩) (Kd.R_far (p := ⟨gb252, 0, none⟩) (Kd.R_types HO_17.out BK252.out (by decide)) (fun _ hk => hk.2) (.int .i64 t261)) (fun _ hk => hk.2) (.int .i64 t262)) (fun _ hk => hk.2) (.int .i64 t263)) (fun _ hk => trivial)⟩, ⟨by (with_reducible repeat (first | refine blk_drewN ?_ _ | refine blk_drew ?_ | refine blk_alloc ?_ _)); refine blk_far ?_ NB228_252.out _; (with_reducible repeat (first | refine blk_drewN ?_ _ | refine blk_drew ?_ | refine blk_alloc ?_ _)); refine blk_far ?_ NB228_252.out _; (with_reducible repeat (first | refine blk_drewN ?_ _ | refine blk_drew ?_ | refine blk_alloc ?_ _)); refine blk_far ?_ NB228_252.out _; (with_reducible repeat (first | refine blk_drewN ?_ _ | refine blk_drew ?_ | refine blk_alloc ?_ _)); exact BK228.out⟩, ⟨by (with_reducible repeat (first | refine blk_drewN ?_ _ | refine blk_drew ?_ | refine blk_alloc ?_ _)); refine blk_far ?_ NB245_252.out _; (with_reducible repeat (first | refine blk_drewN ?_ _ | refine blk_drew ?_ | refine blk_alloc ?_ _)); refine blk_far ?_ NB245_252.out _; (with_reducible repeat (first | refine blk_drewN ?_ _ | refine blk_drew ?_ | refine blk_alloc ?_ _)); refine blk_far ?_ NB245_252.out _; (with_reducible repeat (first | refine blk_drewN ?_ _ | refine blk_drew ?_ | refine blk_alloc ?_ _)); exact BK245.out⟩, ⟨by (with_reducible repeat (first | refine blk_drewN ?_ _ | refine blk_drew ?_ | refine blk_alloc ?_ _)); refine blk_put (cs := #[.int .i64 t261, .int .i64 t262, .int .i64 x253002_4]) ?_ 2 _ rfl; (with_reducible repeat (first | refine blk_drewN ?_ _ | refine blk_drew ?_ | refine blk_alloc ?_ _)); refine blk_put (cs := #[.int .i64 t261, .int .i64 x253001_4, .int .i64 x253002_4]) ?_ 1 _ rfl; (with_reducible repeat (first | refine blk_drewN ?_ _ | refine blk_drew ?_ | refine blk_alloc ?_ _)); refine blk_put (cs := #[.int .i64 x253000_4, .int .i64 x253001_4, .int .i64 x253002_4]) ?_ 0 _ rfl; (with_reducible repeat (first | refine blk_drewN ?_ _ | refine blk_drew ?_ | refine blk_alloc ?_ _)); exact BK252.out⟩, ⟨by repeat (first | (with_reducible first | exact HB.out | apply below_alloc | apply pw_below_drewN | apply below_drew1 | refine below_set ?_ GE228.out | refine below_set ?_ GE245.out | refine below_set ?_ GE252.out) | exact HB.out)⟩⟩
                          ·rw [if_neg c87] at H
                           have c87b0 : (t258 != t264) = false := by simpa using c87
                           (try (have c87b1 : decide (t258 = t264) = true := by simpa using c87))
                           (try (have c87b2 : (t258 == t264) = true := by simpa using c87))
                           clear c87
                           by_cases c93 : t258 = true
                           ·subst c93
                            have H1 : ((score_Valid.f t255 t256 t257).bind fun t265 => (flagstonelaw39_ScoreTells.j5 kj59 a4 a6 t230 y233 y236 x18_1 x19_2 x24_4 (!t265))) = some r := by rw [if_pos rfl] at H; exact H
                            clear H
                            have H := H1
                            clear H1
                            replace H := Option.bind_eq_some_iff.mp H
                            obtain ⟨t265, A940, H⟩ := H
                            replace H : (flagstonelaw39_ScoreTells.j5 kj59 a4 a6 t230 y233 y236 x18_1 x19_2 x24_4 (!t265)) = some r := H
                            have A94 := Aside0.mk A940
                            clear A940
                            have H' := Aside0.mk H
                            clear H
                            have hnb95 := NB245_228.out
                            have hnc95 := NB228_245.out
                            have hnb96 := NB245_252.out
                            have hnc96 := NB252_245.out
                            have hcz97_0 : w77.cell? ⟨gb245, 0, none⟩ = some (.int .i64 t255) := (blk_cell BK245.out 0).trans rfl
                            have hcz97_1 : w77.cell? ⟨gb245, 1, none⟩ = some (.int .i64 t256) := (blk_cell BK245.out 1).trans rfl
                            have hcz97_2 : w77.cell? ⟨gb245, 2, none⟩ = some (.int .i64 t257) := (blk_cell BK245.out 2).trans rfl
                            have hfz97_0 := blk_frozen BK245.out 0
                            have hfz97_1 := blk_frozen BK245.out 1
                            have hfz97_2 := blk_frozen BK245.out 2
                            have hnb98 := NB252_228.out
                            have hnc98 := NB228_252.out
                            have hcz99_0 : w77.cell? ⟨gb252, 0, none⟩ = some (.int .i64 x253000_4) := (blk_cell BK252.out 0).trans rfl
                            have hcz99_1 : w77.cell? ⟨gb252, 1, none⟩ = some (.int .i64 x253001_4) := (blk_cell BK252.out 1).trans rfl
                            have hcz99_2 : w77.cell? ⟨gb252, 2, none⟩ = some (.int .i64 x253002_4) := (blk_cell BK252.out 2).trans rfl
                            have hfz99_0 := blk_frozen BK252.out 0
                            have hfz99_1 := blk_frozen BK252.out 1
                            have hfz99_2 := blk_frozen BK252.out 2
                            go_wp2_with (first | (go_at_call 17; (with_reducible refine (score_Valid.calls t255 t256 t257 t265 _ A94.out).mono ?_); rintro e w100 ⟨rfl, hb⟩; have n0_ := Aside0.mk (Kd.R_below (by (with_reducible repeat (first | apply Kd.R_alloc | apply Kd.R_drewN | apply Kd.R_drew)); exact (Kd.R_mono (Kd.R_far (p := ⟨gb252, 2, none⟩) (Kd.R_far (p := ⟨gb252, 1, none⟩) (Kd.R_far (p := ⟨gb252, 0, none⟩) (Kd.R_types HO_15.out BK252.out (by decide)) (fun _ hk => hk.2) (.int .i64 t261)) (fun _ hk => hk.2) (.int .i64 t262)) (fun _ hk => hk.2) (.int .i64 t263)) (fun _ h_ => h_.1))) hb); have n1_ := Aside0.mk (Kd.R_below (by (with_reducible repeat (first | apply Kd.R_alloc | apply Kd.R_drewN | apply Kd.R_drew)); exact (Kd.R_mono (Kd.R_far (p := ⟨gb252, 2, none⟩) (Kd.R_far (p := ⟨gb252, 1, none⟩) (Kd.R_far (p := ⟨gb252, 0, none⟩) (Kd.R_types HO_16.out BK252.out (by decide)) (fun _ hk => hk.2) (.int .i64 t261)) (fun _ hk => hk.2) (.int .i64 t262)) (fun _ hk => hk.2) (.int .i64 t263)) (fun _ h_ => h_.1))) hb); have n2_ := Aside0.mk (Kd.R_below (by (with_reducible repeat (first | apply Kd.R_alloc | apply Kd.R_drewN | apply Kd.R_drew)); exact (Kd.R_mono (Kd.R_far (p := ⟨gb252, 2, none⟩) (Kd.R_far (p := ⟨gb252, 1, none⟩) (Kd.R_far (p := ⟨gb252, 0, none⟩) (Kd.R_types HO_17.out BK252.out (by decide)) (fun _ hk => hk.2) (.int .i64 t261)) (fun _ hk => hk.2) (.int .i64 t262)) (fun _ hk => hk.2) (.int .i64 t263)) (fun _ h_ => h_.1))) hb); have n3_ := Aside0.mk (blk_below (g := gb228) (o := .cells #[.int .i64 a1_0, .int .i64 a1_1, .int .i64 a1_2] 42 (0, 0)) (by (with_reducible repeat (first | refine blk_drewN ?_ _ | refine blk_drew ?_ | refine blk_alloc ?_ _)); refine blk_far ?_ NB228_252.out _; (with_reducible repeat (first | refine blk_drewN ?_ _ | refine blk_drew ?_ | refine blk_alloc ?_ _)); refine blk_far ?_ NB228_252.out _; (with_reducible repeat (first | refine blk_drewN ?_ _ | refine blk_drew ?_ | refine blk_alloc ?_ _)); refine blk_far ?_ NB228_252.out _; (with_reducible repeat (first | refine blk_drewN ?_ _ | refine blk_drew ?_ | refine blk_alloc ?_ _)); exact BK228.out) hb); have n4_ := Aside0.mk (blk_below (g := gb245) (o := .cells #[.int .i64 t255, .int .i64 t256, .int .i64 t257] 37 (0, 0)) (by (with_reducible repeat (first | refine blk_drewN ?_ _ | refine blk_drew ?_ | refine blk_alloc ?_ _)); refine blk_far ?_ NB245_252.out _; (with_reducible repeat (first | refine blk_drewN ?_ _ | refine blk_drew ?_ | refine blk_alloc ?_ _)); refine blk_far ?_ NB245_252.out _; (with_reducible repeat (first | refine blk_drewN ?_ _ | refine blk_drew ?_ | refine blk_alloc ?_ _)); refine blk_far ?_ NB245_252.out _; (with_reducible repeat (first | refine blk_drewN ?_ _ | refine blk_drew ?_ | refine blk_alloc ?_ _)); exact BK245.out) hb); have n5_ := Aside0.mk (blk_below (g := gb252) (o := .cells #[.int .i64 t261, .int .i64 t262, .int .i64 t263] 37 (0, 0)) (by (with_reducible repeat (first | refine blk_drewN ?_ _ | refine blk_drew ?_ | refine blk_alloc ?_ _)); refine blk_put (cs := #[.int .i64 t261, .int .i64 t262, .int .i64 x253002_4]) ?_ 2 _ rfl; (with_reducible repeat (first | refine blk_drewN ?_ _ | refine blk_drew ?_ | refine blk_alloc ?_ _)); refine blk_put (cs := #[.int .i64 t261, .int .i64 x253001_4, .int .i64 x253002_4]) ?_ 1 _ rfl; (with_reducible repeat (first | refine blk_drewN ?_ _ | refine blk_drew ?_ | refine blk_alloc ?_ _)); refine blk_put (cs := #[.int .i64 x253000_4, .int .i64 x253001_4, .int .i64 x253002_4]) ?_ 0 _ rfl; (with_reducible repeat (first | refine blk_drewN ?_ _ | refine blk_drew ?_ | refine blk_alloc ?_ _)); exact BK252.out) hb); have n6_ := Aside0.mk (below_step (by repeat (first | (with_reducible first | exact HB.out | apply below_alloc | apply pw_below_drewN | apply below_drew1 | refine below_set ?_ GE228.out | refine below_set ?_ GE245.out | refine below_set ?_ GE252.out) | exact HB.out)) hb); clear HO_15; clear HO_16; clear HO_17; clear BK228; clear BK245; clear BK252; clear HB; have HO_15 := n0_; have HO_16 := n1_; have HO_17 := n2_; have BK228 := n3_; have BK245 := n4_; have BK252 := n5_; have HB := n6_; clear n0_ n1_ n2_ n3_ n4_ n5_ n6_; (try clear hb); (try clear hb2); (try clear hk); (try clear hi)))
                            go_meet
                            case rel => exact ⟨_, (!t265), (by first | rfl | (simp; done) | (simp [*]; done) | exact congrArg (Value.int _) (by unfold wrap64; omega)), H', ⟨by have := HK1.out; have := HK2.out; have := HJ29.out; have := HK4.out; have := HJ59.out; first | omega | exact Nat.le_refl _⟩, ⟨by (with_reducible repeat (first | apply Kd.R_alloc | apply Kd.R_drewN | apply Kd.R_drew)); exact HO_15.out⟩, ⟨by (with_reducible repeat (first | apply Kd.R_alloc | apply Kd.R_drewN | apply Kd.R_drew)); exact HO_16.out⟩, ⟨by (with_reducible repeat (first | apply Kd.R_alloc | apply Kd.R_drewN | apply Kd.R_drew)); exact HO_17.out⟩, ⟨by (with_reducible repeat (first | refine blk_drewN ?_ _ | refine blk_drew ?_ | refine blk_alloc ?_ _)); exact BK228.out⟩, ⟨by (with_reducible repeat (first | refine blk_drewN ?_ _ | refine blk_drew ?_ | refine blk_alloc ?_ _)); exact BK245.out⟩, ⟨by (with_reducible repeat (first | refine blk_drewN ?_ _ | refine blk_drew ?_ | refine blk_alloc ?_ _)); exact BK252.out⟩, ⟨by repeat (first | (with_reducible first | exact HB.out | apply below_alloc | apply pw_below_drewN | apply below_drew1 | refine below_set ?_ GE228.out | refine below_set ?_ GE245.out | refine below_set ?_ GE252.out) | exact HB.out)⟩⟩
                           ·replace c93 := Bool.eq_false_iff.mpr c93
                            subst c93
                            have H1 : (flagstonelaw39_ScoreTells.j5 kj59 a4 a6 t230 y233 y236 x18_1 x19_2 x24_4 false) = some r := by rw [if_neg (show ¬ (false = true) by decide)] at H; exact H
                            clear H
                            have H := H1
                            clear H1
                            have H' := Aside0.mk H
                            clear H
                            have hnb101 := NB245_228.out
                            have hnc101 := NB228_245.out
                            have hnb102 := NB245_252.out
                            have hnc102 := NB252_245.out
                            have hcz103_0 : w77.cell? ⟨gb245, 0, none⟩ = some (.int .i64 t255) := (blk_cell BK245.out 0).trans rfl
                            have hcz103_1 : w77.cell? ⟨gb245, 1, none⟩ = some (.int .i64 t256) := (blk_cell BK245.out 1).trans rfl
                            have hcz103_2 : w77.cell? ⟨gb245, 2, none⟩ = some (.int .i64 t257) := (blk_cell BK245.out 2).trans rfl
                            have hfz103_0 := blk_frozen BK245.out 0
                            have hfz103_1 := blk_frozen BK245.out 1
                            have hfz103_2 := blk_frozen BK245.out 2
                            have hnb104 := NB252_228.out
                            have hnc104 := NB228_252.out
                            have hcz105_0 : w77.cell? ⟨gb252, 0, none⟩ = some (.int .i64 x253000_4) := (blk_cell BK252.out 0).trans rfl
                            have hcz105_1 : w77.cell? ⟨gb252, 1, none⟩ = some (.int .i64 x253001_4) := (blk_cell BK252.out 1).trans rfl
                            have hcz105_2 : w77.cell? ⟨gb252, 2, none⟩ = some (.int .i64 x253002_4) := (blk_cell BK252.out 2).trans rfl
                            have hfz105_0 := blk_frozen BK252.out 0
                            have hfz105_1 := blk_frozen BK252.out 1
                            have hfz105_2 := blk_frozen BK252.out 2
                            go_wp2
                            go_meet
                            case rel => exact ⟨_, (false), (by first | rfl | (simp; done) | (simp [*]; done) | exact congrArg (Value.int _) (by unfold wrap64; omega)), H', ⟨by have := HK1.out; have := HK2.out; have := HJ29.out; have := HK4.out; have := HJ59.out; first | omega | exact Nat.le_refl _⟩, ⟨by (with_reducible repeat (first | apply Kd.R_alloc | apply Kd.R_drewN | apply Kd.R_drew)); exact Kd.R_mono (Kd.R_far (p := ⟨gb252, 2, none⟩) (Kd.R_far (p := ⟨gb252, 1, none⟩) (Kd.R_far (p := ⟨gb252, 0, none⟩) (Kd.R_types HO_15.out BK252.out (by decide)) (fun _ hk => hk.2) (.int .i64 t261)) (fun _ hk => hk.2) (.int .i64 t262)) (fun _ hk => hk.2) (.int .i64 t263)) (fun _ hk => trivial)⟩, ⟨by (with_reducible repeat (first | apply Kd.R_alloc | apply Kd.R_drewN | apply Kd.R_drew)); exact Kd.R_mono (Kd.R_far (p := ⟨gb252, 2, none⟩) (Kd.R_far (p := ⟨gb252, 1, none⟩) (Kd.R_far (p := ⟨gb252, 0, none⟩) (Kd.R_types HO_16.out BK252.out (by decide)) (fun _ hk => hk.2) (.int .i64 t261)) (fun _ hk => hk.2) (.int .i64 t262)) (fun _ hk => hk.2) (.int .i64 t263)) (fun _ hk => hk.1)⟩, ⟨by (with_reducible repeat (first | apply Kd.R_alloc | apply Kd.R_drewN | apply Kd.R_drew)); exact Kd.R_mono (Kd.R_far (p := ⟨gb252, 2, none⟩) (Kd.R_far (p := ⟨gb252, 1, none⟩) (Kd.R_far (p := ⟨gb252, 0, none⟩) (Kd.R_types HO_17.out BK252.out (by decide)) (fun _ hk => hk.2) (.int .i64 t261)) (fun _ hk => hk.2) (.int .i64 t262)) (fun _ hk => hk.2) (.int .i64 t263)) (fun _ hk => trivial)⟩, ⟨by (with_reducible repeat (first | refine blk_drewN ?_ _ | refine blk_drew ?_ | refine blk_alloc ?_ _)); refine blk_far ?_ NB228_252.out _; (with_reducible repeat (first | refine blk_drewN ?_ _ | refine blk_drew ?_ | refine blk_alloc ?_ _)); refine blk_far ?_ NB228_252.out _; (with_reducible repeat (first | refine blk_drewN ?_ _ | refine blk_drew ?_ | refine blk_alloc ?_ _)); refine blk_far ?_ NB228_252.out _; (with_reducible repeat (first | refine blk_drewN ?_ _ | refine blk_drew ?_ | refine blk_alloc ?_ _)); exact BK228.out⟩, ⟨by (with_reducible repeat (first | refine blk_drewN ?_ _ | refine blk_drew ?_ | refine blk_alloc ?_ _)); refine blk_far ?_ NB245_252.out _; (with_reducible repeat (first | refine blk_drewN ?_ _ | refine blk_drew ?_ | refine blk_alloc ?_ _)); refine blk_far ?_ NB245_252.out _; (with_reducible repeat (first | refine blk_drewN ?_ _ | refine blk_drew ?_ | refine blk_alloc ?_ _)); refine blk_far ?_ NB245_252.out _; (with_reducible repeat (first | refine blk_drewN ?_ _ | refine blk_drew ?_ | refine blk_alloc ?_ _)); exact BK245.out⟩, ⟨by (with_reducible repeat (first | refine blk_drewN ?_ _ | refine blk_drew ?_ | refine blk_alloc ?_ _)); refine blk_put (cs := #[.int .i64 t261, .int .i64 t262, .int .i64 x253002_4]) ?_ 2 _ rfl; (with_reducible repeat (first | refine blk_drewN ?_ _ | refine blk_drew ?_ | refine blk_alloc ?_ _)); refine blk_put (cs := #[.int .i64 t261, .int .i64 x253001_4, .int .i64 x253002_4]) ?_ 1 _ rfl; (with_reducible repeat (first | refine blk_drewN ?_ _ | refine blk_drew ?_ | refine blk_alloc ?_ _)); refine blk_put (cs := #[.int .i64 x253000_4, .int .i64 x253001_4, .int .i64 x253002_4]) ?_ 0 _ rfl; (with_reducible repeat (first | refine blk_drewN ?_ _ | refine blk_drew ?_ | refine blk_alloc ?_ _)); exact BK252.out⟩, ⟨by repeat (first | (with_reducible first | exact HB.out | apply below_alloc | apply pw_below_drewN | apply below_drew1 | refine below_set ?_ GE228.out | refine below_set ?_ GE245.out | refine below_set ?_ GE252.out) | exact HB.out)⟩⟩
                        case rest =>
                         clear HC69
                         try clear c1
                         try clear c2
                         try clear p2
                         try clear q2
                         try clear hx2
                         try clear p6
                         try clear c8
                         try clear c9
                         try clear c10
                         try clear c19
                         try clear c20
                         try clear p25
                         try clear q25
                         try clear hx25
                         try clear p26
                         try clear q26
                         try clear hx26
                         try clear p64
                         try clear c81
                         try clear c81b0
                         try clear c82
                         try clear c83
                         try clear c85
                         try clear c87
                         try clear c87b0
                         try clear c87b1
                         try clear c87b2
                         try clear c88
                         try clear c89
                         try clear c91
                         try clear c93
                         try clear c95
                         try clear c96
                         try clear c98
                         try clear c101
                         try clear c102
                         try clear c104
                         try clear hcz103_0
                         try clear hcz103_1
                         try clear hcz103_2
                         try clear hcz105_0
                         try clear hcz105_1
                         try clear hcz105_2
                         try clear hcz84_0
                         try clear hcz84_1
                         try clear hcz84_2
                         try clear hcz86_0
                         try clear hcz86_1
                         try clear hcz86_2
                         try clear hcz90_0
                         try clear hcz90_1
                         try clear hcz90_2
                         try clear hcz92_0
                         try clear hcz92_1
                         try clear hcz92_2
                         try clear hcz97_0
                         try clear hcz97_1
                         try clear hcz97_2
                         try clear hcz99_0
                         try clear hcz99_1
                         try clear hcz99_2
                         try clear hfz103_0
                         try clear hfz103_1
                         try clear hfz103_2
                         try clear hfz105_0
                         try clear hfz105_1
                         try clear hfz105_2
                         try clear hfz84_0
                         try clear hfz84_1
                         try clear hfz84_2
                         try clear hfz86_0
                         try clear hfz86_1
                         try clear hfz86_2
                         try clear hfz90_0
                         try clear hfz90_1
                         try clear hfz90_2
                         try clear hfz92_0
                         try clear hfz92_1
                         try clear hfz92_2
                         try clear hfz97_0
                         try clear hfz97_1
                         try clear hfz97_2
                         try clear hfz99_0
                         try clear hfz99_1
                         try clear hfz99_2
                         try clear hx253_0
                         try clear hx253_1
                         try clear hx253_2
                         try clear hx254_0
                         try clear hx259_0
                         try clear hx259_1
                         try clear hx259_2
                         try clear hx260_0
                         try clear p253
                         try clear p254
                         try clear p259
                         try clear p260
                         try clear q253
                         try clear q254
                         try clear q259
                         try clear q260
                         obtain ⟨kq, x157_68, rfl, HA, HJ68, HO_15, HO_16, HO_17, BK228, BK245, BK252, HB⟩ := hcut
                         cases kq with
                         | zero => exact absurd HA.out (by simp [flagstonelaw39_ScoreTells.j5])
                         | succ kj68 =>
                          have H := HA.out
                          clear HA
                          simp only [flagstonelaw39_ScoreTells.j5] at H
                          by_cases c106 : x157_68 = true
                          ·subst c106
                           have H1 : (some false) = some r := by rw [if_pos rfl] at H; exact H
                           clear H
                           have H := H1
                           clear H1
                           obtain rfl := Option.some.inj H
                           go_wp2
                           go_ret
                           exact ⟨by first | rfl | (simp [errW_none, errW_some] <;> rfl) | (simp [*, errW_none, errW_some] <;> rfl), by repeat (first | (with_reducible first | exact HB.out | apply below_alloc | apply pw_below_drewN | apply below_drew1 | refine below_set ?_ GE228.out | refine below_set ?_ GE245.out | refine below_set ?_ GE252.out) | exact HB.out)⟩
                          ·replace c106 := Bool.eq_false_iff.mpr c106
                           subst c106
                           have H1 : (flagstonelaw39_ScoreTells.l2 kj68 a4 a6 t230 y233 y236 x18_1 x19_2 (wrap64 (x24_4 + 3))) = some r := by rw [if_neg (show ¬ (false = true) by decide)] at H; exact H
                           clear H
                           have H := H1
                           clear H1
                           have H' := Aside0.mk H
                           clear H
                           go_wp2
                           go_roundg kj68
                           case measure => have := HK1.out; have := HK2.out; have := HJ29.out; have := HK4.out; have := HJ59.out; have := HJ68.out; omega
                           case rel => exact ⟨(wrap64 (x24_4 + 3)), (t255), (t256), (t257), (t261), (t262), (t263), (by first | rfl | (simp; done) | (simp [*]; done) | exact congrArg (Value.int _) (by unfold wrap64; omega)), H', ⟨by have := HK1.out; have := HK2.out; have := HJ29.out; have := HK4.out; have := HJ59.out; have := HJ68.out; omega⟩, ⟨by (with_reducible repeat (first | apply Kd.R_alloc | apply Kd.R_drewN | apply Kd.R_drew)); exact HO_15.out⟩, ⟨by (with_reducible repeat (first | apply Kd.R_alloc | apply Kd.R_drewN | apply Kd.R_drew)); exact HO_16.out⟩, ⟨by (with_reducible repeat (first | apply Kd.R_alloc | apply Kd.R_drewN | apply Kd.R_drew)); exact HO_17.out⟩, ⟨by (with_reducible repeat (first | refine blk_drewN ?_ _ | refine blk_drew ?_ | refine blk_alloc ?_ _)); exact BK228.out⟩, ⟨by (with_reducible repeat (first | refine blk_drewN ?_ _ | refine blk_drew ?_ | refine blk_alloc ?_ _)); exact BK245.out⟩, ⟨by (with_reducible repeat (first | refine blk_drewN ?_ _ | refine blk_drew ?_ | refine blk_alloc ?_ _)); exact BK252.out⟩, ⟨by repeat (first | (with_reducible first | exact HB.out | apply below_alloc | apply pw_below_drewN | apply below_drew1 | refine below_set ?_ GE228.out | refine below_set ?_ GE245.out | refine below_set ?_ GE252.out) | exact HB.out)⟩⟩
                       ·rw [if_neg c66] at H
                        exact absurd H (by simp)
                      ·rw [if_neg c65] at H
                       exact absurd H (by simp)
                     ·rw [if_neg c64] at H
                      exact absurd H (by simp)
                    ·rw [if_neg c63] at H
                     exact absurd H (by simp)
                   ·replace c62 := Bool.eq_false_iff.mpr c62
                    subst c62
                    have H1 : (flagstonelaw39_ScoreTells.l1 kj59 a4 a6 t230 y233 y236 x18_1 (wrap64 (x19_2 + 1))) = some r := by rw [if_neg (show ¬ (false = true) by decide)] at H; exact H
                    clear H
                    have H := H1
                    clear H1
                    have H' := Aside0.mk H
                    clear H
                    go_wp2
                    go_roundg kj59
                    case measure => have := HK1.out; have := HK2.out; have := HJ29.out; have := HK4.out; have := HJ59.out; omega
                    case rel => exact ⟨(wrap64 (x19_2 + 1)), (by first | rfl | (simp; done) | (simp [*]; done) | exact congrArg (Value.int _) (by unfold wrap64; omega)), H', ⟨by have := HK1.out; have := HK2.out; have := HJ29.out; have := HK4.out; have := HJ59.out; omega⟩, ⟨by (with_reducible repeat (first | apply Kd.R_alloc | apply Kd.R_drewN | apply Kd.R_drew)); exact HO_15.out⟩, ⟨by (with_reducible repeat (first | apply Kd.R_alloc | apply Kd.R_drewN | apply Kd.R_drew)); exact HO_16.out⟩, ⟨by (with_reducible repeat (first | apply Kd.R_alloc | apply Kd.R_drewN | apply Kd.R_drew)); exact HO_17.out⟩, ⟨by (with_reducible repeat (first | refine blk_drewN ?_ _ | refine blk_drew ?_ | refine blk_alloc ?_ _)); exact BK228.out⟩, ⟨by repeat (first | (with_reducible first | exact HB.out | apply below_alloc | apply pw_below_drewN | apply below_drew1 | refine below_set ?_ GE228.out | refine below_set ?_ GE245.out | refine below_set ?_ GE252.out) | exact HB.out)⟩⟩
           ·rw [if_neg c27] at H
            exact absurd H (by simp)
          ·rw [if_neg c26] at H
           exact absurd H (by simp)
         ·rw [if_neg c25] at H
          exact absurd H (by simp)
        ·rw [if_neg c24] at H
         have c24b0 : decide (x19_2 < (y236.length : Int)) = false := decide_eq_false c24
         clear c24
         have H' := Aside0.mk H
         clear H
         obtain ⟨Ao107, co107, eo107⟩ := Kd.R_slice HO_17.out
         subst eo107
         go_wp2
         go_roundg k2
         case measure => have := HK1.out; have := HK2.out; omega
         case rel => exact ⟨(wrap64 (x18_1 + 1)), (by first | rfl | (simp; done) | (simp [*]; done) | exact congrArg (Value.int _) (by unfold wrap64; omega)), H', ⟨by have := HK1.out; have := HK2.out; omega⟩, ⟨by (with_reducible repeat (first | apply Kd.R_alloc | apply Kd.R_drewN | apply Kd.R_drew)); exact HO_15.out⟩, ⟨by (with_reducible repeat (first | apply Kd.R_alloc | apply Kd.R_drewN | apply Kd.R_drew)); exact HO_16.out⟩, ⟨by (with_reducible repeat (first | apply Kd.R_alloc | apply Kd.R_drewN | apply Kd.R_drew)); exact HO_17.out⟩, ⟨by (with_reducible repeat (first | refine blk_drewN ?_ _ | refine blk_drew ?_ | refine blk_alloc ?_ _)); exact BK228.out⟩, ⟨by repeat (first | (with_reducible first | exact HB.out | apply below_alloc | apply pw_below_drewN | apply below_drew1 | refine below_set ?_ GE228.out) | exact HB.out)⟩⟩
     ·rw [if_neg c22] at H
      have c22b0 : decide (x18_1 < (y233.length : Int)) = false := decide_eq_false c22
      clear c22
      obtain rfl := Option.some.inj H
      obtain ⟨Ao108, co108, eo108⟩ := Kd.R_slice HO_16.out
      subst eo108
      go_wp2
      go_ret
      exact ⟨by first | rfl | (simp [errW_none, errW_some] <;> rfl) | (simp [*, errW_none, errW_some] <;> rfl), by repeat (first | (with_reducible first | exact HB.out | apply below_alloc | apply pw_below_drewN | apply below_drew1 | refine below_set ?_ GE228.out) | exact HB.out)⟩
 ·replace c9 := Bool.eq_false_iff.mpr c9
  subst c9
  have H1 : (some false) = some r := by rw [if_neg (show ¬ (false = true) by decide)] at H; exact H
  clear H
  have H := H1
  clear H1
  obtain rfl := Option.some.inj H
  go_enter Try.func6, Try.ntmps6
  go_wp2_with (first | ((with_reducible refine gate_dst (N := 8) rfl ?_); refine box_event ?hg (N := 8) ?hd (cs := #[.int .i64 a1_0, .int .i64 a1_1, .int .i64 a1_2]) (t := 42) ?hr ?_; (case hd => rfl); (case hg => rfl); (case hr => first | (go_simp; done) | (go_simp; rfl)); intro gb228 hg w109 hbox hb; have n0_ := Aside0.mk (below_step (by repeat (first | (with_reducible first | exact HB.out | apply below_alloc | apply pw_below_drewN | apply below_drew1) | exact HB.out)) hb); have n1_ := Aside0.mk (hbox); have n2_ := Aside0.mk ((by rw [hg]; exact (below_size (by repeat (first | (with_reducible first | exact HB.out | apply below_alloc | apply pw_below_drewN | apply below_drew1) | exact HB.out))) : w.heap.size ≤ gb228)); have n3_ := Aside0.mk ((by rw [hg]; exact (below_size (by repeat (first | (with_reducible first | exact HB.out | apply below_alloc | apply pw_below_drewN | apply below_drew1) | exact HB.out))) : w.heap.size ≤ gb228)); clear HB; have HB := n0_; have BK228 := n1_; have GW228 := n2_; have GE228 := n3_; clear n0_ n1_ n2_ n3_; clear hb hbox hg) | ((with_reducible refine gate_callee (f := 11) rfl ?_); refine goesL_ (some 25) rfl rfl Try.func11 (by kernel_rfl) rfl #[] rfl (by (try simp only [List.map_toArray, List.map_cons, List.map_nil]); first | done | rfl | (simp only [List.length_drop, List.length_take]; rfl)) ?_; (with_reducible refine (flagstonelaw39_awake.calls k  false _ A8.out).mono ?_); rintro e w110 ⟨rfl, hb⟩; refine ⟨_, rfl, ?_⟩; have n0_ := Aside0.mk (blk_below (g := gb228) (o := .cells #[.int .i64 a1_0, .int .i64 a1_1, .int .i64 a1_2] 42 (0, 0)) (by (with_reducible repeat (first | refine blk_drewN ?_ _ | refine blk_drew ?_ | refine blk_alloc ?_ _)); exact BK228.out) hb); have n1_ := Aside0.mk (below_step (by repeat (first | (with_reducible first | exact HB.out | apply below_alloc | apply pw_below_drewN | apply below_drew1 | refine below_set ?_ GE228.out) | exact HB.out)) hb); clear BK228; clear HB; have BK228 := n0_; have HB := n1_; clear n0_ n1_; (try clear hb); (try clear hb2); (try clear hk); (try clear hi)))
  go_ret
  exact ⟨by first | rfl | (simp [errW_none, errW_some] <;> rfl) | (simp [*, errW_none, errW_some] <;> rfl), by repeat (first | (with_reducible first | exact HB.out | apply below_alloc | apply pw_below_drewN | apply below_drew1 | refine below_set ?_ GE228.out) | exact HB.out)⟩

/-- THE ONE PURE STATEMENT of flagstonelaw39_ScoreTells: yours. -/
def flagstonelaw39_ScoreTells.Pure : Prop := ∀ (l0 : List Int) (a1_0 : Int) (a1_1 : Int) (a1_2 : Int) (a2 : Int) (a3 : Int) (a4 : Int) (a5 : Int) (a6 : Bool), l0.length ≤ maxLen → l0.length * 1 ≤ 140737488351232 → (∀ x ∈ l0, (Lit.int .u8 x).wf = true) → (Lit.int .i64 a1_0).wf = true → (Lit.int .i64 a1_1).wf = true → (Lit.int .i64 a1_2).wf = true → (Lit.int .u8 a2).wf = true → (Lit.int .u8 a3).wf = true → (Lit.int .i64 a4).wf = true → (Lit.int .i64 a5).wf = true → ∃ k, flagstonelaw39_ScoreTells.f k l0 a1_0 a1_1 a1_2 a2 a3 a4 a5 a6 = some true

end Go.Proofs.Ytdmhdbebjjhopaa.PA
